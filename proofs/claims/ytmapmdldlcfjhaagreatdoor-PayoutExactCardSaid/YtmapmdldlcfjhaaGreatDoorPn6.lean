/-
  Part 6 of the texts that the law's proof is made of: the framework and the walks.
-/
import Derived.Test.YtmapmdldlcfjhaaGreatDoorPn5
import Derived.Lib.MinMax
namespace Go.Proofs.YtmapmdldlcfjhaaGreatDoor
open Go Go.RowKit Go.Sx
/-- The magnitude of an integer part. -/
def flN (q : Rat) : Nat := if q.num < 0 ∧ q.num.natAbs % q.den ≠ 0 then q.num.natAbs / q.den + 1 else q.num.natAbs / q.den
theorem flN_eq (q : Rat) : sg (decide (q.num < 0)) (flN q) = q.floor := by
  rw [Rat.floor_def]
  have hd : 0 < q.den := Nat.pos_of_ne_zero q.den_nz
  unfold flN sg
  generalize q.num = z
  generalize q.den = d at *
  by_cases h : z < 0
  · obtain ⟨m, rfl⟩ : ∃ m : Nat, z = -(m : Int) := ⟨z.natAbs, by omega⟩
    rw [decide_eq_true h, if_pos rfl, Int.natAbs_neg, Int.natAbs_natCast, Int.neg_ediv]
    by_cases g : m % d = 0
    · rw [if_neg (fun e => e.2 g), if_pos (Int.natCast_dvd_natCast.2 (Nat.dvd_of_mod_eq_zero g)), Int.natCast_ediv]; omega
    · rw [if_pos ⟨h, g⟩, if_neg (fun e => g (Nat.mod_eq_zero_of_dvd (Int.natCast_dvd_natCast.1 e))), Int.sign_eq_one_of_pos (by omega)]
      push_cast
      omega
  · obtain ⟨m, rfl⟩ : ∃ m : Nat, z = (m : Int) := ⟨z.toNat, by omega⟩
    rw [decide_eq_false h, if_neg (by decide), if_neg (fun e => h e.1), Int.natAbs_natCast, Int.natCast_ediv]
theorem sg_num' (n : Int) : sg (decide (n < 0)) n.natAbs = n := by
  unfold sg
  by_cases h : n < 0
  · rw [decide_eq_true h, if_pos rfl]; omega
  · rw [decide_eq_false h, if_neg (by decide)]; omega
theorem mkRat_fl (q : Rat) : mkRat (sg (decide (q.num < 0)) (flN q)) 1 = ((q.floor : Int) : Rat) := by
  rw [flN_eq]
  have := mkRat_int q.floor
  rw [sg_num'] at this
  exact this
theorem pow256_8 : (256 : Nat) ^ 8 = 18446744073709551616 := by decide
theorem natS_long {V : Nat} : 8 < (natS V).size ↔ 18446744073709551616 ≤ V := by
  rw [← pow256_8]
  constructor
  · intro h
    rcases Nat.lt_or_ge V (256 ^ 8) with g | g
    · have := natS_size_le g; omega
    · exact g
  · intro h
    rcases Nat.lt_or_ge 8 (natS V).size with g | g
    · exact g
    · have h1 := lt_natS_size V
      have h2 : 256 ^ (natS V).size ≤ 256 ^ 8 := Nat.pow_le_pow_right (by decide) g
      omega
theorem or_byte {u d : Nat} (hu : u * 256 < 18446744073709551616) (hd : d < 256) : bitres .or .u64 ((u * 256 : Nat) : Int) (d : Int) = ((256 * u + d : Nat) : Int) := by
  rw [or_nat rfl _ _ hu (by show d < 2 ^ 64; omega)]
  congr 1
  have := Nat.two_pow_add_eq_or_of_lt (i := 8) (b := d) hd u
  rw [show (2 : Nat) ^ 8 = 256 from rfl] at this
  rw [this, Nat.mul_comm]
/-- A number as a machine integer. -/
def i64V (q : Rat) : Int × Bool := if q.den = 1 ∧ -9223372036854775808 ≤ q.num ∧ q.num ≤ 9223372036854775807 then (q.num, true) else (0, false)
theorem i64V_int (z : Int) : i64V (z : Rat) = if -9223372036854775808 ≤ z ∧ z ≤ 9223372036854775807 then (z, true) else (0, false) := by
  unfold i64V
  rw [Rat.num_intCast, Rat.den_intCast]
  by_cases h : -9223372036854775808 ≤ z ∧ z ≤ 9223372036854775807
  · rw [if_pos ⟨rfl, h⟩, if_pos h]
  · rw [if_neg (fun g => h g.2), if_neg h]
theorem Uint_ok (V : Nat) (w : World) (hV : (natS V).size ≤ 4398046511104) :
    Ret Tryz.prog 80 #[.string (natS V)] w fun v w' => v = .tuple #[.int .u64 ((if V < 18446744073709551616 then V else 0 : Nat) : Int), .bool (decide (V < 18446744073709551616))] ∧ w' = w := by
  have hlong := natS_long (V := V)
  obtain ⟨s, hs⟩ : ∃ s, s = natS V := ⟨_, rfl⟩
  have hval : val s = V := by rw [hs, val_natS]
  have hnorm := fun w => N_norm V w hV
  rw [← hs] at hlong hV hnorm ⊢
  refine enter Tryz.func80 rfl Tryz.ntmps80 rfl ?_
  repeat (with_reducible first | refine c_seq ?_ | refine c_block ?_ | refine c_skip ?_ | refine x_then ?_ | refine x_block ?_)
  refine c_reg ?_
  refine l_pure rfl (s_asg  rfl ?_)
  refine l_pure rfl (s_asg  rfl ?_)
  refine l_nil ?_
  repeat (with_reducible first | refine c_seq ?_ | refine c_block ?_ | refine c_skip ?_ | refine x_then ?_ | refine x_block ?_)
  refine c_reg ?_
  refine l_pure rfl (s_move  rfl ?_)
  refine l_heavy rfl (s_call Tryz.call106 rfl (hnorm _) ?_)
  rintro r w1 ⟨rfl, rfl⟩
  refine l_pure rfl (s_asg  rfl ?_)
  refine l_nil ?_
  repeat (with_reducible first | refine c_seq ?_ | refine c_block ?_ | refine c_skip ?_ | refine x_then ?_ | refine x_block ?_)
  refine c_reg ?_
  refine l_pure rfl (s_move  rfl ?_)
  refine l_pure rfl (s_lens  rfl Tryz.underlying9 ?_)
  refine l_pure rfl (s_gtr  rfl rfl ?_)
  refine l_nil ?_
  repeat (with_reducible first | refine c_seq ?_ | refine c_block ?_ | refine c_skip ?_ | refine x_then ?_ | refine x_block ?_)
  by_cases h8 : 8 < s.size
  · refine c_yes rfl (decide_eq_true (by omega)) ?_
    repeat (with_reducible first | refine c_seq ?_ | refine c_block ?_ | refine c_skip ?_ | refine x_then ?_ | refine x_block ?_)
    have hnl : ¬ V < 18446744073709551616 := by omega
    rw [if_neg hnl, decide_eq_false hnl]
    repeat (with_reducible first | refine c_seq ?_ | refine c_block ?_ | refine c_skip ?_ | refine x_then ?_ | refine x_block ?_)
    refine c_reg ?_
    refine l_pure rfl (s_asg  rfl ?_)
    refine l_pure rfl (s_asg  rfl ?_)
    refine l_nil ?_
    repeat (with_reducible first | refine c_seq ?_ | refine c_block ?_ | refine c_skip ?_ | refine x_then ?_ | refine x_block ?_)
    refine c_ret ?_
    repeat (with_reducible first | refine x_then_ret ?_ | refine x_block_ret ?_)
    refine r_two rfl rfl rfl ?_
    exact ⟨rfl, rfl⟩
  · refine c_no rfl (decide_eq_false (by omega)) ?_
    repeat (with_reducible first | refine c_seq ?_ | refine c_block ?_ | refine c_skip ?_ | refine x_then ?_ | refine x_block ?_)
    have hlt : V < 18446744073709551616 := by omega
    rw [if_pos hlt, decide_eq_true hlt]
    repeat (with_reducible first | refine c_seq ?_ | refine c_block ?_ | refine c_skip ?_ | refine x_then ?_ | refine x_block ?_)
    refine c_reg ?_
    refine l_pure rfl (s_asg  rfl ?_)
    refine l_nil ?_
    repeat (with_reducible first | refine c_seq ?_ | refine c_block ?_ | refine c_skip ?_ | refine x_then ?_ | refine x_block ?_)
    refine c_reg ?_
    refine l_pure rfl (s_move  rfl ?_)
    refine l_pure rfl (s_lens  rfl Tryz.underlying9 ?_)
    refine l_pure rfl (s_move  rfl ?_)
    refine l_nil ?_
    repeat (with_reducible first | refine c_seq ?_ | refine c_block ?_ | refine c_skip ?_ | refine x_then ?_ | refine x_block ?_)
    have hVs := val_lt s
    rw [hval] at hVs
    refine c_loop (σ := Nat) (fun i ρ w' => i ≤ s.size ∧ ρ 0 = .string s ∧ ρ 4 = .int .u64 ((V / 256 ^ (s.size - i) : Nat) : Int) ∧ ρ 12 = .int .i64 s.size ∧ ρ 13 = .int .i64 i ∧ w' = w1) (fun i => s.size - i) 0
      ⟨Nat.zero_le _, rfl, vi rfl (by rw [Nat.sub_zero, Nat.div_eq_of_lt hVs]; rfl), rfl, rfl, rfl⟩ ?_
    rintro i ρ w2 ⟨hi, h0, h4, h12, h13, rfl⟩
    repeat (with_reducible first | refine c_seq ?_ | refine c_block ?_ | refine c_skip ?_ | refine x_then ?_ | refine x_block ?_)
    refine c_reg ?_
    refine l_pure rfl (s_lss  h13 h12 ?_)
    refine l_nil ?_
    repeat (with_reducible first | refine c_seq ?_ | refine c_block ?_ | refine c_skip ?_ | refine x_then ?_ | refine x_block ?_)
    by_cases hil : i < s.size
    · refine c_yes rfl (decide_eq_true (by omega)) ?_
      repeat (with_reducible first | refine c_seq ?_ | refine c_block ?_ | refine c_skip ?_ | refine x_then ?_ | refine x_block ?_)
      have hb := sbytes_rget s (s.size - 1 - i) (by omega)
      rw [hval] at hb
      have hd := dgt_lt (b := 256) (by decide) V (s.size - 1 - i)
      have hix : s.size - 1 - (s.size - 1 - i) = i := by omega
      have hst := div_step 256 V (s.size - 1 - i)
      have he : s.size - 1 - i + 1 = s.size - i := by omega
      rw [he] at hst
      have hbi : (s[i]'hil).toNat = dgt 256 V (s.size - 1 - i) := by
        rw [← hb]
        congr 1
        exact getElem_congr_idx hix.symm
      have hu : V / 256 ^ (s.size - i) * 256 < 18446744073709551616 := by
        have h1 : V / 256 ^ (s.size - i) * 256 ≤ V / 256 ^ (s.size - 1 - i) := by rw [hst]; omega
        have h2 := Nat.div_le_self V (256 ^ (s.size - 1 - i))
        omega
      obtain ⟨u, hu0⟩ : ∃ u, u = V / 256 ^ (s.size - i) := ⟨_, rfl⟩
      rw [← hu0] at hu hst
      have h4 : ρ 4 = .int .u64 (u : Int) := by rw [hu0]; exact h4
      repeat (with_reducible first | refine c_seq ?_ | refine c_block ?_ | refine c_skip ?_ | refine x_then ?_ | refine x_block ?_)
      refine c_reg ?_
      refine l_pure rfl (s_move  h13 ?_)
      refine l_pure rfl (s_asg  rfl ?_)
      refine l_nil ?_
      repeat (with_reducible first | refine c_seq ?_ | refine c_block ?_ | refine c_skip ?_ | refine x_then ?_ | refine x_block ?_)
      refine c_reg ?_
      refine l_pure rfl (s_move  h4 ?_)
      refine l_pure rfl (s_shl  rfl rfl (by omega) (r := ((u * 256 : Nat) : Int)) (by exact shl_n _ 8 _ (by decide) (wr_u64 _ ⟨by rw [Int.natCast_mul]; rfl, by omega, by omega⟩)) ?_)
      refine l_pure rfl (s_move  h0 ?_)
      refine l_pure rfl (s_move  rfl ?_)
      refine l_pure rfl (s_ixs (i := i)  rfl rfl (by omega) (by omega) Tryz.underlying9 ?_)
      refine l_pure rfl (s_conv  rfl Tryz.underlying76 ⟨_, Tryz.underlying5⟩ (r := ((dgt 256 V (s.size - 1 - i) : Nat) : Int)) (by rw [hbi]; exact IntWalk.u64_in _ (by omega)) ?_)
      refine l_pure rfl (s_or  rfl rfl (r := ((256 * u + dgt 256 V (s.size - 1 - i) : Nat) : Int)) (by exact or_byte hu hd) ?_)
      refine l_pure rfl (s_asg  rfl ?_)
      refine l_nil ?_
      repeat (with_reducible first | refine c_seq ?_ | refine c_block ?_ | refine c_skip ?_ | refine x_then ?_ | refine x_block ?_)
      refine c_reg ?_
      refine l_pure rfl (s_add  h13 rfl (IntWalk.i64_in _ (by omega)) ?_)
      refine l_pure rfl (s_move  rfl ?_)
      refine l_nil ?_
      repeat (with_reducible first | refine c_seq ?_ | refine c_block ?_ | refine c_skip ?_ | refine x_then ?_ | refine x_block ?_)
      refine ⟨i + 1, _, rfl, ⟨hil, h0, vi rfl ?_, h12, vi rfl (by omega), rfl⟩, by omega⟩
      rw [show s.size - (i + 1) = s.size - 1 - i by omega, hst]
    · refine c_no rfl (decide_eq_false (by omega)) ?_
      repeat (with_reducible first | refine c_seq ?_ | refine c_block ?_ | refine c_skip ?_ | refine x_then ?_ | refine x_block ?_)
      refine c_exit ?_
      repeat (with_reducible first | refine x_then_exit ?_ | refine x_block_exit ?_ | refine x_block_pass rfl ?_)
      repeat (with_reducible first | refine c_seq ?_ | refine c_block ?_ | refine c_skip ?_ | refine x_then ?_ | refine x_block ?_)
      obtain rfl : i = s.size := by omega
      repeat (with_reducible first | refine c_seq ?_ | refine c_block ?_ | refine c_skip ?_ | refine x_then ?_ | refine x_block ?_)
      refine c_reg ?_
      refine l_pure rfl (s_move  h4 ?_)
      refine l_pure rfl (s_asg  rfl ?_)
      refine l_pure rfl (s_asg  rfl ?_)
      refine l_nil ?_
      repeat (with_reducible first | refine c_seq ?_ | refine c_block ?_ | refine c_skip ?_ | refine x_then ?_ | refine x_block ?_)
      refine c_ret ?_
      repeat (with_reducible first | refine x_then_ret ?_ | refine x_block_ret ?_)
      refine r_two rfl rfl rfl ?_
      rw [Nat.sub_self, Nat.pow_zero, Nat.div_one]
      exact ⟨rfl, rfl⟩
set_option maxHeartbeats 1000000 in
theorem QInt64_ok (r : RR) (w : World) (hr : Lr r ≤ MX) (h0 : 0 ≤ toQ r) :
    Ret Tryz.prog 41 #[aggR r] w fun v w' => v = .tuple #[.int .i64 (i64V (toQ r)).1, .bool (i64V (toQ r)).2] ∧ Below w.heap.size w w' := by
  have hM : MX = 1099511627776 := rfl
  have hL1 := L_toQ r
  have hc1 := fun w => clean_ok r w hr
  obtain ⟨p, hp⟩ : ∃ p, p = toQ r := ⟨_, rfl⟩
  unfold fx at hc1
  rw [← hp] at hL1 hc1 h0 ⊢
  have hneg : ¬ p.num < 0 := fun g => by have := num_neg.1 g; grind
  have hn1 := L_num p
  have hU := fun w => Uint_ok p.num.natAbs w (by omega)
  have hval : i64V p = if p.den = 1 ∧ p.num.natAbs ≤ 9223372036854775807 then ((p.num.natAbs : Int), true) else (0, false) := by
    unfold i64V
    by_cases g : p.den = 1 ∧ p.num.natAbs ≤ 9223372036854775807
    · rw [if_pos g, if_pos ⟨g.1, by omega, by omega⟩, show ((p.num.natAbs : Nat) : Int) = p.num by omega]
    · rw [if_neg g, if_neg (fun e => g ⟨e.1, by omega⟩)]
  rw [hval]
  have hS := St.init w
  refine enter Tryz.func41 rfl Tryz.ntmps41 rfl ?_
  repeat (with_reducible first | refine c_seq ?_ | refine c_block ?_ | refine c_skip ?_ | refine x_then ?_ | refine x_block ?_)
  refine c_reg ?_
  refine l_heavy rfl (s_box (new := encR r)  rfl rfl hS ?_)
  intro b1 wz1 hS hBz1
  refine l_pure rfl (s_asg  rfl ?_)
  refine l_pure rfl (s_asg  rfl ?_)
  refine l_nil ?_
  repeat (with_reducible first | refine c_seq ?_ | refine c_block ?_ | refine c_skip ?_ | refine x_then ?_ | refine x_block ?_)
  refine c_reg ?_
  refine l_read rfl (s_ldo (k := 0)  rfl vi_37 hS rfl rfl rfl (.inl rfl) ?_)
  refine l_heavy rfl (s_call Tryz.call79 rfl (hc1 _) ?_)
  rintro _ wc2 ⟨rfl, hBc2⟩
  replace hS := hS.grow hBc2
  refine l_heavy rfl (s_sta (k := 0)  rfl rfl vi_37 hS rfl rfl rfl (Nat.le_of_ble_eq_true rfl) rfl ?_)
  intro wz3 hS
  refine l_nil ?_
  repeat (with_reducible first | refine c_seq ?_ | refine c_block ?_ | refine c_skip ?_ | refine x_then ?_ | refine x_block ?_)
  replace hS : St w _ [(b1, 37, encR (ofQ p))] := hS
  repeat (with_reducible first | refine c_seq ?_ | refine c_block ?_ | refine c_skip ?_ | refine x_then ?_ | refine x_block ?_)
  refine c_reg ?_
  refine l_pure rfl (s_fld  rfl fo_37_1 ?_)
  refine l_read rfl (s_ldo (k := 0)  rfl vi_9 hS rfl rfl rfl (.inr rfl) ?_)
  refine l_heavy rfl (s_call Tryz.call80 rfl (hU _) ?_)
  rintro r w3 ⟨rfl, rfl⟩
  refine l_pure rfl (s_move  rfl ?_)
  refine l_pure rfl (s_ext  rfl rfl ?_)
  refine l_pure rfl (s_ext  rfl rfl ?_)
  refine l_pure rfl (s_asg  rfl ?_)
  refine l_pure rfl (s_asg  rfl ?_)
  refine l_nil ?_
  repeat (with_reducible first | refine c_seq ?_ | refine c_block ?_ | refine c_skip ?_ | refine x_then ?_ | refine x_block ?_)
  have hden : (ofQ p).den = ⟨#[]⟩ ↔ p.den = 1 := by
    rw [ofQ_den]
    split
    · next e => exact ⟨fun _ => e, fun _ => rfl⟩
    · next e => rw [natS_nil]; exact ⟨fun g => absurd g p.den_nz, fun g => absurd g e⟩
  by_cases hd : p.den = 1
  · have hd' := hden.2 hd
    by_cases hl : p.num.natAbs < 18446744073709551616
    · repeat (with_reducible first | refine c_seq ?_ | refine c_block ?_ | refine c_skip ?_ | refine x_then ?_ | refine x_block ?_)
      refine c_reg ?_
      refine l_pure rfl (s_fld  rfl fo_37_2 ?_)
      refine l_read rfl (s_ldo (k := 0)  rfl vi_9 hS rfl rfl rfl (.inr rfl) ?_)
      refine l_pure rfl (s_nes  rfl rfl ?_)
      refine l_pure rfl (s_move  rfl ?_)
      refine l_pure (gd_yes 18 (by kernel_rfl) rfl (decide_eq_false (fun g => g hd'))) (s_move  rfl ?_)
      refine l_pure (gd_yes 18 (by kernel_rfl) rfl (decide_eq_false (fun g => g hd'))) (s_not  rfl ?_)
      refine l_pure rfl (s_pick (vb rfl (decide_eq_false (fun g => g hd'))) rfl ?_)
      refine l_pure rfl (s_asg  rfl ?_)
      refine l_nil ?_
      repeat (with_reducible first | refine c_seq ?_ | refine c_block ?_ | refine c_skip ?_ | refine x_then ?_ | refine x_block ?_)
      refine c_no rfl (by rw [decide_eq_true hl]; rfl) ?_
      repeat (with_reducible first | refine c_seq ?_ | refine c_block ?_ | refine c_skip ?_ | refine x_then ?_ | refine x_block ?_)
      refine c_reg ?_
      refine l_pure rfl (s_fld  rfl fo_37_0 ?_)
      refine l_read rfl (s_ldo (k := 0)  rfl vi_4 hS rfl rfl rfl (.inr rfl) ?_)
      refine l_pure rfl (s_move  rfl ?_)
      refine l_no (gno_yes 25 (by kernel_rfl) rfl (decide_eq_false hneg)) ?_
      refine l_no (gno_yes 25 (by kernel_rfl) rfl (decide_eq_false hneg)) ?_
      refine l_pure rfl (s_pick (vb rfl (decide_eq_false hneg)) rfl ?_)
      refine l_pure rfl (s_asg  rfl ?_)
      refine l_nil ?_
      repeat (with_reducible first | refine c_seq ?_ | refine c_block ?_ | refine c_skip ?_ | refine x_then ?_ | refine x_block ?_)
      refine c_no rfl (rfl) ?_
      repeat (with_reducible first | refine c_seq ?_ | refine c_block ?_ | refine c_skip ?_ | refine x_then ?_ | refine x_block ?_)
      by_cases hi : p.num.natAbs ≤ 9223372036854775807
      · rw [if_pos ⟨hd, hi⟩]
        repeat (with_reducible first | refine c_seq ?_ | refine c_block ?_ | refine c_skip ?_ | refine x_then ?_ | refine x_block ?_)
        refine c_reg ?_
        refine l_pure rfl (s_fld  rfl fo_37_0 ?_)
        refine l_read rfl (s_ldo (k := 0)  rfl vi_4 hS rfl rfl rfl (.inr rfl) ?_)
        refine l_pure rfl (s_not  rfl ?_)
        refine l_pure rfl (s_move  rfl ?_)
        refine l_pure (gd_yes 36 (by kernel_rfl) rfl (show (!decide (p.num < 0)) = true by rw [decide_eq_false hneg]; rfl)) (s_move  rfl ?_)
        refine l_pure (gd_yes 36 (by kernel_rfl) rfl (show (!decide (p.num < 0)) = true by rw [decide_eq_false hneg]; rfl)) (s_leq  rfl rfl ?_)
        refine l_pure rfl (s_pick (vb rfl (show (!decide (p.num < 0)) = true by rw [decide_eq_false hneg]; rfl)) rfl ?_)
        refine l_pure rfl (s_asg  rfl ?_)
        refine l_nil ?_
        repeat (with_reducible first | refine c_seq ?_ | refine c_block ?_ | refine c_skip ?_ | refine x_then ?_ | refine x_block ?_)
        refine c_yes rfl (by rw [if_pos hl]; exact decide_eq_true (by omega)) ?_
        repeat (with_reducible first | refine c_seq ?_ | refine c_block ?_ | refine c_skip ?_ | refine x_then ?_ | refine x_block ?_)
        refine c_reg ?_
        refine l_pure rfl (s_move  rfl ?_)
        refine l_pure rfl (s_conv  rfl Tryz.underlying2 ⟨_, Tryz.underlying76⟩ (r := ((p.num.natAbs : Nat) : Int)) (by rw [if_pos hl]; exact IntWalk.i64_in _ (by omega)) ?_)
        refine l_pure rfl (s_asg  rfl ?_)
        refine l_pure rfl (s_asg  rfl ?_)
        refine l_nil ?_
        repeat (with_reducible first | refine c_seq ?_ | refine c_block ?_ | refine c_skip ?_ | refine x_then ?_ | refine x_block ?_)
        refine c_ret ?_
        repeat (with_reducible first | refine x_then_ret ?_ | refine x_block_ret ?_)
        refine r_two rfl rfl rfl ?_
        exact ⟨rfl, hS.below⟩
      · rw [if_neg (fun g => hi g.2)]
        repeat (with_reducible first | refine c_seq ?_ | refine c_block ?_ | refine c_skip ?_ | refine x_then ?_ | refine x_block ?_)
        refine c_reg ?_
        refine l_pure rfl (s_fld  rfl fo_37_0 ?_)
        refine l_read rfl (s_ldo (k := 0)  rfl vi_4 hS rfl rfl rfl (.inr rfl) ?_)
        refine l_pure rfl (s_not  rfl ?_)
        refine l_pure rfl (s_move  rfl ?_)
        refine l_pure (gd_yes 36 (by kernel_rfl) rfl (show (!decide (p.num < 0)) = true by rw [decide_eq_false hneg]; rfl)) (s_move  rfl ?_)
        refine l_pure (gd_yes 36 (by kernel_rfl) rfl (show (!decide (p.num < 0)) = true by rw [decide_eq_false hneg]; rfl)) (s_leq  rfl rfl ?_)
        refine l_pure rfl (s_pick (vb rfl (show (!decide (p.num < 0)) = true by rw [decide_eq_false hneg]; rfl)) rfl ?_)
        refine l_pure rfl (s_asg  rfl ?_)
        refine l_nil ?_
        repeat (with_reducible first | refine c_seq ?_ | refine c_block ?_ | refine c_skip ?_ | refine x_then ?_ | refine x_block ?_)
        refine c_no rfl (by rw [if_pos hl]; exact decide_eq_false (by omega)) ?_
        repeat (with_reducible first | refine c_seq ?_ | refine c_block ?_ | refine c_skip ?_ | refine x_then ?_ | refine x_block ?_)
        refine c_reg ?_
        refine l_pure rfl (s_asg  rfl ?_)
        refine l_pure rfl (s_asg  rfl ?_)
        refine l_nil ?_
        repeat (with_reducible first | refine c_seq ?_ | refine c_block ?_ | refine c_skip ?_ | refine x_then ?_ | refine x_block ?_)
        refine c_ret ?_
        repeat (with_reducible first | refine x_then_ret ?_ | refine x_block_ret ?_)
        refine r_two rfl rfl rfl ?_
        exact ⟨rfl, hS.below⟩
    · rw [if_neg (fun g => hl (by omega))]
      repeat (with_reducible first | refine c_seq ?_ | refine c_block ?_ | refine c_skip ?_ | refine x_then ?_ | refine x_block ?_)
      refine c_reg ?_
      refine l_pure rfl (s_fld  rfl fo_37_2 ?_)
      refine l_read rfl (s_ldo (k := 0)  rfl vi_9 hS rfl rfl rfl (.inr rfl) ?_)
      refine l_pure rfl (s_nes  rfl rfl ?_)
      refine l_pure rfl (s_move  rfl ?_)
      refine l_pure (gd_yes 18 (by kernel_rfl) rfl (decide_eq_false (fun g => g hd'))) (s_move  rfl ?_)
      refine l_pure (gd_yes 18 (by kernel_rfl) rfl (decide_eq_false (fun g => g hd'))) (s_not  rfl ?_)
      refine l_pure rfl (s_pick (vb rfl (decide_eq_false (fun g => g hd'))) rfl ?_)
      refine l_pure rfl (s_asg  rfl ?_)
      refine l_nil ?_
      repeat (with_reducible first | refine c_seq ?_ | refine c_block ?_ | refine c_skip ?_ | refine x_then ?_ | refine x_block ?_)
      refine c_yes rfl (by rw [decide_eq_false hl]; rfl) ?_
      repeat (with_reducible first | refine c_seq ?_ | refine c_block ?_ | refine c_skip ?_ | refine x_then ?_ | refine x_block ?_)
      refine c_reg ?_
      refine l_pure rfl (s_asg  rfl ?_)
      refine l_pure rfl (s_asg  rfl ?_)
      refine l_nil ?_
      repeat (with_reducible first | refine c_seq ?_ | refine c_block ?_ | refine c_skip ?_ | refine x_then ?_ | refine x_block ?_)
      refine c_ret ?_
      repeat (with_reducible first | refine x_then_ret ?_ | refine x_block_ret ?_)
      refine r_two rfl rfl rfl ?_
      exact ⟨rfl, hS.below⟩
  · rw [if_neg (fun g => hd g.1)]
    repeat (with_reducible first | refine c_seq ?_ | refine c_block ?_ | refine c_skip ?_ | refine x_then ?_ | refine x_block ?_)
    refine c_reg ?_
    refine l_pure rfl (s_fld  rfl fo_37_2 ?_)
    refine l_read rfl (s_ldo (k := 0)  rfl vi_9 hS rfl rfl rfl (.inr rfl) ?_)
    refine l_pure rfl (s_nes  rfl rfl ?_)
    refine l_pure rfl (s_move  rfl ?_)
    refine l_no (gno_yes 18 (by kernel_rfl) rfl (decide_eq_true (fun g => hd (hden.1 g)))) ?_
    refine l_no (gno_yes 18 (by kernel_rfl) rfl (decide_eq_true (fun g => hd (hden.1 g)))) ?_
    refine l_pure rfl (s_pick (vb rfl (decide_eq_true (fun g => hd (hden.1 g)))) rfl ?_)
    refine l_pure rfl (s_asg  rfl ?_)
    refine l_nil ?_
    repeat (with_reducible first | refine c_seq ?_ | refine c_block ?_ | refine c_skip ?_ | refine x_then ?_ | refine x_block ?_)
    refine c_yes rfl (rfl) ?_
    repeat (with_reducible first | refine c_seq ?_ | refine c_block ?_ | refine c_skip ?_ | refine x_then ?_ | refine x_block ?_)
    refine c_reg ?_
    refine l_pure rfl (s_asg  rfl ?_)
    refine l_pure rfl (s_asg  rfl ?_)
    refine l_nil ?_
    repeat (with_reducible first | refine c_seq ?_ | refine c_block ?_ | refine c_skip ?_ | refine x_then ?_ | refine x_block ?_)
    refine c_ret ?_
    repeat (with_reducible first | refine x_then_ret ?_ | refine x_block_ret ?_)
    refine r_two rfl rfl rfl ?_
    exact ⟨rfl, hS.below⟩
set_option maxHeartbeats 1000000 in
theorem QFloor_ok (r : RR) (w : World) (hr : Lr r + 1 ≤ MX) :
    Ret Tryz.prog 43 #[aggR r] w fun v w' => v = aggR (ofQ ((toQ r).floor : Rat)) ∧ Below w.heap.size w w' := by
  have hM : MX = 1099511627776 := rfl
  have hL1 := L_toQ r
  have hc1 := fun w => clean_ok r w (show Lr r ≤ MX by omega)
  obtain ⟨p, hp⟩ : ∃ p, p = toQ r := ⟨_, rfl⟩
  unfold fx at hc1
  rw [← hp] at hL1 hc1 ⊢
  have hn1 := L_num p
  have hd1 := L_den p
  have hq1 : (natS (p.num.natAbs / p.den)).size ≤ (natS p.num.natAbs).size := natS_size_mono (Nat.div_le_self _ _)
  have h1s := natS_one_size
  have hq2 := natS_size_add (p.num.natAbs / p.den) 1
  have hLp := L_pos p
  have hfs : (natS (flN p)).size ≤ L p + 1 := by unfold flN; split <;> omega
  have hred := fun w => reduced_ok (decide (p.num < 0)) (natS (flN p)) ⟨#[1]⟩ w (by omega) (by show 1 ≤ _; omega) (by rw [val_le_one]; decide)
  rw [val_natS, val_le_one, mkRat_fl] at hred
  have hS := St.init w
  refine enter Tryz.func43 rfl Tryz.ntmps43 rfl ?_
  repeat (with_reducible first | refine c_seq ?_ | refine c_block ?_ | refine c_skip ?_ | refine x_then ?_ | refine x_block ?_)
  refine c_reg ?_
  refine l_heavy rfl (s_box (new := encR r)  rfl rfl hS ?_)
  intro b1 wz1 hS hBz1
  refine l_heavy rfl (s_alloc  vi_37 hS ?_)
  intro b2 wz2 hS hBz2
  refine l_nil ?_
  repeat (with_reducible first | refine c_seq ?_ | refine c_block ?_ | refine c_skip ?_ | refine x_then ?_ | refine x_block ?_)
  refine c_reg ?_
  refine l_read rfl (s_ldo (k := 1)  rfl vi_37 hS rfl rfl rfl (.inl rfl) ?_)
  refine l_heavy rfl (s_call Tryz.call79 rfl (hc1 _) ?_)
  rintro _ wc3 ⟨rfl, hBc3⟩
  replace hS := hS.grow hBc3
  refine l_heavy rfl (s_sta (k := 1)  rfl rfl vi_37 hS rfl rfl rfl (Nat.le_of_ble_eq_true rfl) rfl ?_)
  intro wz4 hS
  refine l_nil ?_
  repeat (with_reducible first | refine c_seq ?_ | refine c_block ?_ | refine c_skip ?_ | refine x_then ?_ | refine x_block ?_)
  replace hS : St w _ [(b2, 37, encR zRR), (b1, 37, encR (ofQ p))] := hS
  repeat (with_reducible first | refine c_seq ?_ | refine c_block ?_ | refine c_skip ?_ | refine x_then ?_ | refine x_block ?_)
  refine c_draw [(0, .pure), (1, .read), (2, .read), (3, .grow), (4, .grow), (5, .pure), (6, .pure), (7, .pure), (8, .pure), (9, .pure), (10, .pure), (11, .pure)] (by kernel_rfl) (by kernel_rfl) hS ?_
  intro wz5 hS hBz5
  refine w_pure rfl rfl (s_fld  rfl fo_37_1 ?_)
  refine w_read rfl rfl (s_ldo (k := 1)  rfl vi_9 hS rfl rfl rfl (.inr rfl) ?_)
  refine w_read rfl rfl (s_ldo (k := 1)  rfl vi_37 hS rfl rfl rfl (.inl rfl) ?_)
  refine w_grow rfl rfl (s_call Tryz.call83 rfl (den_ok p _) ?_)
  rintro _ wc6 ⟨rfl, hBc6⟩
  replace hS := hS.grow hBc6
  refine ⟨hBc6, ?_⟩
  refine w_grow rfl rfl (s_call Tryz.call82 rfl (N_div p.num.natAbs p.den _ (by omega) (by omega) p.den_nz) ?_)
  rintro _ wc7 ⟨rfl, hBc7⟩
  replace hS := hS.grow hBc7
  refine ⟨hBc7, ?_⟩
  refine w_pure rfl rfl (s_move  rfl ?_)
  refine w_pure rfl rfl (s_ext  rfl rfl ?_)
  refine w_pure rfl rfl (s_ext  rfl rfl ?_)
  refine w_pure rfl rfl (s_ext  rfl rfl ?_)
  refine w_pure rfl rfl (s_asg  rfl ?_)
  refine w_pure rfl rfl (s_asg  rfl ?_)
  refine w_pure rfl rfl (s_asg  rfl ?_)
  refine w_end ?_
  repeat (with_reducible first | refine c_seq ?_ | refine c_block ?_ | refine c_skip ?_ | refine x_then ?_ | refine x_block ?_)
  by_cases hneg : p.num < 0
  · by_cases hz : p.num.natAbs % p.den = 0
    · have hfl : flN p = p.num.natAbs / p.den := by unfold flN; rw [if_neg (fun g => g.2 hz)]
      rw [hfl] at hred
      repeat (with_reducible first | refine c_seq ?_ | refine c_block ?_ | refine c_skip ?_ | refine x_then ?_ | refine x_block ?_)
      refine c_reg ?_
      refine l_pure rfl (s_fld  rfl fo_37_0 ?_)
      refine l_read rfl (s_ldo (k := 1)  rfl vi_4 hS rfl rfl rfl (.inr rfl) ?_)
      refine l_pure rfl (s_move  rfl ?_)
      refine l_pure (gd_yes 19 (by kernel_rfl) rfl (decide_eq_true hneg)) (s_move  rfl ?_)
      refine l_pure (gd_yes 19 (by kernel_rfl) rfl (decide_eq_true hneg)) (s_nes  rfl rfl ?_)
      refine l_pure rfl (s_pick (vb rfl (decide_eq_true hneg)) rfl ?_)
      refine l_nil ?_
      repeat (with_reducible first | refine c_seq ?_ | refine c_block ?_ | refine c_skip ?_ | refine x_then ?_ | refine x_block ?_)
      refine c_no rfl (decide_eq_false (fun g => g (natS_nil.2 hz))) ?_
      repeat (with_reducible first | refine c_seq ?_ | refine c_block ?_ | refine c_skip ?_ | refine x_then ?_ | refine x_block ?_)
      refine c_reg ?_
      refine l_pure rfl (s_fld  rfl fo_37_0 ?_)
      refine l_read rfl (s_ldo (k := 1)  rfl vi_4 hS rfl rfl rfl (.inr rfl) ?_)
      refine l_pure rfl (s_move  rfl ?_)
      refine l_heavy rfl (s_call Tryz.call74 rfl (hred _) ?_)
      rintro _ wc8 ⟨rfl, hBc8⟩
      replace hS := hS.grow hBc8
      refine l_heavy rfl (s_sta (k := 0)  rfl rfl vi_37 hS rfl rfl rfl (Nat.le_of_ble_eq_true rfl) rfl ?_)
      intro wz9 hS
      refine l_nil ?_
      repeat (with_reducible first | refine c_seq ?_ | refine c_block ?_ | refine c_skip ?_ | refine x_then ?_ | refine x_block ?_)
      refine c_ret ?_
      repeat (with_reducible first | refine x_then_ret ?_ | refine x_block_ret ?_)
      refine r_cell (k := 0) rfl rfl vi_37 hS rfl rfl ?_
      exact ⟨rfl, hS.below⟩
    · have hfl : flN p = p.num.natAbs / p.den + 1 := by unfold flN; rw [if_pos ⟨hneg, hz⟩]
      rw [hfl] at hred
      have hadd := fun w => N_add (p.num.natAbs / p.den) 1 w (by omega) (by omega)
      rw [natS_one] at hadd
      repeat (with_reducible first | refine c_seq ?_ | refine c_block ?_ | refine c_skip ?_ | refine x_then ?_ | refine x_block ?_)
      refine c_reg ?_
      refine l_pure rfl (s_fld  rfl fo_37_0 ?_)
      refine l_read rfl (s_ldo (k := 1)  rfl vi_4 hS rfl rfl rfl (.inr rfl) ?_)
      refine l_pure rfl (s_move  rfl ?_)
      refine l_pure (gd_yes 19 (by kernel_rfl) rfl (decide_eq_true hneg)) (s_move  rfl ?_)
      refine l_pure (gd_yes 19 (by kernel_rfl) rfl (decide_eq_true hneg)) (s_nes  rfl rfl ?_)
      refine l_pure rfl (s_pick (vb rfl (decide_eq_true hneg)) rfl ?_)
      refine l_nil ?_
      repeat (with_reducible first | refine c_seq ?_ | refine c_block ?_ | refine c_skip ?_ | refine x_then ?_ | refine x_block ?_)
      refine c_yes rfl (decide_eq_true (fun g => hz (natS_nil.1 g))) ?_
      repeat (with_reducible first | refine c_seq ?_ | refine c_block ?_ | refine c_skip ?_ | refine x_then ?_ | refine x_block ?_)
      refine c_reg ?_
      refine l_pure rfl (s_move  rfl ?_)
      refine l_heavy rfl (s_call Tryz.call84 rfl (hadd _) ?_)
      rintro _ wc10 ⟨rfl, hBc10⟩
      replace hS := hS.grow hBc10
      refine l_pure rfl (s_asg  rfl ?_)
      refine l_nil ?_
      repeat (with_reducible first | refine c_seq ?_ | refine c_block ?_ | refine c_skip ?_ | refine x_then ?_ | refine x_block ?_)
      refine c_reg ?_
      refine l_pure rfl (s_fld  rfl fo_37_0 ?_)
      refine l_read rfl (s_ldo (k := 1)  rfl vi_4 hS rfl rfl rfl (.inr rfl) ?_)
      refine l_pure rfl (s_move  rfl ?_)
      refine l_heavy rfl (s_call Tryz.call74 rfl (hred _) ?_)
      rintro _ wc11 ⟨rfl, hBc11⟩
      replace hS := hS.grow hBc11
      refine l_heavy rfl (s_sta (k := 0)  rfl rfl vi_37 hS rfl rfl rfl (Nat.le_of_ble_eq_true rfl) rfl ?_)
      intro wz12 hS
      refine l_nil ?_
      repeat (with_reducible first | refine c_seq ?_ | refine c_block ?_ | refine c_skip ?_ | refine x_then ?_ | refine x_block ?_)
      refine c_ret ?_
      repeat (with_reducible first | refine x_then_ret ?_ | refine x_block_ret ?_)
      refine r_cell (k := 0) rfl rfl vi_37 hS rfl rfl ?_
      exact ⟨rfl, hS.below⟩
  · have hfl : flN p = p.num.natAbs / p.den := by unfold flN; rw [if_neg (fun g => hneg g.1)]
    rw [hfl] at hred
    repeat (with_reducible first | refine c_seq ?_ | refine c_block ?_ | refine c_skip ?_ | refine x_then ?_ | refine x_block ?_)
    refine c_reg ?_
    refine l_pure rfl (s_fld  rfl fo_37_0 ?_)
    refine l_read rfl (s_ldo (k := 1)  rfl vi_4 hS rfl rfl rfl (.inr rfl) ?_)
    refine l_pure rfl (s_move  rfl ?_)
    refine l_no (gno_yes 19 (by kernel_rfl) rfl (decide_eq_false hneg)) ?_
    refine l_no (gno_yes 19 (by kernel_rfl) rfl (decide_eq_false hneg)) ?_
    refine l_pure rfl (s_pick (vb rfl (decide_eq_false hneg)) rfl ?_)
    refine l_nil ?_
    repeat (with_reducible first | refine c_seq ?_ | refine c_block ?_ | refine c_skip ?_ | refine x_then ?_ | refine x_block ?_)
    refine c_no rfl (rfl) ?_
    repeat (with_reducible first | refine c_seq ?_ | refine c_block ?_ | refine c_skip ?_ | refine x_then ?_ | refine x_block ?_)
    refine c_reg ?_
    refine l_pure rfl (s_fld  rfl fo_37_0 ?_)
    refine l_read rfl (s_ldo (k := 1)  rfl vi_4 hS rfl rfl rfl (.inr rfl) ?_)
    refine l_pure rfl (s_move  rfl ?_)
    refine l_heavy rfl (s_call Tryz.call74 rfl (hred _) ?_)
    rintro _ wc13 ⟨rfl, hBc13⟩
    replace hS := hS.grow hBc13
    refine l_heavy rfl (s_sta (k := 0)  rfl rfl vi_37 hS rfl rfl rfl (Nat.le_of_ble_eq_true rfl) rfl ?_)
    intro wz14 hS
    refine l_nil ?_
    repeat (with_reducible first | refine c_seq ?_ | refine c_block ?_ | refine c_skip ?_ | refine x_then ?_ | refine x_block ?_)
    refine c_ret ?_
    repeat (with_reducible first | refine x_then_ret ?_ | refine x_block_ret ?_)
    refine r_cell (k := 0) rfl rfl vi_37 hS rfl rfl ?_
    exact ⟨rfl, hS.below⟩
end Go.Proofs.YtmapmdldlcfjhaaGreatDoor
namespace Go.Proofs.YtmapmdldlcfjhaaGreatDoor
open Go Go.RowKit Go.Sx
set_option maxHeartbeats 1000000 in
theorem rTimes_ok (p q : Rat) (w : World) (hL : L p + L q ≤ MX) :
    Ret Tryz.prog 57 #[aggR (ofQ p), aggR (ofQ q)] w fun v w' => v = aggR (ofQ (p * q)) ∧ Below w.heap.size w w' := by
  have hM : MX = 1099511627776 := rfl
  have hn1 := L_num p
  have hn2 := L_num q
  have hd1 := L_den p
  have hd2 := L_den q
  have hm1 := natS_size_mul p.num.natAbs q.num.natAbs
  have hm2 := natS_size_mul p.den q.den
  have l1 := limb_len_le_size p.num.natAbs
  have l2 := limb_len_le_size q.num.natAbs
  have l3 := limb_len_le_size p.den
  have l4 := limb_len_le_size q.den
  have l5 := limb_len_le_size (p.num.natAbs * q.num.natAbs)
  have l6 := limb_len_le_size (p.den * q.den)
  have hlp := fun w => rlimbs_ok (natS p.num.natAbs) w (by omega)
  have hlq := fun w => rlimbs_ok (natS q.num.natAbs) w (by omega)
  rw [val_natS] at hlp hlq
  have hS := St.init w
  refine enter Tryz.func57 rfl Tryz.ntmps57 rfl ?_
  repeat (with_reducible first | refine c_seq ?_ | refine c_block ?_ | refine c_skip ?_ | refine x_then ?_ | refine x_block ?_)
  refine c_reg ?_
  refine l_heavy rfl (s_box (new := encR (ofQ p))  rfl rfl hS ?_)
  intro b1 wz2 hS hBz2
  refine l_heavy rfl (s_box (new := encR (ofQ q))  rfl rfl hS ?_)
  intro b3 wz4 hS hBz4
  refine l_heavy rfl (s_alloc  vi_37 hS ?_)
  intro b5 wz6 hS hBz6
  refine l_nil ?_
  repeat (with_reducible first | refine c_seq ?_ | refine c_block ?_ | refine c_skip ?_ | refine x_then ?_ | refine x_block ?_)
  by_cases hp0 : p = 0
  · repeat (with_reducible first | refine c_seq ?_ | refine c_block ?_ | refine c_skip ?_ | refine x_then ?_ | refine x_block ?_)
    refine c_reg ?_
    refine l_pure rfl (s_fld  rfl fo_37_1 ?_)
    refine l_read rfl (s_ldo (k := 2)  rfl vi_9 hS rfl rfl rfl (.inr rfl) ?_)
    refine l_pure rfl (s_eqs  rfl rfl ?_)
    refine l_pure rfl (s_move  rfl ?_)
    refine l_no (gno_yes 8 (by kernel_rfl) rfl (decide_eq_true (ofQ_num_nil.2 hp0))) ?_
    refine l_no (gno_yes 8 (by kernel_rfl) rfl (decide_eq_true (ofQ_num_nil.2 hp0))) ?_
    refine l_no (gno_yes 8 (by kernel_rfl) rfl (decide_eq_true (ofQ_num_nil.2 hp0))) ?_
    refine l_pure rfl (s_pick (vb rfl (decide_eq_true (ofQ_num_nil.2 hp0))) rfl ?_)
    refine l_nil ?_
    repeat (with_reducible first | refine c_seq ?_ | refine c_block ?_ | refine c_skip ?_ | refine x_then ?_ | refine x_block ?_)
    refine c_yes rfl (rfl) ?_
    repeat (with_reducible first | refine c_seq ?_ | refine c_block ?_ | refine c_skip ?_ | refine x_then ?_ | refine x_block ?_)
    refine c_reg ?_
    refine l_pure rfl (s_build  rfl bz_37 ?_)
    refine l_heavy rfl (s_sta (k := 0)  rfl rfl vi_37 hS rfl rfl rfl (Nat.le_of_ble_eq_true rfl) rfl ?_)
    intro wz7 hS
    refine l_nil ?_
    repeat (with_reducible first | refine c_seq ?_ | refine c_block ?_ | refine c_skip ?_ | refine x_then ?_ | refine x_block ?_)
    refine c_ret ?_
    repeat (with_reducible first | refine x_then_ret ?_ | refine x_block_ret ?_)
    refine r_cell (k := 0) rfl rfl vi_37 hS rfl rfl ?_
    rw [hp0, Rat.zero_mul, ofQ_zero]
    exact ⟨rfl, hS.below⟩
  · by_cases hq0 : q = 0
    · repeat (with_reducible first | refine c_seq ?_ | refine c_block ?_ | refine c_skip ?_ | refine x_then ?_ | refine x_block ?_)
      refine c_reg ?_
      refine l_pure rfl (s_fld  rfl fo_37_1 ?_)
      refine l_read rfl (s_ldo (k := 2)  rfl vi_9 hS rfl rfl rfl (.inr rfl) ?_)
      refine l_pure rfl (s_eqs  rfl rfl ?_)
      refine l_pure rfl (s_move  rfl ?_)
      refine l_pure (gd_yes 8 (by kernel_rfl) rfl (decide_eq_false (fun g => hp0 (ofQ_num_nil.1 g)))) (s_fld  rfl fo_37_1 ?_)
      refine l_read (gd_yes 8 (by kernel_rfl) rfl (decide_eq_false (fun g => hp0 (ofQ_num_nil.1 g)))) (s_ldo (k := 1)  rfl vi_9 hS rfl rfl rfl (.inr rfl) ?_)
      refine l_pure (gd_yes 8 (by kernel_rfl) rfl (decide_eq_false (fun g => hp0 (ofQ_num_nil.1 g)))) (s_eqs  rfl rfl ?_)
      refine l_pure rfl (s_pick (vb rfl (decide_eq_false (fun g => hp0 (ofQ_num_nil.1 g)))) rfl ?_)
      refine l_nil ?_
      repeat (with_reducible first | refine c_seq ?_ | refine c_block ?_ | refine c_skip ?_ | refine x_then ?_ | refine x_block ?_)
      refine c_yes rfl (decide_eq_true (ofQ_num_nil.2 hq0)) ?_
      repeat (with_reducible first | refine c_seq ?_ | refine c_block ?_ | refine c_skip ?_ | refine x_then ?_ | refine x_block ?_)
      refine c_reg ?_
      refine l_pure rfl (s_build  rfl bz_37 ?_)
      refine l_heavy rfl (s_sta (k := 0)  rfl rfl vi_37 hS rfl rfl rfl (Nat.le_of_ble_eq_true rfl) rfl ?_)
      intro wz8 hS
      refine l_nil ?_
      repeat (with_reducible first | refine c_seq ?_ | refine c_block ?_ | refine c_skip ?_ | refine x_then ?_ | refine x_block ?_)
      refine c_ret ?_
      repeat (with_reducible first | refine x_then_ret ?_ | refine x_block_ret ?_)
      refine r_cell (k := 0) rfl rfl vi_37 hS rfl rfl ?_
      rw [hq0, Rat.mul_zero, ofQ_zero]
      exact ⟨rfl, hS.below⟩
    · repeat (with_reducible first | refine c_seq ?_ | refine c_block ?_ | refine c_skip ?_ | refine x_then ?_ | refine x_block ?_)
      refine c_reg ?_
      refine l_pure rfl (s_fld  rfl fo_37_1 ?_)
      refine l_read rfl (s_ldo (k := 2)  rfl vi_9 hS rfl rfl rfl (.inr rfl) ?_)
      refine l_pure rfl (s_eqs  rfl rfl ?_)
      refine l_pure rfl (s_move  rfl ?_)
      refine l_pure (gd_yes 8 (by kernel_rfl) rfl (decide_eq_false (fun g => hp0 (ofQ_num_nil.1 g)))) (s_fld  rfl fo_37_1 ?_)
      refine l_read (gd_yes 8 (by kernel_rfl) rfl (decide_eq_false (fun g => hp0 (ofQ_num_nil.1 g)))) (s_ldo (k := 1)  rfl vi_9 hS rfl rfl rfl (.inr rfl) ?_)
      refine l_pure (gd_yes 8 (by kernel_rfl) rfl (decide_eq_false (fun g => hp0 (ofQ_num_nil.1 g)))) (s_eqs  rfl rfl ?_)
      refine l_pure rfl (s_pick (vb rfl (decide_eq_false (fun g => hp0 (ofQ_num_nil.1 g)))) rfl ?_)
      refine l_nil ?_
      repeat (with_reducible first | refine c_seq ?_ | refine c_block ?_ | refine c_skip ?_ | refine x_then ?_ | refine x_block ?_)
      refine c_no rfl (decide_eq_false (fun g => hq0 (ofQ_num_nil.1 g))) ?_
      repeat (with_reducible first | refine c_seq ?_ | refine c_block ?_ | refine c_skip ?_ | refine x_then ?_ | refine x_block ?_)
      refine c_draw [(0, .pure), (1, .read), (2, .pure), (3, .read), (4, .pure), (5, .pure), (6, .read), (8, .pure), (9, .read), (12, .read), (14, .read), (7, .grow), (10, .grow), (11, .grow), (13, .grow), (15, .grow), (16, .grow), (17, .grow), (18, .free)] (by kernel_rfl) (by kernel_rfl) hS ?_
      intro wz9 hS hBz9
      refine w_pure rfl rfl (s_fld  rfl fo_37_0 ?_)
      refine w_read rfl rfl (s_ldo (k := 2)  rfl vi_4 hS rfl rfl rfl (.inr rfl) ?_)
      refine w_pure rfl rfl (s_fld  rfl fo_37_0 ?_)
      refine w_read rfl rfl (s_ldo (k := 1)  rfl vi_4 hS rfl rfl rfl (.inr rfl) ?_)
      refine w_pure rfl rfl (s_neb  rfl rfl Tryz.underlying4 ?_)
      refine w_pure rfl rfl (s_fld  rfl fo_37_1 ?_)
      refine w_read rfl rfl (s_ldo (k := 2)  rfl vi_9 hS rfl rfl rfl (.inr rfl) ?_)
      refine w_pure rfl rfl (s_fld  rfl fo_37_1 ?_)
      refine w_read rfl rfl (s_ldo (k := 1)  rfl vi_9 hS rfl rfl rfl (.inr rfl) ?_)
      refine w_read rfl rfl (s_ldo (k := 2)  rfl vi_37 hS rfl rfl rfl (.inl rfl) ?_)
      refine w_read rfl rfl (s_ldo (k := 1)  rfl vi_37 hS rfl rfl rfl (.inl rfl) ?_)
      refine w_grow rfl rfl (s_call Tryz.call92 rfl (hlp _) ?_)
      rintro vx w3 ⟨hvx, hB3⟩
      refine ⟨hB3, ?_⟩
      replace hS := hS.grow hB3
      refine w_grow rfl rfl (s_call Tryz.call92 rfl (hlq _) ?_)
      rintro vy w4 ⟨hvy, hB4⟩
      refine ⟨hB4, ?_⟩
      replace hS := hS.grow hB4
      refine w_grow rfl rfl (s_call Tryz.call98 rfl (rtimes_ok _ _ _ _ _ (hvx.below hB4) hvy (by omega) (by omega)) ?_)
      rintro vX w5 ⟨hvX, hB5⟩
      refine ⟨hB5, ?_⟩
      replace hS := hS.grow hB5
      refine w_grow rfl rfl (s_call Tryz.call93 rfl (rden_ok p _ (by omega)) ?_)
      rintro vp w6 ⟨hvp, hB6⟩
      refine ⟨hB6, ?_⟩
      replace hS := hS.grow hB6
      refine w_grow rfl rfl (s_call Tryz.call93 rfl (rden_ok q _ (by omega)) ?_)
      rintro vq w7 ⟨hvq, hB7⟩
      refine ⟨hB7, ?_⟩
      replace hS := hS.grow hB7
      refine w_grow rfl rfl (s_call Tryz.call98 rfl (rtimes_ok _ _ _ _ _ (hvp.below hB7) hvq (by omega) (by omega)) ?_)
      rintro vD w8 ⟨hvD, hB8⟩
      refine ⟨hB8, ?_⟩
      replace hS := hS.grow hB8
      refine w_grow rfl rfl (s_call Tryz.call95 rfl (rreduced_ok _ _ _ _ _ _ (((hvX.below hB6).below hB7).below hB8) hvD (by omega) (by omega) (Nat.mul_ne_zero p.den_nz q.den_nz)) ?_)
      rintro v9 w9 ⟨rfl, hB9⟩
      refine ⟨hB9, ?_⟩
      replace hS := hS.grow hB9
      refine w_free rfl rfl (s_sta (k := 0)  rfl rfl vi_37 hS rfl rfl rfl (Nat.le_of_ble_eq_true rfl) rfl ?_)
      intro wz10 hS
      refine w_end ?_
      repeat (with_reducible first | refine c_seq ?_ | refine c_block ?_ | refine c_skip ?_ | refine x_then ?_ | refine x_block ?_)
      refine c_ret ?_
      repeat (with_reducible first | refine x_then_ret ?_ | refine x_block_ret ?_)
      refine r_cell (k := 0) rfl rfl vi_37 hS rfl rfl ?_
      exact ⟨congrArg (fun q => aggR (ofQ q)) (mulQ_eq p q), hS.below⟩
theorem rMultiply_ok (r s : RR) (w : World) (hr : Lr r + Lr s ≤ MX) :
    Ret Tryz.prog 29 #[aggR r, aggR s] w fun v w' => v = aggR (ofQ (toQ r * toQ s)) ∧ Below w.heap.size w w' := by
  have hL1 := L_toQ r
  have hL2 := L_toQ s
  have hc1 := fun w => rFix_ok r w (show Lr r ≤ MX by omega)
  have hc2 := fun w => rFix_ok s w (show Lr s ≤ MX by omega)
  unfold fx at hc1 hc2
  have hS := St.init w
  refine enter Tryz.func29 rfl Tryz.ntmps29 rfl ?_
  repeat (with_reducible first | refine c_seq ?_ | refine c_block ?_ | refine c_skip ?_ | refine x_then ?_ | refine x_block ?_)
  refine c_reg ?_
  refine l_heavy rfl (s_box (new := encR r)  rfl rfl hS ?_)
  intro b1 wz2 hS hBz2
  refine l_heavy rfl (s_box (new := encR s)  rfl rfl hS ?_)
  intro b3 wz4 hS hBz4
  refine l_heavy rfl (s_alloc  vi_37 hS ?_)
  intro b5 wz6 hS hBz6
  refine l_nil ?_
  repeat (with_reducible first | refine c_seq ?_ | refine c_block ?_ | refine c_skip ?_ | refine x_then ?_ | refine x_block ?_)
  refine c_draw [(0, .read), (2, .read), (1, .grow), (3, .grow), (4, .grow), (5, .free)] (by kernel_rfl) (by kernel_rfl) hS ?_
  intro wz7 hS hBz7
  refine w_read rfl rfl (s_ldo (k := 2)  rfl vi_37 hS rfl rfl rfl (.inl rfl) ?_)
  refine w_read rfl rfl (s_ldo (k := 1)  rfl vi_37 hS rfl rfl rfl (.inl rfl) ?_)
  refine w_grow rfl rfl (s_call Tryz.call52 rfl (hc1 _) ?_)
  rintro _ wc8 ⟨rfl, hBc8⟩
  replace hS := hS.grow hBc8
  refine ⟨hBc8, ?_⟩
  refine w_grow rfl rfl (s_call Tryz.call52 rfl (hc2 _) ?_)
  rintro _ wc9 ⟨rfl, hBc9⟩
  replace hS := hS.grow hBc9
  refine ⟨hBc9, ?_⟩
  refine w_grow rfl rfl (s_call Tryz.call57 rfl (rTimes_ok (toQ r) (toQ s) _ (by omega)) ?_)
  rintro _ wc10 ⟨rfl, hBc10⟩
  replace hS := hS.grow hBc10
  refine ⟨hBc10, ?_⟩
  refine w_free rfl rfl (s_sta (k := 0)  rfl rfl vi_37 hS rfl rfl rfl (Nat.le_of_ble_eq_true rfl) rfl ?_)
  intro wz11 hS
  refine w_end ?_
  repeat (with_reducible first | refine c_seq ?_ | refine c_block ?_ | refine c_skip ?_ | refine x_then ?_ | refine x_block ?_)
  refine c_ret ?_
  repeat (with_reducible first | refine x_then_ret ?_ | refine x_block_ret ?_)
  refine r_cell (k := 0) rfl rfl vi_37 hS rfl rfl ?_
  exact ⟨rfl, hS.below⟩
theorem sgn_sub (p q : Rat) : sgnQ (p - q) = cmpQ p q := by
  rcases cmpQ_cases p q with ⟨h, e⟩ | ⟨h, e⟩ | ⟨h, e⟩
  · rw [e]
    have := sgnQ_neg (q := p - q).2 (by grind)
    rcases sgnQ_range (p - q) with g | g | g <;> omega
  · rw [e]
    exact sgnQ_zero.2 (by grind)
  · rw [e]
    have := sgnQ_pos (q := p - q).2 (by grind)
    rcases sgnQ_range (p - q) with g | g | g <;> omega
theorem rCompare_ok (r s : RR) (w : World) (hr : Lr r + Lr s ≤ MX) :
    Ret Tryz.prog 28 #[aggR r, aggR s] w fun v w' => v = .int .i64 (cmpQ (toQ r) (toQ s)) ∧ Below w.heap.size w w' := by
  have hL1 := L_toQ r
  have hL2 := L_toQ s
  have hc1 := fun w => rFix_ok r w (show Lr r ≤ MX by omega)
  have hc2 := fun w => rFix_ok s w (show Lr s ≤ MX by omega)
  unfold fx at hc1 hc2
  have hS := St.init w
  refine enter Tryz.func28 rfl Tryz.ntmps28 rfl ?_
  repeat (with_reducible first | refine c_seq ?_ | refine c_block ?_ | refine c_skip ?_ | refine x_then ?_ | refine x_block ?_)
  refine c_reg ?_
  refine l_heavy rfl (s_box (new := encR r)  rfl rfl hS ?_)
  intro b1 wz2 hS hBz2
  refine l_heavy rfl (s_box (new := encR s)  rfl rfl hS ?_)
  intro b3 wz4 hS hBz4
  refine l_pure rfl (s_asg  rfl ?_)
  refine l_nil ?_
  repeat (with_reducible first | refine c_seq ?_ | refine c_block ?_ | refine c_skip ?_ | refine x_then ?_ | refine x_block ?_)
  refine c_draw [(0, .read), (2, .read), (1, .grow), (3, .grow), (4, .grow), (5, .grow), (6, .pure)] (by kernel_rfl) (by kernel_rfl) hS ?_
  intro wz5 hS hBz5
  refine w_read rfl rfl (s_ldo (k := 1)  rfl vi_37 hS rfl rfl rfl (.inl rfl) ?_)
  refine w_read rfl rfl (s_ldo (k := 0)  rfl vi_37 hS rfl rfl rfl (.inl rfl) ?_)
  refine w_grow rfl rfl (s_call Tryz.call52 rfl (hc1 _) ?_)
  rintro _ wc6 ⟨rfl, hBc6⟩
  replace hS := hS.grow hBc6
  refine ⟨hBc6, ?_⟩
  refine w_grow rfl rfl (s_call Tryz.call52 rfl (hc2 _) ?_)
  rintro _ wc7 ⟨rfl, hBc7⟩
  replace hS := hS.grow hBc7
  refine ⟨hBc7, ?_⟩
  refine w_grow rfl rfl (s_call Tryz.call51 rfl (rMinus_ok (toQ r) (toQ s) _ (by omega)) ?_)
  rintro _ wc8 ⟨rfl, hBc8⟩
  replace hS := hS.grow hBc8
  refine ⟨hBc8, ?_⟩
  refine w_grow rfl rfl (s_call Tryz.call72 rfl (rSignum_ok (toQ r - toQ s) _) ?_)
  rintro _ wc9 ⟨rfl, hBc9⟩
  replace hS := hS.grow hBc9
  refine ⟨hBc9, ?_⟩
  refine w_pure rfl rfl (s_asg  rfl ?_)
  refine w_end ?_
  repeat (with_reducible first | refine c_seq ?_ | refine c_block ?_ | refine c_skip ?_ | refine x_then ?_ | refine x_block ?_)
  refine c_ret ?_
  repeat (with_reducible first | refine x_then_ret ?_ | refine x_block_ret ?_)
  refine r_one rfl rfl ?_
  exact ⟨vi rfl (sgn_sub _ _), hS.below⟩
theorem rSum_ok (v : Value) (l : List RR) (w : World) (hv : Sl encR 3 w v l) (hl : sumL l + 1 ≤ MX) :
    Ret Tryz.prog 27 #[v] w fun r w' => r = aggR (ofQ (sumQ (l.map toQ))) ∧ Below w.heap.size w w' := by
  have hM : MX = 1099511627776 := rfl
  have hmax := hv.maxLen
  have hS := St.init w
  refine enter Tryz.func27 rfl Tryz.ntmps27 rfl ?_
  repeat (with_reducible first | refine c_seq ?_ | refine c_block ?_ | refine c_skip ?_ | refine x_then ?_ | refine x_block ?_)
  refine c_reg ?_
  refine l_heavy rfl (s_alloc  vi_37 hS ?_)
  intro b1 wz1 hS hBz1
  refine l_nil ?_
  repeat (with_reducible first | refine c_seq ?_ | refine c_block ?_ | refine c_skip ?_ | refine x_then ?_ | refine x_block ?_)
  refine c_reg ?_
  refine l_pure rfl (s_build  rfl bz_37 ?_)
  refine l_heavy rfl (s_alloc  vi_37 hS ?_)
  intro b3 wz2 hS hBz2
  refine l_heavy rfl (s_sta (k := 0)  rfl rfl vi_37 hS rfl rfl rfl (Nat.le_of_ble_eq_true rfl) rfl ?_)
  intro wz3 hS
  refine l_nil ?_
  repeat (with_reducible first | refine c_seq ?_ | refine c_block ?_ | refine c_skip ?_ | refine x_then ?_ | refine x_block ?_)
  refine c_reg ?_
  refine l_pure rfl (s_asg  rfl ?_)
  refine l_nil ?_
  repeat (with_reducible first | refine c_seq ?_ | refine c_block ?_ | refine c_skip ?_ | refine x_then ?_ | refine x_block ?_)
  replace hS := hS.cast (H' := [(b3, 37, encR (ofQ (sumQ ((l.take 0).map toQ)))), (b1, 37, encR zRR)]) (by rw [show sumQ ((l.take 0).map toQ) = 0 from rfl, ← encR_zero]; rfl)
  refine c_loop (σ := Nat) (fun i ρ w' => i ≤ l.length ∧ L (sumQ ((l.take i).map toQ)) ≤ sumL (l.take i) + 1 ∧ ρ 0 = v ∧ ρ 2 = .pointer (some ⟨b1, 0, none⟩) ∧ ρ 3 = .pointer (some ⟨b3, 0, none⟩) ∧ ρ 4 = .int .i64 i ∧
      St w w' [(b3, 37, encR (ofQ (sumQ ((l.take i).map toQ)))), (b1, 37, encR zRR)]) (fun i => l.length - i) 0
    ⟨Nat.zero_le _, by rw [show sumQ ((l.take 0).map toQ) = 0 from rfl, L_zero]; omega, rfl, rfl, rfl, rfl, hS⟩ ?_
  clear hS
  rintro i ρ w2 ⟨hi, hLi, h0, h2, h3, h4, hS⟩
  repeat (with_reducible first | refine c_seq ?_ | refine c_block ?_ | refine c_skip ?_ | refine x_then ?_ | refine x_block ?_)
  refine c_reg ?_
  refine l_pure rfl (s_move  h4 ?_)
  refine l_pure rfl (s_move  h0 ?_)
  refine l_pure rfl (s_lenr  rfl (hv.below hS.below) ⟨_, Tryz.underlying22⟩ ?_)
  refine l_pure rfl (s_lss  rfl rfl ?_)
  refine l_nil ?_
  repeat (with_reducible first | refine c_seq ?_ | refine c_block ?_ | refine c_skip ?_ | refine x_then ?_ | refine x_block ?_)
  by_cases hlt : i < l.length
  · refine c_yes rfl (decide_eq_true (by omega)) ?_
    repeat (with_reducible first | refine c_seq ?_ | refine c_block ?_ | refine c_skip ?_ | refine x_then ?_ | refine x_block ?_)
    have ht := take_succ' l i zRR hlt
    have hs1 := sumL_take l (i + 1)
    rw [ht, sumL_append] at hs1
    simp only [sumL] at hs1
    have hLr := L_toQ (l.getD i zRR)
    have hadd := L_add (sumQ ((l.take i).map toQ)) (toQ (l.getD i zRR))
    have hc1 := fun w => rFix_ok (l.getD i zRR) w (by omega)
    unfold fx at hc1
    have hsn : sumQ ((l.take (i + 1)).map toQ) = sumQ ((l.take i).map toQ) + toQ (l.getD i zRR) := by
      rw [ht, List.map_append, List.map_cons, List.map_nil, sumQ_snoc]
    repeat (with_reducible first | refine c_seq ?_ | refine c_block ?_ | refine c_skip ?_ | refine x_then ?_ | refine x_block ?_)
    refine c_draw [(0, .read), (1, .pure), (2, .pure), (3, .pure), (4, .read), (5, .grow), (6, .grow), (7, .free)] (by kernel_rfl) (by kernel_rfl) hS ?_
    intro wz4 hS hBz4
    refine w_read rfl rfl (s_ldo (k := 0)  h3 vi_37 hS rfl rfl rfl (.inl rfl) ?_)
    refine w_pure rfl rfl (s_move  h0 ?_)
    refine w_pure rfl rfl (s_move  h4 ?_)
    refine w_pure rfl rfl (s_ixr (i := i)  rfl rfl (hv.below hS.below) (by omega) (by first | omega | (simp; done) | (simp; omega)) si_22 ?_)
    refine w_read rfl rfl (s_lde (i := i) zRR  rfl vi_37 (hv.below hS.below) (by first | omega | (simp; done) | (simp; omega)) rfl rfl (.inl rfl) ?_)
    refine w_grow rfl rfl (s_call Tryz.call52 rfl (hc1 _) ?_)
    rintro _ wc5 ⟨rfl, hBc5⟩
    replace hS := hS.grow hBc5
    refine ⟨hBc5, ?_⟩
    refine w_grow rfl rfl (s_call Tryz.call71 rfl (rPlus_ok _ _ _ (by omega)) ?_)
    rintro _ wc6 ⟨rfl, hBc6⟩
    replace hS := hS.grow hBc6
    refine ⟨hBc6, ?_⟩
    refine w_free rfl rfl (s_sta (k := 0)  h3 rfl vi_37 hS rfl rfl rfl (Nat.le_of_ble_eq_true rfl) rfl ?_)
    intro wz7 hS
    refine w_end ?_
    repeat (with_reducible first | refine c_seq ?_ | refine c_block ?_ | refine c_skip ?_ | refine x_then ?_ | refine x_block ?_)
    refine c_reg ?_
    refine l_pure rfl (s_move  h4 ?_)
    refine l_pure rfl (s_add  rfl rfl (IntWalk.i64_in _ (by omega)) ?_)
    refine l_pure rfl (s_asg  rfl ?_)
    refine l_nil ?_
    repeat (with_reducible first | refine c_seq ?_ | refine c_block ?_ | refine c_skip ?_ | refine x_then ?_ | refine x_block ?_)
    refine ⟨i + 1, _, rfl, ⟨hlt, ?_, h0, h2, h3, vi rfl (by omega), ?_⟩, by omega⟩
    · rw [hsn, ht, sumL_append]
      simp only [sumL]
      omega
    · rw [hsn]; exact hS
  · refine c_no rfl (decide_eq_false (by omega)) ?_
    repeat (with_reducible first | refine c_seq ?_ | refine c_block ?_ | refine c_skip ?_ | refine x_then ?_ | refine x_block ?_)
    refine c_exit ?_
    repeat (with_reducible first | refine x_then_exit ?_ | refine x_block_exit ?_ | refine x_block_pass rfl ?_)
    repeat (with_reducible first | refine c_seq ?_ | refine c_block ?_ | refine c_skip ?_ | refine x_then ?_ | refine x_block ?_)
    obtain rfl : i = l.length := by omega
    rw [List.take_length] at hS
    repeat (with_reducible first | refine c_seq ?_ | refine c_block ?_ | refine c_skip ?_ | refine x_then ?_ | refine x_block ?_)
    refine c_reg ?_
    refine l_read rfl (s_ldo (k := 0)  h3 vi_37 hS rfl rfl rfl (.inl rfl) ?_)
    refine l_heavy rfl (s_sta (k := 1)  h2 rfl vi_37 hS rfl rfl rfl (Nat.le_of_ble_eq_true rfl) rfl ?_)
    intro wz8 hS
    refine l_nil ?_
    repeat (with_reducible first | refine c_seq ?_ | refine c_block ?_ | refine c_skip ?_ | refine x_then ?_ | refine x_block ?_)
    refine c_ret ?_
    repeat (with_reducible first | refine x_then_ret ?_ | refine x_block_ret ?_)
    refine r_cell (k := 1) rfl h2 vi_37 hS rfl rfl ?_
    exact ⟨rfl, hS.below⟩
end Go.Proofs.YtmapmdldlcfjhaaGreatDoor
namespace Go.Sx
open Go Go.RowKit
section
variable {P : Program} {N : Nat} {ρ : Nat → Value} {w0 w : World} {H : List Blk} {k k' b b' : Nat} {t t' : TypeId} {cs cs' : List Value}
theorem results_cell_cell {fn : Func} {p q : Tmp} {ty ty' : TypeId} (h : fn.results = #[.cell p ty, .cell q ty']) (tmps : Array Value) (P : Program) (w : World) :
    (results fn tmps).run P w =
      ((asAddr (tmps.getD p undef)).run P w).andThen fun a w₁ => ((loadVar ty a).run P w₁).andThen fun v w₂ => ((asAddr (tmps.getD q undef)).run P w₂).andThen fun a' w₃ => ((loadVar ty' a').run P w₃).andThen fun v' w₄ => .ok (.tuple #[v, v']) w₄ := by
  simp only [results, h]
  simp [Sem.run_bind, Result.andThen]
theorem r_cell_cell {fn : Func} {p q n n' : Nat} {ty ty' : TypeId} {zz zz' : List Value} {R : Value → World → Prop} (hr : fn.results = #[.cell p ty, .cell q ty']) (hp : ev N ρ (.tmp p) = .pointer (some ⟨b, 0, none⟩)) (hq : ev N ρ (.tmp q) = .pointer (some ⟨b', 0, none⟩)) (ht : vinfo P ty = some (n, true, zz)) (ht' : vinfo P ty' = some (n', true, zz'))
    (hS : St w0 w H) (hk : H[k]? = some (b, t, cs)) (hk' : H[k']? = some (b', t', cs')) (hn : cs.length = n) (hn' : cs'.length = n') (h : R (.tuple #[.agg cs.toArray, .agg cs'.toArray]) w) :
    bodyPost P fn (fun e w' => ∃ v, e = .returned v ∧ R v w') .ret (act N ρ) w := by
  refine bodyPost_ret (v := .tuple #[.agg cs.toArray, .agg cs'.toArray]) ?_ rfl ⟨_, rfl, h⟩
  rw [results_cell_cell hr, tmps_getD, tmps_getD, hp, hq]
  have hl := hS.loadVar hk ht hn
  have hl' := hS.loadVar hk' ht' hn'
  simp only [asAddr, Sem.run_pure, Result.andThen_ok]
  rw [hl]
  simp only [Result.andThen_ok]
  rw [hl']
  simp [Result.andThen]
end
section
variable {P : Program} {N : Nat} {ρ : Nat → Value} {d : Option Tmp} {ty : TypeId} {pos : String} {aft : Array Edge} {g : Option (Nat × Bool)} {x y : Operand} {ats : Array TypeId} {k : IntKind} {m n : Int} {K : Value → Prop}
theorem s_min (hx : ev N ρ x = .int k m) (hy : ev N ρ y = .int k n) (h : K (.int k (min m n))) : Pure1 P N ρ ⟨d, .call ⟨.builtin .min, #[x, y], ats⟩, ty, pos, aft, g⟩ K :=
  ⟨_, fun w => (by simp [execOp, resolve, invoke, builtin, hx, hy, Lib.run_min_ints]), h⟩
theorem s_max (hx : ev N ρ x = .int k m) (hy : ev N ρ y = .int k n) (h : K (.int k (max m n))) : Pure1 P N ρ ⟨d, .call ⟨.builtin .max, #[x, y], ats⟩, ty, pos, aft, g⟩ K :=
  ⟨_, fun w => (by simp [execOp, resolve, invoke, builtin, hx, hy, Lib.run_max_ints]), h⟩
end
end Go.Sx
namespace Go.Proofs.YtmapmdldlcfjhaaGreatDoor
open Go Go.RowKit Go.Sx
structure Ob where
  deb : Int
  cre : Int
  amt : RR
  inc : Int
  acq : Int
  cont : Bool
def zOb : Ob := ⟨0, 0, zRR, 0, 0, false⟩
def isDay (d : Int) : Bool := decide (0 ≤ d ∧ d ≤ 1048576)
def eligB (o : Ob) (c s : Int) : Bool := isDay c && isDay s && !o.cont && decide (o.inc ≤ c) && (decide (o.acq = o.inc) || decide (o.acq < c - s))
def gO (l : List Ob) (i : Nat) : Ob := l.getD i zOb
def goes (l : List Ob) (c s a b : Int) (i : Nat) : Bool := decide ((gO l i).deb = a) && decide ((gO l i).cre = b) && eligB (gO l i) c s
/-- i goes ahead of k. -/
def ahead (l : List Ob) (i k : Nat) : Prop := (gO l i).inc < (gO l k).inc ∨ ((gO l i).inc = (gO l k).inc ∧ i < k)
theorem sumQ_cons (q : Rat) (l : List Rat) : sumQ (q :: l) = q + sumQ l := by
  have key : ∀ (l : List Rat) (a : Rat), l.foldl (· + ·) a = a + sumQ l := by
    intro l
    induction l with
    | nil => intro a; show a = a + 0; grind
    | cons x l ih =>
      intro a
      rw [List.foldl_cons, ih]
      unfold sumQ
      rw [List.foldl_cons, ih]
      grind
  show l.foldl (· + ·) (0 + q) = _
  rw [key]; grind
theorem sumQ_perm {l m : List Rat} (h : l.Perm m) : sumQ l = sumQ m := by
  induction h with
  | nil => rfl
  | cons x _ ih => rw [sumQ_cons, sumQ_cons, ih]
  | swap x y l => rw [sumQ_cons, sumQ_cons, sumQ_cons, sumQ_cons]; grind
  | trans _ _ ih1 ih2 => rw [ih1, ih2]
theorem sumQ_nonneg {l : List Rat} (h : ∀ q ∈ l, 0 ≤ q) : 0 ≤ sumQ l := by
  induction l with
  | nil => exact Rat.le_refl
  | cons q l ih =>
    rw [sumQ_cons]
    have h1 := ih fun x hx => h x (List.mem_cons_of_mem _ hx)
    have h2 := h q (List.mem_cons_self ..)
    grind
end Go.Proofs.YtmapmdldlcfjhaaGreatDoor
namespace Go.Proofs.YtmapmdldlcfjhaaGreatDoor
open Go Go.RowKit Go.Sx
def zI (L : List Nat) : List Int := L.map fun i : Nat => (i : Int)
theorem zI_len (L : List Nat) : (zI L).length = L.length := List.length_map _
theorem zI_get (L : List Nat) {k : Nat} (h : k < L.length) : (zI L).getD k 0 = ((L.getD k 0 : Nat) : Int) := by
  unfold zI
  rw [List.getD_eq_getElem?_getD, List.getD_eq_getElem?_getD, List.getElem?_map, List.getElem?_eq_getElem h]; rfl
structure Ord (fr : Nat → Rat) (n : Nat) (l : List Nat) : Prop where
  perm : l.Perm (List.range n)
  srt : l.Pairwise fun a b => fr b < fr a ∨ (fr a = fr b ∧ a < b)
theorem Ord.len {fr : Nat → Rat} {n : Nat} {l : List Nat} (h : Ord fr n l) : l.length = n := by rw [h.perm.length_eq, List.length_range]
theorem Ord.nodup {fr : Nat → Rat} {n : Nat} {l : List Nat} (h : Ord fr n l) : l.Nodup := h.perm.nodup_iff.2 List.nodup_range
theorem Ord.mem {fr : Nat → Rat} {n : Nat} {l : List Nat} (h : Ord fr n l) {i : Nat} : i ∈ l ↔ i < n := by rw [h.perm.mem_iff, List.mem_range]
theorem Ord.lt {fr : Nat → Rat} {n : Nat} {l : List Nat} (h : Ord fr n l) {k : Nat} (hk : k < n) : l.getD k 0 < n := h.mem.1 (getD_mem l k 0 (by rw [h.len]; exact hk))
def ltB (fr : Nat → Rat) (a b : Nat) : Bool := decide (fr b < fr a ∨ (fr a = fr b ∧ a < b))
def ordB (fr : Nat → Rat) (n : Nat) : List Nat := isort (ltB fr) (List.range n)
theorem ordB_ord (fr : Nat → Rat) (n : Nat) : Ord fr n (ordB fr n) := ⟨isort_perm _ _, by
  have h := isort_sorted (lt := ltB fr) (L := List.range n) (R := fun i k => i < k)
    (fun a b h => by
      unfold ltB at h ⊢
      have h := of_decide_eq_true h
      refine decide_eq_false ?_
      rintro (g | ⟨g1, g2⟩)
      · rcases h with h | ⟨h, _⟩ <;> grind
      · rcases h with h | ⟨_, h⟩
        · grind
        · omega)
    (fun a b c h1 h2 => by
      unfold ltB at h1 h2 ⊢
      have h1 := of_decide_eq_false h1
      have h2 := of_decide_eq_false h2
      refine decide_eq_false ?_
      have e1 : ¬ fr b < fr a := fun g => h1 (.inl g)
      have e2 : ¬ fr c < fr b := fun g => h2 (.inl g)
      have e3 : fr a = fr b → ¬ a < b := fun g q => h1 (.inr ⟨g, q⟩)
      have e4 : fr b = fr c → ¬ b < c := fun g q => h2 (.inr ⟨g, q⟩)
      rintro (g | ⟨g1, g2⟩)
      · grind
      · have g3 : fr a = fr b := by grind
        have g4 : fr b = fr c := by grind
        have := e3 g3
        have := e4 g4
        omega)
    List.pairwise_lt_range
  refine h.imp ?_
  rintro a b ⟨h1, h2⟩
  by_cases g : ltB fr a b = true
  · exact of_decide_eq_true g
  · have g' := Bool.eq_false_iff.2 g
    have hab := h2 g'
    unfold ltB at h1 g'
    have h1 := of_decide_eq_false h1
    have g' := of_decide_eq_false g'
    exfalso
    refine g' (.inr ⟨?_, hab⟩)
    have e1 : ¬ fr b < fr a := fun q => g' (.inl q)
    have e2 : ¬ fr a < fr b := fun q => h1 (.inl q)
    grind⟩
def best (cd : Nat → Bool) (fr : Nat → Rat) : Nat → Option Nat
  | 0 => none
  | i + 1 => match best cd fr i with
    | none => if cd i = true then some i else none
    | some b => if cd i = true ∧ fr b < fr i then some i else some b
theorem best_lt {cd : Nat → Bool} {fr : Nat → Rat} : ∀ {n b : Nat}, best cd fr n = some b → b < n ∧ cd b = true := by
  intro n
  induction n with
  | zero => intro b h; cases h
  | succ n ih =>
    intro b h
    rw [best] at h
    cases hb : best cd fr n with
    | none =>
      rw [hb] at h
      simp only at h
      split at h
      · next hc => obtain rfl := Option.some.inj h; exact ⟨by omega, hc⟩
      · cases h
    | some x =>
      rw [hb] at h
      have hx := ih hb
      simp only at h
      split at h
      · next hc => obtain rfl := Option.some.inj h; exact ⟨by omega, hc.1⟩
      · obtain rfl := Option.some.inj h; exact ⟨by omega, hx.2⟩
theorem best_pick {cd : Nat → Bool} {fr : Nat → Rat} {n p : Nat} (hp : p < n) (hc : cd p = true) (h : ∀ i, i < n → cd i = true → i ≠ p → fr i < fr p ∨ (fr i = fr p ∧ p < i)) : best cd fr n = some p := by
  have key : ∀ j, j ≤ n → p < j → best cd fr j = some p := by
    intro j
    induction j with
    | zero => intro _ hj; omega
    | succ j ih =>
      intro hj hpj
      rw [best]
      by_cases e : p < j
      · rw [ih (by omega) e]
        show (if cd j = true ∧ fr p < fr j then some j else some p) = some p
        rw [if_neg]
        rintro ⟨h1, h2⟩
        rcases h j (by omega) h1 (by omega) with g | ⟨g, _⟩ <;> grind
      · obtain rfl : p = j := by omega
        cases hb : best cd fr p with
        | none =>
          show (if cd p = true then some p else none) = some p
          rw [if_pos hc]
        | some b =>
          obtain ⟨h1, h2⟩ := best_lt hb
          show (if cd p = true ∧ fr b < fr p then some p else some b) = some p
          rw [if_pos]
          refine ⟨hc, ?_⟩
          rcases h b (by omega) h2 (by omega) with g | ⟨_, g⟩
          · exact g
          · omega
  exact key n (Nat.le_refl _) hp
theorem split_at {α : Type} (l : List α) (d : α) {k : Nat} (hk : k < l.length) : l = l.take k ++ l.getD k d :: l.drop (k + 1) := by
  have h := List.drop_eq_getElem_cons hk
  have e : l.getD k d = l[k] := by rw [List.getD_eq_getElem?_getD, List.getElem?_eq_getElem hk]; rfl
  rw [e, ← h, List.take_append_drop]
theorem Ord.pick {fr : Nat → Rat} {n k : Nat} {l : List Nat} (h : Ord fr n l) (hk : k < n) {cd : Nat → Bool} (hcd : ∀ i, cd i = true → i ∉ l.take k) (hc : cd (l.getD k 0) = true) : best cd fr n = some (l.getD k 0) := by
  have hkl : k < l.length := by rw [h.len]; exact hk
  refine best_pick (h.lt hk) hc fun i hi hci hip => ?_
  have hm := h.mem.2 hi
  have hs := h.srt
  have e := split_at l 0 hkl
  rw [e] at hm hs
  rcases List.mem_append.1 hm with g | g
  · exact absurd g (hcd i hci)
  · rcases List.mem_cons.1 g with g | g
    · exact absurd g hip
    · have := (List.pairwise_cons.1 (List.pairwise_append.1 hs).2.1).1 i g
      rcases this with q | ⟨q, r⟩
      · exact .inl q
      · exact .inr ⟨q.symm, r⟩
def sumR (f : Nat → Rat) (n : Nat) : Rat := sumQ ((List.range n).map f)
theorem sumR_succ (f : Nat → Rat) (n : Nat) : sumR f (n + 1) = sumR f n + f n := by
  unfold sumR
  rw [List.range_succ, List.map_append, List.map_cons, List.map_nil, sumQ_snoc]
theorem sumR_list (l : List RR) : sumQ (l.map toQ) = sumR (fun i => toQ (l.getD i zRR)) l.length := by
  unfold sumR
  congr 1
  refine List.ext_getElem (by simp) fun i h1 h2 => ?_
  rw [List.length_map] at h1
  rw [List.getElem_map, List.getElem_map, List.getElem_range, List.getD_eq_getElem?_getD, List.getElem?_eq_getElem h1]; rfl
theorem sumR_mul (f : Nat → Rat) (c : Rat) (n : Nat) : sumR (fun i => f i * c) n = sumR f n * c := by
  induction n with
  | zero => show (0 : Rat) = 0 * c; grind
  | succ n ih => rw [sumR_succ, sumR_succ, ih]; grind
def sumZ (f : Nat → Int) : Nat → Int
  | 0 => 0
  | n + 1 => sumZ f n + f n
theorem sumZ_congr {f g : Nat → Int} {n : Nat} (h : ∀ i, i < n → f i = g i) : sumZ f n = sumZ g n := by
  induction n with
  | zero => rfl
  | succ n ih => rw [sumZ, sumZ, ih fun i hi => h i (by omega), h n (by omega)]
theorem sumZ_one {f g : Nat → Int} {n j : Nat} (hj : j < n) (h1 : g j = f j + 1) (h : ∀ i, i < n → i ≠ j → g i = f i) : sumZ g n = sumZ f n + 1 := by
  induction n with
  | zero => omega
  | succ n ih =>
    rw [sumZ, sumZ]
    by_cases e : j = n
    · subst e
      rw [h1, sumZ_congr (n := j) fun i hi => h i (by omega) (by omega)]; omega
    · rw [ih (by omega) (fun i hi hij => h i (by omega) hij), h n (by omega) (fun q => e q.symm)]; omega
theorem sumZ_nonneg {f : Nat → Int} {n : Nat} (h : ∀ i, i < n → 0 ≤ f i) : 0 ≤ sumZ f n := by
  induction n with
  | zero => exact Int.le_refl _
  | succ n ih => rw [sumZ]; have := ih fun i hi => h i (by omega); have := h n (by omega); omega
theorem sumZ_mono {f : Nat → Int} {n k : Nat} (h : ∀ i, i < n → 0 ≤ f i) (hk : k ≤ n) : sumZ f k ≤ sumZ f n := by
  induction n with
  | zero => obtain rfl : k = 0 := by omega
            exact Int.le_refl _
  | succ n ih =>
    by_cases e : k = n + 1
    · subst e; exact Int.le_refl _
    · rw [sumZ]; have := ih (fun i hi => h i (by omega)) (by omega); have := h n (by omega); omega
def baQ (q : Nat → Rat) (i : Nat) : Int := (q i).floor
def frQ (q : Nat → Rat) (i : Nat) : Rat := q i - ((q i).floor : Int)
theorem frQ_range (q : Nat → Rat) (i : Nat) : 0 ≤ frQ q i ∧ frQ q i < 1 := by
  have h1 := Rat.floor_le (q i)
  have h2 := Rat.lt_floor_add_one (q i)
  rw [Rat.intCast_add] at h2
  unfold frQ
  constructor
  · grind
  · have : ((1 : Int) : Rat) = 1 := rfl
    grind
theorem baQ_nonneg {q : Nat → Rat} {i : Nat} (h : 0 ≤ q i) : 0 ≤ baQ q i := Rat.le_floor_iff.2 h
theorem le_sumR {f : Nat → Rat} {n i : Nat} (h : ∀ i, i < n → 0 ≤ f i) (hi : i < n) : 0 ≤ sumR f i ∧ f i ≤ sumR f n := by
  have nn : ∀ k, k ≤ n → 0 ≤ sumR f k := by
    intro k
    induction k with
    | zero => intro _; exact Rat.le_refl
    | succ k ih =>
      intro hk
      rw [sumR_succ]
      have := ih (by omega)
      have := h k (by omega)
      grind
  have key : ∀ k, i < k → k ≤ n → f i ≤ sumR f k := by
    intro k
    induction k with
    | zero => intro hk; omega
    | succ k ih =>
      intro hik hk
      rw [sumR_succ]
      by_cases e : i = k
      · subst e
        have := nn i (by omega)
        grind
      · have := ih (by omega) (by omega)
        have := h k (by omega)
        grind
  exact ⟨nn i (by omega), key n hi (Nat.le_refl _)⟩
theorem baQ_le {q : Nat → Rat} {n i : Nat} (h : ∀ i, i < n → 0 ≤ q i) (hi : i < n) : baQ q i ≤ (sumR q n).floor := Rat.floor_monotone (le_sumR h hi).2
theorem sumR_split (q : Nat → Rat) (n : Nat) : sumR q n = ((sumZ (baQ q) n : Int) : Rat) + sumR (frQ q) n := by
  induction n with
  | zero => show (0 : Rat) = ((0 : Int) : Rat) + 0; rw [Rat.add_zero]; rfl
  | succ n ih =>
    rw [sumR_succ, sumR_succ, sumZ, ih, Rat.intCast_add]
    show _ + q n = _ + ((q n).floor : Int) + (_ + (q n - ((q n).floor : Int)))
    grind
/-- How many are rounded up. -/
def lfQ (q : Nat → Rat) (n : Nat) : Int := (sumR q n).floor - sumZ (baQ q) n
theorem sumR_nonneg {f : Nat → Rat} {n : Nat} (h : ∀ i, i < n → 0 ≤ f i) : 0 ≤ sumR f n := sumQ_nonneg fun x hx => by
  obtain ⟨i, hi, rfl⟩ := List.mem_map.1 hx
  exact h i (List.mem_range.1 hi)
theorem lfQ_nonneg (q : Nat → Rat) (n : Nat) : 0 ≤ lfQ q n := by
  have h : sumZ (baQ q) n ≤ (sumR q n).floor := by
    rw [Rat.le_floor_iff, sumR_split q n]
    have := sumR_nonneg (f := frQ q) (n := n) fun i _ => (frQ_range q i).1
    grind
  unfold lfQ
  omega
theorem lfQ_le (q : Nat → Rat) (n : Nat) : ((lfQ q n : Int) : Rat) ≤ sumR (frQ q) n := by
  have h1 := Rat.floor_le (sumR q n)
  have h2 := sumR_split q n
  unfold lfQ
  rw [Rat.intCast_sub]
  grind
theorem sum_ones {fr : Nat → Rat} (h : ∀ i, 0 ≤ fr i ∧ fr i < 1) (J : List Nat) : 0 ≤ sumQ (J.map fr) ∧ sumQ (J.map fr) ≤ ((J.length : Int) : Rat) := by
  induction J with
  | nil => exact ⟨Rat.le_refl, Rat.le_refl⟩
  | cons x J ih =>
    rw [List.map_cons, sumQ_cons, List.length_cons]
    have e : (((J.length + 1 : Nat) : Int) : Rat) = ((J.length : Int) : Rat) + 1 := by
      rw [Int.natCast_add, Rat.intCast_add]; rfl
    rw [e]
    have := h x
    grind
theorem sumQ_append (l m : List Rat) : sumQ (l ++ m) = sumQ l + sumQ m := by
  induction l with
  | nil => show sumQ m = 0 + sumQ m; grind
  | cons x l ih => rw [List.cons_append, sumQ_cons, sumQ_cons, ih]; grind
theorem sum_zeros {fr : Nat → Rat} {J : List Nat} (h : ∀ i ∈ J, fr i = 0) : sumQ (J.map fr) = 0 := by
  induction J with
  | nil => rfl
  | cons x J ih => rw [List.map_cons, sumQ_cons, h x (List.mem_cons_self ..), ih fun i hi => h i (List.mem_cons_of_mem _ hi)]; grind
theorem Ord.room {fr : Nat → Rat} {n : Nat} {l : List Nat} (h : Ord fr n l) (h0 : ∀ i, 0 ≤ fr i ∧ fr i < 1) {m : Nat} (hm : ((m : Int) : Rat) ≤ sumR fr n) : m ≤ n ∧ ∀ k, k < m → fr (l.getD k 0) ≠ 0 := by
  have e : sumR fr n = sumQ (l.map fr) := sumQ_perm ((h.perm.map fr).symm)
  rw [e] at hm
  have h1 := (sum_ones h0 l).2
  rw [h.len] at h1
  have hmn : m ≤ n := by
    have := Rat.le_trans hm h1
    have := Rat.intCast_le_intCast.1 this
    omega
  refine ⟨hmn, fun k hk hz => ?_⟩
  have hkl : k < l.length := by rw [h.len]; omega
  have hs := h.srt
  have e2 := split_at l 0 hkl
  have h2 : sumQ (l.map fr) ≤ ((k : Int) : Rat) := by
    rw [e2] at hs ⊢
    rw [List.map_append, sumQ_append]
    have hz2 : ∀ i ∈ l.getD k 0 :: l.drop (k + 1), fr i = 0 := by
      intro i hi
      rcases List.mem_cons.1 hi with g | g
      · rw [g]; exact hz
      · have := (List.pairwise_cons.1 (List.pairwise_append.1 hs).2.1).1 i g
        have h3 := (h0 i).1
        rcases this with q | ⟨q, _⟩ <;> grind
    rw [sum_zeros hz2]
    have h3 := (sum_ones h0 (l.take k)).2
    rw [List.length_take, Nat.min_eq_left (by omega)] at h3
    grind
  have := Rat.intCast_le_intCast.1 (Rat.le_trans hm h2)
  omega
/-- Rounded: the first m of an order are raised. -/
def rnd (ba : Nat → Int) (l : List Nat) (m : Nat) (i : Nat) : Int := if i ∈ l.take m then ba i + 1 else ba i
theorem rnd_zero (ba : Nat → Int) (l : List Nat) : rnd ba l 0 = ba := by
  funext i
  unfold rnd
  rw [List.take_zero, if_neg (fun h => nomatch h)]
theorem nodup_at {l : List Nat} (h : l.Nodup) {k : Nat} (hk : k < l.length) : l.getD k 0 ∉ l.take k := by
  have e := split_at l 0 hk
  rw [e] at h
  intro g
  exact (List.nodup_append.1 h).2.2 _ g _ (List.mem_cons_self ..) rfl
theorem rnd_at {ba : Nat → Int} {l : List Nat} (h : l.Nodup) {k : Nat} (hk : k < l.length) : rnd ba l k (l.getD k 0) = ba (l.getD k 0) := by
  unfold rnd
  rw [if_neg (nodup_at h hk)]
theorem rnd_set {ba : Nat → Int} {l : List Nat} {n k : Nat} (hk : k < l.length) : (tab n (rnd ba l k)).set (l.getD k 0) (ba (l.getD k 0) + 1) = tab n (rnd ba l (k + 1)) := by
  rw [tab_set]
  refine tab_congr fun j _ => ?_
  unfold rnd
  rw [take_succ' l k 0 hk]
  by_cases e : j = l.getD k 0
  · rw [if_pos e, e, if_pos (List.mem_append_right _ (List.mem_singleton.2 rfl))]
  · rw [if_neg e]
    by_cases g : j ∈ l.take k
    · rw [if_pos g, if_pos (List.mem_append_left _ g)]
    · rw [if_neg g, if_neg]
      intro q
      rcases List.mem_append.1 q with q | q
      · exact g q
      · exact e (List.mem_singleton.1 q)
theorem rnd_sum {ba : Nat → Int} {l : List Nat} {n : Nat} (h : l.Nodup) (hl : l.length = n) (hm : ∀ i ∈ l, i < n) : ∀ k, k ≤ n → sumZ (rnd ba l k) n = sumZ ba n + k := by
  intro k
  induction k with
  | zero => intro _; rw [rnd_zero]; omega
  | succ k ih =>
    intro hk
    have hkl : k < l.length := by omega
    have hj := hm _ (getD_mem l k 0 hkl)
    have hset : ∀ i, rnd ba l (k + 1) i = if i = l.getD k 0 then ba i + 1 else rnd ba l k i := by
      intro i
      unfold rnd
      rw [take_succ' l k 0 hkl]
      by_cases e : i = l.getD k 0
      · rw [if_pos e, if_pos (List.mem_append_right _ (List.mem_singleton.2 e))]
      · rw [if_neg e]
        by_cases g : i ∈ l.take k
        · rw [if_pos g, if_pos (List.mem_append_left _ g)]
        · rw [if_neg g, if_neg]
          intro q
          rcases List.mem_append.1 q with q | q
          · exact g q
          · exact e (List.mem_singleton.1 q)
    rw [sumZ_one (f := rnd ba l k) (g := rnd ba l (k + 1)) hj (by rw [hset, if_pos rfl, rnd_at h hkl]) (fun i _ hi => by rw [hset, if_neg hi]), ih (by omega)]
    omega
end Go.Proofs.YtmapmdldlcfjhaaGreatDoor
namespace Go.Proofs.YtmapmdldlcfjhaaGreatDoor
open Go Go.RowKit Go.Sx
/-- One that goes ahead of another one is raised if that one is. -/
theorem Ord.before {fr : Nat → Rat} {n : Nat} {l : List Nat} (h : Ord fr n l) {i k m : Nat} (hi : i < n) (hik : fr k < fr i ∨ (fr i = fr k ∧ i < k)) (hk : k ∈ l.take m) : i ∈ l.take m := by
  have hm := h.mem.2 hi
  have hs := h.srt
  rw [← List.take_append_drop m l] at hm hs
  rcases List.mem_append.1 hm with g | g
  · exact g
  · exfalso
    have := (List.pairwise_append.1 hs).2.2 k hk i g
    rcases hik with q | ⟨q, r⟩ <;> rcases this with t | ⟨t, u⟩
    · grind
    · grind
    · grind
    · omega
/-- Rounding of q by an order. -/
def resQ (q : Nat → Rat) (l : List Nat) (n : Nat) : Nat → Int := rnd (baQ q) l (lfQ q n).toNat
theorem lf_room {q : Nat → Rat} {n : Nat} {l : List Nat} (h : Ord (frQ q) n l) : (lfQ q n).toNat ≤ n ∧ ∀ k, k < (lfQ q n).toNat → frQ q (l.getD k 0) ≠ 0 :=
  h.room (frQ_range q) (by rw [Int.toNat_of_nonneg (lfQ_nonneg q n)]; exact lfQ_le q n)
theorem raised {q : Nat → Rat} {n : Nat} {l : List Nat} (h : Ord (frQ q) n l) {i : Nat} (hi : i ∈ l.take (lfQ q n).toNat) : frQ q i ≠ 0 := by
  obtain ⟨k, hk, e⟩ := List.getElem_of_mem hi
  rw [List.length_take] at hk
  rw [List.getElem_take] at e
  have := (lf_room h).2 k (by omega)
  rwa [List.getD_eq_getElem?_getD, List.getElem?_eq_getElem (by omega), Option.getD_some, e] at this
theorem res_or {q : Nat → Rat} {n : Nat} {l : List Nat} (h : Ord (frQ q) n l) (i : Nat) : (i ∉ l.take (lfQ q n).toNat ∧ resQ q l n i = baQ q i) ∨ (i ∈ l.take (lfQ q n).toNat ∧ resQ q l n i = baQ q i + 1 ∧ frQ q i ≠ 0) := by
  unfold resQ rnd
  by_cases e : i ∈ l.take (lfQ q n).toNat
  · rw [if_pos e]; exact .inr ⟨e, rfl, raised h e⟩
  · rw [if_neg e]; exact .inl ⟨e, rfl⟩
theorem res_sum {q : Nat → Rat} {n : Nat} {l : List Nat} (h : Ord (frQ q) n l) : sumZ (resQ q l n) n = (sumR q n).floor := by
  unfold resQ
  rw [rnd_sum h.nodup h.len (fun i hi => h.mem.1 hi) _ (lf_room h).1, Int.toNat_of_nonneg (lfQ_nonneg q n)]
  unfold lfQ
  omega
end Go.Proofs.YtmapmdldlcfjhaaGreatDoor
namespace Go.Proofs.YtmapmdldlcfjhaaGreatDoor
open Go Go.RowKit Go.Sx
theorem IndexFuncG_ok {f : FuncId} (hcall : ∀ args w, (callFunc f args).run Tryz.prog w = .ok (.enter f args) w) (hf : ∀ (r : RR) (w : World), Lr r ≤ MX → Ret Tryz.prog f #[aggR r] w fun v w' => v = .bool (decide (toQ r < 0)) ∧ Below w.heap.size w w')
    (v : Value) (l : List RR) (w : World) (hv : Sl encR 3 w v l) (hl : RB MX l) :
    Ret Tryz.prog 109 #[v, .func (.func f) #[] #[]] w fun r w' => (∃ k : Int, r = .int .i64 k ∧ (0 ≤ k ↔ negs l = true)) ∧ Below w.heap.size w w' := by
  have hmax := hv.maxLen
  have hS := St.init w
  refine enter Tryz.func109 rfl Tryz.ntmps109 rfl ?_
  repeat (with_reducible first | refine c_seq ?_ | refine c_block ?_ | refine c_skip ?_ | refine x_then ?_ | refine x_block ?_)
  refine c_reg ?_
  refine l_pure rfl (s_asg  rfl ?_)
  refine l_nil ?_
  repeat (with_reducible first | refine c_seq ?_ | refine c_block ?_ | refine c_skip ?_ | refine x_then ?_ | refine x_block ?_)
  refine c_reg ?_
  refine l_pure rfl (s_move  rfl ?_)
  refine l_pure rfl (s_lenr  rfl (hv.below hS.below) ⟨_, Tryz.underlying22⟩ ?_)
  refine l_pure rfl (s_move  rfl ?_)
  refine l_nil ?_
  repeat (with_reducible first | refine c_seq ?_ | refine c_block ?_ | refine c_skip ?_ | refine x_then ?_ | refine x_block ?_)
  refine c_loop (σ := Nat) (fun i ρ w' => i ≤ l.length ∧ negs (l.take i) = false ∧ ρ 0 = v ∧ ρ 1 = .func (.func f) #[] #[] ∧ ρ 7 = .int .i64 l.length ∧ ρ 8 = .int .i64 i ∧ St w w' []) (fun i => l.length - i) 0
    ⟨Nat.zero_le _, rfl, rfl, rfl, rfl, rfl, hS⟩ ?_
  clear hS
  rintro i ρ w2 ⟨hi, hn, h0, h1, h7, h8, hS⟩
  repeat (with_reducible first | refine c_seq ?_ | refine c_block ?_ | refine c_skip ?_ | refine x_then ?_ | refine x_block ?_)
  refine c_reg ?_
  refine l_pure rfl (s_lss  h8 h7 ?_)
  refine l_nil ?_
  repeat (with_reducible first | refine c_seq ?_ | refine c_block ?_ | refine c_skip ?_ | refine x_then ?_ | refine x_block ?_)
  by_cases hlt : i < l.length
  · refine c_yes rfl (decide_eq_true (by omega)) ?_
    repeat (with_reducible first | refine c_seq ?_ | refine c_block ?_ | refine c_skip ?_ | refine x_then ?_ | refine x_block ?_)
    obtain ⟨t1, t2⟩ := negs_take l hlt hn
    repeat (with_reducible first | refine c_seq ?_ | refine c_block ?_ | refine c_skip ?_ | refine x_then ?_ | refine x_block ?_)
    refine c_reg ?_
    refine l_pure rfl (s_move  h8 ?_)
    refine l_pure rfl (s_asg  rfl ?_)
    refine l_nil ?_
    repeat (with_reducible first | refine c_seq ?_ | refine c_block ?_ | refine c_skip ?_ | refine x_then ?_ | refine x_block ?_)
    refine c_reg ?_
    refine l_pure rfl (s_move  h1 ?_)
    refine l_pure rfl (s_move  h0 ?_)
    refine l_pure rfl (s_move  rfl ?_)
    refine l_pure rfl (s_ixr (i := i)  rfl rfl (hv.below hS.below) (by omega) (by first | omega | (simp; done) | (simp; omega)) si_22 ?_)
    refine l_read rfl (s_lde (i := i) zRR  rfl vi_37 (hv.below hS.below) (by first | omega | (simp; done) | (simp; omega)) rfl rfl (.inl rfl) ?_)
    refine l_heavy rfl (s_callv hcall rfl rfl (hf (l.getD i zRR) _ (hl _ (getD_mem l i zRR hlt))) ?_)
    rintro r w3 ⟨rfl, hB3⟩
    replace hS := hS.grow hB3
    refine l_nil ?_
    repeat (with_reducible first | refine c_seq ?_ | refine c_block ?_ | refine c_skip ?_ | refine x_then ?_ | refine x_block ?_)
    by_cases hneg : toQ (l.getD i zRR) < 0
    · refine c_yes rfl (decide_eq_true hneg) ?_
      repeat (with_reducible first | refine c_seq ?_ | refine c_block ?_ | refine c_skip ?_ | refine x_then ?_ | refine x_block ?_)
      refine c_reg ?_
      refine l_pure rfl (s_move  rfl ?_)
      refine l_pure rfl (s_asg  rfl ?_)
      refine l_nil ?_
      repeat (with_reducible first | refine c_seq ?_ | refine c_block ?_ | refine c_skip ?_ | refine x_then ?_ | refine x_block ?_)
      refine c_ret ?_
      repeat (with_reducible first | refine x_then_ret ?_ | refine x_block_ret ?_)
      refine r_one rfl rfl ?_
      exact ⟨⟨_, rfl, ⟨fun _ => t2 hneg, fun _ => by omega⟩⟩, hS.below⟩
    · refine c_no rfl (decide_eq_false hneg) ?_
      repeat (with_reducible first | refine c_seq ?_ | refine c_block ?_ | refine c_skip ?_ | refine x_then ?_ | refine x_block ?_)
      refine c_reg ?_
      refine l_pure rfl (s_add  h8 rfl (IntWalk.i64_in _ (by omega)) ?_)
      refine l_pure rfl (s_move  rfl ?_)
      refine l_nil ?_
      repeat (with_reducible first | refine c_seq ?_ | refine c_block ?_ | refine c_skip ?_ | refine x_then ?_ | refine x_block ?_)
      exact ⟨i + 1, _, rfl, ⟨hlt, t1 hneg, h0, h1, h7, vi rfl (by omega), hS⟩, by omega⟩
  · refine c_no rfl (decide_eq_false (by omega)) ?_
    repeat (with_reducible first | refine c_seq ?_ | refine c_block ?_ | refine c_skip ?_ | refine x_then ?_ | refine x_block ?_)
    refine c_exit ?_
    repeat (with_reducible first | refine x_then_exit ?_ | refine x_block_exit ?_ | refine x_block_pass rfl ?_)
    repeat (with_reducible first | refine c_seq ?_ | refine c_block ?_ | refine c_skip ?_ | refine x_then ?_ | refine x_block ?_)
    obtain rfl : i = l.length := by omega
    rw [List.take_length] at hn
    repeat (with_reducible first | refine c_seq ?_ | refine c_block ?_ | refine c_skip ?_ | refine x_then ?_ | refine x_block ?_)
    refine c_reg ?_
    refine l_pure rfl (s_asg  rfl ?_)
    refine l_nil ?_
    repeat (with_reducible first | refine c_seq ?_ | refine c_block ?_ | refine c_skip ?_ | refine x_then ?_ | refine x_block ?_)
    refine c_ret ?_
    repeat (with_reducible first | refine x_then_ret ?_ | refine x_block_ret ?_)
    refine r_one rfl rfl ?_
    exact ⟨⟨_, rfl, ⟨fun h => by omega, fun h => by rw [hn] at h; cases h⟩⟩, hS.below⟩
theorem ContainsFuncG_ok {f : FuncId} (hcall : ∀ args w, (callFunc f args).run Tryz.prog w = .ok (.enter f args) w) (hf : ∀ (r : RR) (w : World), Lr r ≤ MX → Ret Tryz.prog f #[aggR r] w fun v w' => v = .bool (decide (toQ r < 0)) ∧ Below w.heap.size w w')
    (v : Value) (l : List RR) (w : World) (hv : Sl encR 3 w v l) (hl : RB MX l) :
    Ret Tryz.prog 77 #[v, .func (.func f) #[] #[]] w fun r w' => r = .bool (negs l) ∧ Below w.heap.size w w' := by
  have hS := St.init w
  refine enter Tryz.func77 rfl Tryz.ntmps77 rfl ?_
  repeat (with_reducible first | refine c_seq ?_ | refine c_block ?_ | refine c_skip ?_ | refine x_then ?_ | refine x_block ?_)
  refine c_reg ?_
  refine l_pure rfl (s_asg  rfl ?_)
  refine l_nil ?_
  repeat (with_reducible first | refine c_seq ?_ | refine c_block ?_ | refine c_skip ?_ | refine x_then ?_ | refine x_block ?_)
  refine c_reg ?_
  refine l_pure rfl (s_move  rfl ?_)
  refine l_pure rfl (s_move  rfl ?_)
  refine l_heavy rfl (s_call Tryz.call109 rfl (IndexFuncG_ok hcall hf v l _ hv hl) ?_)
  rintro r w3 ⟨⟨k, rfl, hk⟩, hB3⟩
  replace hS := hS.grow hB3
  refine l_pure rfl (s_geq  rfl rfl ?_)
  refine l_pure rfl (s_asg  rfl ?_)
  refine l_nil ?_
  repeat (with_reducible first | refine c_seq ?_ | refine c_block ?_ | refine c_skip ?_ | refine x_then ?_ | refine x_block ?_)
  refine c_ret ?_
  repeat (with_reducible first | refine x_then_ret ?_ | refine x_block_ret ?_)
  refine r_one rfl rfl ?_
  refine ⟨congrArg Value.bool ?_, hS.below⟩
  rw [Bool.eq_iff_iff, decide_eq_true_iff]; exact hk
theorem plam_ok (r : RR) (w : World) (hr : Lr r ≤ MX) :
    Ret Tryz.prog 100 #[aggR r] w fun v w' => v = .bool (decide (toQ r < 0)) ∧ Below w.heap.size w w' := by
  have hS := St.init w
  refine enter Tryz.func100 rfl Tryz.ntmps100 rfl ?_
  repeat (with_reducible first | refine c_seq ?_ | refine c_block ?_ | refine c_skip ?_ | refine x_then ?_ | refine x_block ?_)
  refine c_reg ?_
  refine l_heavy rfl (s_box (new := encR r)  rfl rfl hS ?_)
  intro b1 wz2 hS hBz2
  refine l_pure rfl (s_asg  rfl ?_)
  refine l_nil ?_
  repeat (with_reducible first | refine c_seq ?_ | refine c_block ?_ | refine c_skip ?_ | refine x_then ?_ | refine x_block ?_)
  refine c_reg ?_
  refine l_read rfl (s_ldo (k := 0)  rfl vi_37 hS rfl rfl rfl (.inl rfl) ?_)
  refine l_heavy rfl (s_call Tryz.call58 rfl (Sign_ok r _ hr) ?_)
  rintro _ wc3 ⟨rfl, hBc3⟩
  replace hS := hS.grow hBc3
  refine l_pure rfl (s_lss  rfl rfl ?_)
  refine l_pure rfl (s_asg  rfl ?_)
  refine l_nil ?_
  repeat (with_reducible first | refine c_seq ?_ | refine c_block ?_ | refine c_skip ?_ | refine x_then ?_ | refine x_block ?_)
  refine c_ret ?_
  repeat (with_reducible first | refine x_then_ret ?_ | refine x_block_ret ?_)
  refine r_one rfl rfl ?_
  exact ⟨congrArg Value.bool (decide_eq_decide.2 sgnQ_neg), hS.below⟩
theorem pnegative_ok (v : Value) (l : List RR) (w : World) (hv : Sl encR 3 w v l) (hl : RB MX l) :
    Ret Tryz.prog 67 #[v] w fun r w' => r = .bool (negs l) ∧ Below w.heap.size w w' := by
  have hS := St.init w
  refine enter Tryz.func67 rfl Tryz.ntmps67 rfl ?_
  repeat (with_reducible first | refine c_seq ?_ | refine c_block ?_ | refine c_skip ?_ | refine x_then ?_ | refine x_block ?_)
  refine c_reg ?_
  refine l_pure rfl (s_asg  rfl ?_)
  refine l_nil ?_
  repeat (with_reducible first | refine c_seq ?_ | refine c_block ?_ | refine c_skip ?_ | refine x_then ?_ | refine x_block ?_)
  refine c_reg ?_
  refine l_pure rfl (s_move  rfl ?_)
  refine l_heavy rfl (s_call Tryz.call77 rfl (ContainsFuncG_ok Tryz.call100 plam_ok v l _ hv hl) ?_)
  rintro _ wc1 ⟨rfl, hBc1⟩
  replace hS := hS.grow hBc1
  refine l_pure rfl (s_asg  rfl ?_)
  refine l_nil ?_
  repeat (with_reducible first | refine c_seq ?_ | refine c_block ?_ | refine c_skip ?_ | refine x_then ?_ | refine x_block ?_)
  refine c_ret ?_
  repeat (with_reducible first | refine x_then_ret ?_ | refine x_block_ret ?_)
  refine r_one rfl rfl ?_
  exact ⟨rfl, hS.below⟩
def nneg (l : List Int) : Bool := l.any fun n => decide (n < 0)
theorem nneg_take (l : List Int) {i : Nat} (hi : i < l.length) (h : nneg (l.take i) = false) : (¬ l.getD i 0 < 0 → nneg (l.take (i + 1)) = false) ∧ (l.getD i 0 < 0 → nneg l = true) := by
  have ht := take_succ' l i 0 hi
  constructor
  · intro h1
    unfold nneg at *
    rw [ht, List.any_append, h]
    simpa using h1
  · intro h1
    unfold nneg
    rw [List.any_eq_true]
    exact ⟨_, getD_mem l i 0 hi, decide_eq_true h1⟩
theorem ulam_ok (n : Int) (w : World) :
    Ret Tryz.prog 105 #[.int .i64 n] w fun v w' => v = .bool (decide (n < 0)) ∧ w' = w := by
  refine enter Tryz.func105 rfl Tryz.ntmps105 rfl ?_
  repeat (with_reducible first | refine c_seq ?_ | refine c_block ?_ | refine c_skip ?_ | refine x_then ?_ | refine x_block ?_)
  refine c_reg ?_
  refine l_pure rfl (s_asg  rfl ?_)
  refine l_nil ?_
  repeat (with_reducible first | refine c_seq ?_ | refine c_block ?_ | refine c_skip ?_ | refine x_then ?_ | refine x_block ?_)
  refine c_reg ?_
  refine l_pure rfl (s_move  rfl ?_)
  refine l_pure rfl (s_lss  rfl rfl ?_)
  refine l_pure rfl (s_asg  rfl ?_)
  refine l_nil ?_
  repeat (with_reducible first | refine c_seq ?_ | refine c_block ?_ | refine c_skip ?_ | refine x_then ?_ | refine x_block ?_)
  refine c_ret ?_
  repeat (with_reducible first | refine x_then_ret ?_ | refine x_block_ret ?_)
  refine r_one rfl rfl ?_
  exact ⟨rfl, rfl⟩
theorem IndexFuncN_ok (v : Value) (l : List Int) (w : World) (hv : Sl enI 1 w v l) :
    Ret Tryz.prog 126 #[v, .func (.func 105) #[] #[]] w fun r w' => (∃ k : Int, r = .int .i64 k ∧ (0 ≤ k ↔ nneg l = true)) ∧ w' = w := by
  have hmax := hv.maxLen
  refine enter Tryz.func126 rfl Tryz.ntmps126 rfl ?_
  repeat (with_reducible first | refine c_seq ?_ | refine c_block ?_ | refine c_skip ?_ | refine x_then ?_ | refine x_block ?_)
  refine c_reg ?_
  refine l_pure rfl (s_asg  rfl ?_)
  refine l_nil ?_
  repeat (with_reducible first | refine c_seq ?_ | refine c_block ?_ | refine c_skip ?_ | refine x_then ?_ | refine x_block ?_)
  refine c_reg ?_
  refine l_pure rfl (s_move  rfl ?_)
  refine l_pure rfl (s_lenr  rfl hv ⟨_, Tryz.underlying25⟩ ?_)
  refine l_pure rfl (s_move  rfl ?_)
  refine l_nil ?_
  repeat (with_reducible first | refine c_seq ?_ | refine c_block ?_ | refine c_skip ?_ | refine x_then ?_ | refine x_block ?_)
  refine c_loop (σ := Nat) (fun i ρ w' => i ≤ l.length ∧ nneg (l.take i) = false ∧ ρ 0 = v ∧ ρ 1 = .func (.func 105) #[] #[] ∧ ρ 7 = .int .i64 l.length ∧ ρ 8 = .int .i64 i ∧ w' = w) (fun i => l.length - i) 0
    ⟨Nat.zero_le _, rfl, rfl, rfl, rfl, rfl, rfl⟩ ?_
  rintro i ρ w2 ⟨hi, hn, h0, h1, h7, h8, rfl⟩
  repeat (with_reducible first | refine c_seq ?_ | refine c_block ?_ | refine c_skip ?_ | refine x_then ?_ | refine x_block ?_)
  refine c_reg ?_
  refine l_pure rfl (s_lss  h8 h7 ?_)
  refine l_nil ?_
  repeat (with_reducible first | refine c_seq ?_ | refine c_block ?_ | refine c_skip ?_ | refine x_then ?_ | refine x_block ?_)
  by_cases hlt : i < l.length
  · refine c_yes rfl (decide_eq_true (by omega)) ?_
    repeat (with_reducible first | refine c_seq ?_ | refine c_block ?_ | refine c_skip ?_ | refine x_then ?_ | refine x_block ?_)
    obtain ⟨t1, t2⟩ := nneg_take l hlt hn
    repeat (with_reducible first | refine c_seq ?_ | refine c_block ?_ | refine c_skip ?_ | refine x_then ?_ | refine x_block ?_)
    refine c_reg ?_
    refine l_pure rfl (s_move  h8 ?_)
    refine l_pure rfl (s_asg  rfl ?_)
    refine l_nil ?_
    repeat (with_reducible first | refine c_seq ?_ | refine c_block ?_ | refine c_skip ?_ | refine x_then ?_ | refine x_block ?_)
    refine c_reg ?_
    refine l_pure rfl (s_move  h1 ?_)
    refine l_pure rfl (s_move  h0 ?_)
    refine l_pure rfl (s_move  rfl ?_)
    refine l_pure rfl (s_ixr (i := i)  rfl rfl hv (by omega) (by first | omega | (simp; done) | (simp; omega)) si_25 ?_)
    refine l_read rfl (s_lde (i := i) 0  rfl vi_2 hv (by first | omega | (simp; done) | (simp; omega)) rfl rfl (.inr rfl) ?_)
    refine l_heavy rfl (s_callv Tryz.call105 rfl rfl (ulam_ok (l.getD i 0) _) ?_)
    rintro r w3 ⟨rfl, rfl⟩
    refine l_nil ?_
    repeat (with_reducible first | refine c_seq ?_ | refine c_block ?_ | refine c_skip ?_ | refine x_then ?_ | refine x_block ?_)
    by_cases hneg : l.getD i 0 < 0
    · refine c_yes rfl (decide_eq_true hneg) ?_
      repeat (with_reducible first | refine c_seq ?_ | refine c_block ?_ | refine c_skip ?_ | refine x_then ?_ | refine x_block ?_)
      refine c_reg ?_
      refine l_pure rfl (s_move  rfl ?_)
      refine l_pure rfl (s_asg  rfl ?_)
      refine l_nil ?_
      repeat (with_reducible first | refine c_seq ?_ | refine c_block ?_ | refine c_skip ?_ | refine x_then ?_ | refine x_block ?_)
      refine c_ret ?_
      repeat (with_reducible first | refine x_then_ret ?_ | refine x_block_ret ?_)
      refine r_one rfl rfl ?_
      exact ⟨⟨_, rfl, ⟨fun _ => t2 hneg, fun _ => by omega⟩⟩, rfl⟩
    · refine c_no rfl (decide_eq_false hneg) ?_
      repeat (with_reducible first | refine c_seq ?_ | refine c_block ?_ | refine c_skip ?_ | refine x_then ?_ | refine x_block ?_)
      refine c_reg ?_
      refine l_pure rfl (s_add  h8 rfl (IntWalk.i64_in _ (by omega)) ?_)
      refine l_pure rfl (s_move  rfl ?_)
      refine l_nil ?_
      repeat (with_reducible first | refine c_seq ?_ | refine c_block ?_ | refine c_skip ?_ | refine x_then ?_ | refine x_block ?_)
      exact ⟨i + 1, _, rfl, ⟨hlt, t1 hneg, h0, h1, h7, vi rfl (by omega), rfl⟩, by omega⟩
  · refine c_no rfl (decide_eq_false (by omega)) ?_
    repeat (with_reducible first | refine c_seq ?_ | refine c_block ?_ | refine c_skip ?_ | refine x_then ?_ | refine x_block ?_)
    refine c_exit ?_
    repeat (with_reducible first | refine x_then_exit ?_ | refine x_block_exit ?_ | refine x_block_pass rfl ?_)
    repeat (with_reducible first | refine c_seq ?_ | refine c_block ?_ | refine c_skip ?_ | refine x_then ?_ | refine x_block ?_)
    obtain rfl : i = l.length := by omega
    rw [List.take_length] at hn
    repeat (with_reducible first | refine c_seq ?_ | refine c_block ?_ | refine c_skip ?_ | refine x_then ?_ | refine x_block ?_)
    refine c_reg ?_
    refine l_pure rfl (s_asg  rfl ?_)
    refine l_nil ?_
    repeat (with_reducible first | refine c_seq ?_ | refine c_block ?_ | refine c_skip ?_ | refine x_then ?_ | refine x_block ?_)
    refine c_ret ?_
    repeat (with_reducible first | refine x_then_ret ?_ | refine x_block_ret ?_)
    refine r_one rfl rfl ?_
    exact ⟨⟨_, rfl, ⟨fun h => by omega, fun h => by rw [hn] at h; cases h⟩⟩, rfl⟩
theorem ContainsFuncN_ok (v : Value) (l : List Int) (w : World) (hv : Sl enI 1 w v l) :
    Ret Tryz.prog 104 #[v, .func (.func 105) #[] #[]] w fun r w' => r = .bool (nneg l) ∧ w' = w := by
  refine enter Tryz.func104 rfl Tryz.ntmps104 rfl ?_
  repeat (with_reducible first | refine c_seq ?_ | refine c_block ?_ | refine c_skip ?_ | refine x_then ?_ | refine x_block ?_)
  refine c_reg ?_
  refine l_pure rfl (s_asg  rfl ?_)
  refine l_nil ?_
  repeat (with_reducible first | refine c_seq ?_ | refine c_block ?_ | refine c_skip ?_ | refine x_then ?_ | refine x_block ?_)
  refine c_reg ?_
  refine l_pure rfl (s_move  rfl ?_)
  refine l_pure rfl (s_move  rfl ?_)
  refine l_heavy rfl (s_call Tryz.call126 rfl (IndexFuncN_ok v l _ hv) ?_)
  rintro r w3 ⟨⟨k, rfl, hk⟩, rfl⟩
  refine l_pure rfl (s_geq  rfl rfl ?_)
  refine l_pure rfl (s_asg  rfl ?_)
  refine l_nil ?_
  repeat (with_reducible first | refine c_seq ?_ | refine c_block ?_ | refine c_skip ?_ | refine x_then ?_ | refine x_block ?_)
  refine c_ret ?_
  repeat (with_reducible first | refine x_then_ret ?_ | refine x_block_ret ?_)
  refine r_one rfl rfl ?_
  refine ⟨congrArg Value.bool ?_, rfl⟩
  rw [Bool.eq_iff_iff, decide_eq_true_iff]; exact hk
theorem unpaid_ok (v : Value) (l : List Int) (w : World) (hv : Sl enI 1 w v l) :
    Ret Tryz.prog 73 #[v] w fun r w' => r = .bool (nneg l) ∧ w' = w := by
  refine enter Tryz.func73 rfl Tryz.ntmps73 rfl ?_
  repeat (with_reducible first | refine c_seq ?_ | refine c_block ?_ | refine c_skip ?_ | refine x_then ?_ | refine x_block ?_)
  refine c_reg ?_
  refine l_pure rfl (s_asg  rfl ?_)
  refine l_nil ?_
  repeat (with_reducible first | refine c_seq ?_ | refine c_block ?_ | refine c_skip ?_ | refine x_then ?_ | refine x_block ?_)
  refine c_reg ?_
  refine l_pure rfl (s_move  rfl ?_)
  refine l_heavy rfl (s_call Tryz.call104 rfl (ContainsFuncN_ok v l _ hv) ?_)
  rintro r w3 ⟨rfl, rfl⟩
  refine l_pure rfl (s_asg  rfl ?_)
  refine l_nil ?_
  repeat (with_reducible first | refine c_seq ?_ | refine c_block ?_ | refine c_skip ?_ | refine x_then ?_ | refine x_block ?_)
  refine c_ret ?_
  repeat (with_reducible first | refine x_then_ret ?_ | refine x_block_ret ?_)
  refine r_one rfl rfl ?_
  exact ⟨rfl, rfl⟩
def h100 : Rat := ((100 : Int) : Rat)
theorem L_h100 : L h100 ≤ 1 := L_int 100 (by decide) (Nat.le_refl _)
theorem int100_ok (w : World) : Ret Tryz.prog 38 #[.int .i64 100] w fun v w' => v = aggR (ofQ h100) ∧ Below w.heap.size w w' := QInt_ok 100 w (by decide) (by decide)
/-- 100 times a number, its integer part, the rest. -/
def hdQ (q : Rat) : Rat := q * h100
def flC (q : Rat) : Int := (hdQ q).floor
def frC (q : Rat) : Rat := hdQ q - (flC q : Rat)
theorem L_hd (q : Rat) : L (hdQ q) ≤ L q + 1 := by have := L_mul q h100; have := L_h100; unfold hdQ; omega
theorem L_flC (q : Rat) : L ((flC q : Int) : Rat) ≤ L q + 2 := by have := L_floor (hdQ q); have := L_hd q; unfold flC; omega
theorem L_frC (q : Rat) : L (frC q) ≤ 2 * L q + 4 := by have := L_sub (hdQ q) (flC q : Rat); have := L_hd q; have := L_flC q; unfold frC; omega
theorem flC_nonneg {q : Rat} (h : 0 ≤ q) : 0 ≤ flC q := Rat.le_floor_iff.2 (by
  have : (0 : Rat) ≤ h100 := by decide
  show ((0 : Int) : Rat) ≤ q * h100
  exact Rat.mul_nonneg h this)
set_option maxHeartbeats 1000000 in
theorem split_ok (r : RR) (w : World) (hr : 2 * Lr r + 10 ≤ MX) :
    Ret Tryz.prog 59 #[aggR r] w fun v w' => v = .tuple #[aggR (ofQ (flC (toQ r) : Rat)), aggR (ofQ (frC (toQ r)))] ∧ Below w.heap.size w w' := by
  have hL := L_toQ r
  obtain ⟨q, hq⟩ : ∃ q, q = toQ r := ⟨_, rfl⟩
  have l1 := L_hd q
  have l2 := L_flC q
  have lh := L_h100
  have hmul := fun w => QMultiply_ok r (ofQ h100) w (by rw [Lr_ofQ]; omega)
  rw [toQ_ofQ, ← hq] at hmul
  rw [← hq] at hL ⊢
  have hfl := fun w => QFloor_ok (ofQ (hdQ q)) w (by rw [Lr_ofQ]; omega)
  rw [toQ_ofQ] at hfl
  have hsub := fun w => QSubtract_ok (ofQ (hdQ q)) (ofQ (flC q : Rat)) w (by rw [Lr_ofQ, Lr_ofQ]; omega)
  rw [toQ_ofQ, toQ_ofQ] at hsub
  have hS := St.init w
  refine enter Tryz.func59 rfl Tryz.ntmps59 rfl ?_
  repeat (with_reducible first | refine c_seq ?_ | refine c_block ?_ | refine c_skip ?_ | refine x_then ?_ | refine x_block ?_)
  refine c_reg ?_
  refine l_heavy rfl (s_box (new := encR r)  rfl rfl hS ?_)
  intro b1 wz1 hS hBz1
  refine l_heavy rfl (s_alloc  vi_37 hS ?_)
  intro b2 wz2 hS hBz2
  refine l_heavy rfl (s_alloc  vi_37 hS ?_)
  intro b3 wz3 hS hBz3
  refine l_nil ?_
  repeat (with_reducible first | refine c_seq ?_ | refine c_block ?_ | refine c_skip ?_ | refine x_then ?_ | refine x_block ?_)
  refine c_cut1 (fun ρ w' => ρ 1 = .pointer (some ⟨b1, 0, none⟩) ∧ ρ 2 = .pointer (some ⟨b2, 0, none⟩) ∧ ρ 3 = .pointer (some ⟨b3, 0, none⟩) ∧ ∃ b4, ρ 4 = .pointer (some ⟨b4, 0, none⟩) ∧ St w w' [(b4, 37, encR (ofQ (hdQ q))), (b3, 37, encR zRR), (b2, 37, encR zRR), (b1, 37, encR r)]) ?_ ?_
  · repeat (with_reducible first | refine c_seq ?_ | refine c_block ?_ | refine c_skip ?_ | refine x_then ?_ | refine x_block ?_)
    refine c_float 3 [(0, .read), (1, .grow), (2, .grow), (4, .free)] (by kernel_rfl) (by kernel_rfl) hS ?_
    intro wz4 hS hBz4
    refine wx_read (by kernel_rfl) rfl rfl (s_ldo (k := 2)  rfl vi_37 hS rfl rfl rfl (.inl rfl) ?_)
    refine wx_fork rfl rfl ?_ ?_
    · refine w_grow rfl rfl (s_alloc  vi_37 hS ?_)
      intro b4 wz5 hS hBz5
      refine ⟨hBz5, ?_⟩
      refine w_grow rfl rfl (s_call Tryz.call38 rfl (int100_ok _) ?_)
      rintro r w3 ⟨rfl, hB3⟩
      refine ⟨hB3, ?_⟩
      replace hS := hS.grow hB3
      refine w_grow rfl rfl (s_call Tryz.call55 rfl (hmul _) ?_)
      rintro r w4 ⟨rfl, hB4⟩
      refine ⟨hB4, ?_⟩
      replace hS := hS.grow hB4
      refine w_free rfl rfl (s_sta (k := 0)  rfl rfl vi_37 hS rfl rfl rfl (Nat.le_of_ble_eq_true rfl) rfl ?_)
      intro wz6 hS
      refine w_end ?_
      repeat (with_reducible first | refine c_seq ?_ | refine c_block ?_ | refine c_skip ?_ | refine x_then ?_ | refine x_block ?_)
      replace hS : St w _ [(b4, 37, encR (ofQ (hdQ q))), (b3, 37, encR zRR), (b2, 37, encR zRR), (b1, 37, encR r)] := hS
      exact ⟨_, rfl, rfl, rfl, rfl, b4, rfl, hS⟩
    · refine s_call Tryz.call38 rfl (int100_ok _) ?_
      rintro r w3 ⟨rfl, hB3⟩
      refine ⟨hB3, ?_⟩
      replace hS := hS.grow hB3
      refine wx_fork rfl rfl ?_ ?_
      · refine w_grow rfl rfl (s_alloc  vi_37 hS ?_)
        intro b4 wz7 hS hBz7
        refine ⟨hBz7, ?_⟩
        refine w_grow rfl rfl (s_call Tryz.call55 rfl (hmul _) ?_)
        rintro r w4 ⟨rfl, hB4⟩
        refine ⟨hB4, ?_⟩
        replace hS := hS.grow hB4
        refine w_free rfl rfl (s_sta (k := 0)  rfl rfl vi_37 hS rfl rfl rfl (Nat.le_of_ble_eq_true rfl) rfl ?_)
        intro wz8 hS
        refine w_end ?_
        repeat (with_reducible first | refine c_seq ?_ | refine c_block ?_ | refine c_skip ?_ | refine x_then ?_ | refine x_block ?_)
        replace hS : St w _ [(b4, 37, encR (ofQ (hdQ q))), (b3, 37, encR zRR), (b2, 37, encR zRR), (b1, 37, encR r)] := hS
        exact ⟨_, rfl, rfl, rfl, rfl, b4, rfl, hS⟩
      · refine s_call Tryz.call55 rfl (hmul _) ?_
        rintro r w4 ⟨rfl, hB4⟩
        refine ⟨hB4, ?_⟩
        replace hS := hS.grow hB4
        refine wx_now (by kernel_rfl) ?_
        refine w_grow rfl rfl (s_alloc  vi_37 hS ?_)
        intro b4 wz9 hS hBz9
        refine ⟨hBz9, ?_⟩
        refine w_free rfl rfl (s_sta (k := 0)  rfl rfl vi_37 hS rfl rfl rfl (Nat.le_of_ble_eq_true rfl) rfl ?_)
        intro wz10 hS
        refine w_end ?_
        repeat (with_reducible first | refine c_seq ?_ | refine c_block ?_ | refine c_skip ?_ | refine x_then ?_ | refine x_block ?_)
        replace hS : St w _ [(b4, 37, encR (ofQ (hdQ q))), (b3, 37, encR zRR), (b2, 37, encR zRR), (b1, 37, encR r)] := hS
        exact ⟨_, rfl, rfl, rfl, rfl, b4, rfl, hS⟩
  clear hS
  rintro ρ w5 ⟨h1, h2, h3, b4, h4, hS⟩
  repeat (with_reducible first | refine c_seq ?_ | refine c_block ?_ | refine c_skip ?_ | refine x_then ?_ | refine x_block ?_)
  refine c_reg ?_
  refine l_read rfl (s_ldo (k := 0)  h4 vi_37 hS rfl rfl rfl (.inl rfl) ?_)
  refine l_heavy rfl (s_call Tryz.call43 rfl (hfl _) ?_)
  rintro _ wc11 ⟨rfl, hBc11⟩
  replace hS := hS.grow hBc11
  refine l_heavy rfl (s_alloc  vi_37 hS ?_)
  intro b12 wz13 hS hBz13
  refine l_heavy rfl (s_sta (k := 0)  rfl rfl vi_37 hS rfl rfl rfl (Nat.le_of_ble_eq_true rfl) rfl ?_)
  intro wz14 hS
  refine l_nil ?_
  repeat (with_reducible first | refine c_seq ?_ | refine c_block ?_ | refine c_skip ?_ | refine x_then ?_ | refine x_block ?_)
  replace hS : St w _ [(_, 37, encR (ofQ (flC q : Rat))), (_, 37, encR (ofQ (hdQ q))), (b3, 37, encR zRR), (b2, 37, encR zRR), (b1, 37, encR r)] := hS
  repeat (with_reducible first | refine c_seq ?_ | refine c_block ?_ | refine c_skip ?_ | refine x_then ?_ | refine x_block ?_)
  refine c_draw [(0, .read), (1, .read), (2, .read), (3, .grow), (4, .free), (5, .free)] (by kernel_rfl) (by kernel_rfl) hS ?_
  intro wz15 hS hBz15
  refine w_read rfl rfl (s_ldo (k := 0)  rfl vi_37 hS rfl rfl rfl (.inl rfl) ?_)
  refine w_read rfl rfl (s_ldo (k := 1)  h4 vi_37 hS rfl rfl rfl (.inl rfl) ?_)
  refine w_read rfl rfl (s_ldo (k := 0)  rfl vi_37 hS rfl rfl rfl (.inl rfl) ?_)
  refine w_grow rfl rfl (s_call Tryz.call44 rfl (hsub _) ?_)
  rintro _ wc16 ⟨rfl, hBc16⟩
  replace hS := hS.grow hBc16
  refine ⟨hBc16, ?_⟩
  refine w_free rfl rfl (s_sta (k := 3)  h2 rfl vi_37 hS rfl rfl rfl (Nat.le_of_ble_eq_true rfl) rfl ?_)
  intro wz17 hS
  refine w_free rfl rfl (s_sta (k := 2)  h3 rfl vi_37 hS rfl rfl rfl (Nat.le_of_ble_eq_true rfl) rfl ?_)
  intro wz18 hS
  refine w_end ?_
  repeat (with_reducible first | refine c_seq ?_ | refine c_block ?_ | refine c_skip ?_ | refine x_then ?_ | refine x_block ?_)
  refine c_ret ?_
  repeat (with_reducible first | refine x_then_ret ?_ | refine x_block_ret ?_)
  refine r_cell_cell (k := 3) (k' := 2) rfl h2 h3 vi_37 vi_37 hS rfl rfl rfl rfl ?_
  exact ⟨rfl, hS.below⟩
def mxC : Int := 1125899906842624
theorem cents_ok (z : Int) (w : World) (hz : 0 ≤ z) (hK : L (z : Rat) ≤ MX) :
    Ret Tryz.prog 60 #[aggR (ofQ (z : Rat))] w fun v w' => (∃ n : Int, v = .tuple #[.int .i64 n, .bool (decide (z ≤ mxC))] ∧ (z ≤ mxC → n = z)) ∧ Below w.heap.size w w' := by
  have hi := fun w => QInt64_ok (ofQ (z : Rat)) w (by rw [Lr_ofQ]; exact hK) (by rw [toQ_ofQ]; exact Rat.intCast_nonneg.2 hz)
  rw [toQ_ofQ, i64V_int] at hi
  have hS := St.init w
  have hm : mxC = 1125899906842624 := rfl
  refine enter Tryz.func60 rfl Tryz.ntmps60 rfl ?_
  repeat (with_reducible first | refine c_seq ?_ | refine c_block ?_ | refine c_skip ?_ | refine x_then ?_ | refine x_block ?_)
  refine c_reg ?_
  refine l_heavy rfl (s_box (new := encR (ofQ (z : Rat)))  rfl rfl hS ?_)
  intro b1 wz2 hS hBz2
  refine l_pure rfl (s_asg  rfl ?_)
  refine l_pure rfl (s_asg  rfl ?_)
  refine l_nil ?_
  repeat (with_reducible first | refine c_seq ?_ | refine c_block ?_ | refine c_skip ?_ | refine x_then ?_ | refine x_block ?_)
  refine c_reg ?_
  refine l_read rfl (s_ldo (k := 0)  rfl vi_37 hS rfl rfl rfl (.inl rfl) ?_)
  refine l_heavy rfl (s_call Tryz.call41 rfl (hi _) ?_)
  rintro _ wc3 ⟨rfl, hBc3⟩
  replace hS := hS.grow hBc3
  refine l_pure rfl (s_move  rfl ?_)
  refine l_pure rfl (s_ext  rfl rfl ?_)
  refine l_pure rfl (s_ext  rfl rfl ?_)
  refine l_pure rfl (s_asg  rfl ?_)
  refine l_pure rfl (s_asg  rfl ?_)
  refine l_nil ?_
  repeat (with_reducible first | refine c_seq ?_ | refine c_block ?_ | refine c_skip ?_ | refine x_then ?_ | refine x_block ?_)
  by_cases hr : -9223372036854775808 ≤ z ∧ z ≤ 9223372036854775807
  · rw [if_pos hr]
    repeat (with_reducible first | refine c_seq ?_ | refine c_block ?_ | refine c_skip ?_ | refine x_then ?_ | refine x_block ?_)
    refine c_reg ?_
    refine l_pure rfl (s_move  rfl ?_)
    refine l_pure rfl (s_move  rfl ?_)
    refine l_pure rfl (s_move  rfl ?_)
    refine l_pure (gd_yes 13 (by kernel_rfl) rfl rfl) (s_move  rfl ?_)
    refine l_pure (gd_yes 13 (by kernel_rfl) rfl rfl) (s_leq  rfl rfl ?_)
    refine l_pure rfl (s_pick (vb rfl rfl) rfl ?_)
    refine l_pure rfl (s_asg  rfl ?_)
    refine l_pure rfl (s_asg  rfl ?_)
    refine l_nil ?_
    repeat (with_reducible first | refine c_seq ?_ | refine c_block ?_ | refine c_skip ?_ | refine x_then ?_ | refine x_block ?_)
    refine c_ret ?_
    repeat (with_reducible first | refine x_then_ret ?_ | refine x_block_ret ?_)
    refine r_two rfl rfl rfl ?_
    exact ⟨⟨z, rfl, fun _ => rfl⟩, hS.below⟩
  · rw [if_neg hr]
    repeat (with_reducible first | refine c_seq ?_ | refine c_block ?_ | refine c_skip ?_ | refine x_then ?_ | refine x_block ?_)
    refine c_reg ?_
    refine l_pure rfl (s_move  rfl ?_)
    refine l_pure rfl (s_move  rfl ?_)
    refine l_pure rfl (s_move  rfl ?_)
    refine l_no (gno_yes 13 (by kernel_rfl) rfl rfl) ?_
    refine l_no (gno_yes 13 (by kernel_rfl) rfl rfl) ?_
    refine l_pure rfl (s_pick (vb rfl rfl) rfl ?_)
    refine l_pure rfl (s_asg  rfl ?_)
    refine l_pure rfl (s_asg  rfl ?_)
    refine l_nil ?_
    repeat (with_reducible first | refine c_seq ?_ | refine c_block ?_ | refine c_skip ?_ | refine x_then ?_ | refine x_block ?_)
    refine c_ret ?_
    repeat (with_reducible first | refine x_then_ret ?_ | refine x_block_ret ?_)
    refine r_two rfl rfl rfl ?_
    rw [decide_eq_false (by omega : ¬ z ≤ mxC)]
    exact ⟨⟨_, rfl, fun h => by omega⟩, hS.below⟩
/-- What Cents answers. -/
def cE (q : Rat) : Int := if q < 0 then 7 else if mxC < flC q then 1 else 0
def cN (q : Rat) : Int := if cE q = 0 then flC q else 0
set_option maxHeartbeats 1000000 in
theorem Cents_ok (r : RR) (w : World) (hr : 2 * Lr r + 10 ≤ MX) :
    Ret Tryz.prog 20 #[aggR r] w fun v w' => v = .tuple #[.int .i64 (cN (toQ r)), .int .i64 (cE (toQ r))] ∧ Below w.heap.size w w' := by
  have hM : MX = 1099511627776 := rfl
  have hm : mxC = 1125899906842624 := rfl
  have hL := L_toQ r
  have hL2 := L_flC (toQ r)
  have hS := St.init w
  refine enter Tryz.func20 rfl Tryz.ntmps20 rfl ?_
  repeat (with_reducible first | refine c_seq ?_ | refine c_block ?_ | refine c_skip ?_ | refine x_then ?_ | refine x_block ?_)
  refine c_reg ?_
  refine l_heavy rfl (s_box (new := encR r)  rfl rfl hS ?_)
  intro b1 wz1 hS hBz1
  refine l_pure rfl (s_asg  rfl ?_)
  refine l_pure rfl (s_asg  rfl ?_)
  refine l_nil ?_
  repeat (with_reducible first | refine c_seq ?_ | refine c_block ?_ | refine c_skip ?_ | refine x_then ?_ | refine x_block ?_)
  refine c_reg ?_
  refine l_read rfl (s_ldo (k := 0)  rfl vi_37 hS rfl rfl rfl (.inl rfl) ?_)
  refine l_heavy rfl (s_call Tryz.call58 rfl (Sign_ok r _ (by omega)) ?_)
  rintro _ wc2 ⟨rfl, hBc2⟩
  replace hS := hS.grow hBc2
  refine l_pure rfl (s_lss  rfl rfl ?_)
  refine l_nil ?_
  repeat (with_reducible first | refine c_seq ?_ | refine c_block ?_ | refine c_skip ?_ | refine x_then ?_ | refine x_block ?_)
  by_cases hneg : toQ r < 0
  · have e1 : cE (toQ r) = 7 := if_pos hneg
    have e2 : cN (toQ r) = 0 := by unfold cN; rw [e1]; rfl
    rw [e1, e2]
    refine c_yes rfl (decide_eq_true (sgnQ_neg.2 hneg)) ?_
    repeat (with_reducible first | refine c_seq ?_ | refine c_block ?_ | refine c_skip ?_ | refine x_then ?_ | refine x_block ?_)
    refine c_reg ?_
    refine l_pure rfl (s_asg  rfl ?_)
    refine l_pure rfl (s_asg  rfl ?_)
    refine l_nil ?_
    repeat (with_reducible first | refine c_seq ?_ | refine c_block ?_ | refine c_skip ?_ | refine x_then ?_ | refine x_block ?_)
    refine c_ret ?_
    repeat (with_reducible first | refine x_then_ret ?_ | refine x_block_ret ?_)
    refine r_two rfl rfl rfl ?_
    exact ⟨rfl, hS.below⟩
  · have h0 : 0 ≤ toQ r := Rat.not_lt.1 hneg
    have hz := flC_nonneg h0
    refine c_no rfl (decide_eq_false (fun g => hneg (sgnQ_neg.1 g))) ?_
    repeat (with_reducible first | refine c_seq ?_ | refine c_block ?_ | refine c_skip ?_ | refine x_then ?_ | refine x_block ?_)
    refine c_reg ?_
    refine l_read rfl (s_ldo (k := 0)  rfl vi_37 hS rfl rfl rfl (.inl rfl) ?_)
    refine l_heavy rfl (s_call Tryz.call59 rfl (split_ok r _ hr) ?_)
    rintro _ wc3 ⟨rfl, hBc3⟩
    replace hS := hS.grow hBc3
    refine l_pure rfl (s_move  rfl ?_)
    refine l_pure rfl (s_ext  rfl rfl ?_)
    refine l_pure rfl (s_ext  rfl rfl ?_)
    refine l_heavy rfl (s_alloc  vi_37 hS ?_)
    intro b4 wz5 hS hBz5
    refine l_heavy rfl (s_alloc  vi_37 hS ?_)
    intro b6 wz7 hS hBz7
    refine l_heavy rfl (s_sta (k := 1)  rfl rfl vi_37 hS rfl rfl rfl (Nat.le_of_ble_eq_true rfl) rfl ?_)
    intro wz8 hS
    refine l_heavy rfl (s_sta (k := 0)  rfl rfl vi_37 hS rfl rfl rfl (Nat.le_of_ble_eq_true rfl) rfl ?_)
    intro wz9 hS
    refine l_nil ?_
    repeat (with_reducible first | refine c_seq ?_ | refine c_block ?_ | refine c_skip ?_ | refine x_then ?_ | refine x_block ?_)
    replace hS : St w _ [(_, 37, encR (ofQ (frC (toQ r)))), (_, 37, encR (ofQ (flC (toQ r) : Rat))), (b1, 37, encR r)] := hS
    repeat (with_reducible first | refine c_seq ?_ | refine c_block ?_ | refine c_skip ?_ | refine x_then ?_ | refine x_block ?_)
    refine c_reg ?_
    refine l_read rfl (s_ldo (k := 1)  rfl vi_37 hS rfl rfl rfl (.inl rfl) ?_)
    refine l_heavy rfl (s_call Tryz.call60 rfl (cents_ok (flC (toQ r)) _ hz (by omega)) ?_)
    rintro r w3 ⟨⟨n, rfl, hn⟩, hB3⟩
    replace hS := hS.grow hB3
    refine l_pure rfl (s_move  rfl ?_)
    refine l_pure rfl (s_ext  rfl rfl ?_)
    refine l_pure rfl (s_ext  rfl rfl ?_)
    refine l_pure rfl (s_asg  rfl ?_)
    refine l_pure rfl (s_asg  rfl ?_)
    refine l_nil ?_
    repeat (with_reducible first | refine c_seq ?_ | refine c_block ?_ | refine c_skip ?_ | refine x_then ?_ | refine x_block ?_)
    refine c_reg ?_
    refine l_pure rfl (s_move  rfl ?_)
    refine l_pure rfl (s_not  rfl ?_)
    refine l_nil ?_
    repeat (with_reducible first | refine c_seq ?_ | refine c_block ?_ | refine c_skip ?_ | refine x_then ?_ | refine x_block ?_)
    by_cases hle : flC (toQ r) ≤ mxC
    · have e1 : cE (toQ r) = 0 := by unfold cE; rw [if_neg hneg, if_neg (by omega)]
      have e2 : cN (toQ r) = n := by unfold cN; rw [if_pos e1, hn hle]
      rw [e1, e2]
      refine c_no rfl (by rw [decide_eq_true hle]; rfl) ?_
      repeat (with_reducible first | refine c_seq ?_ | refine c_block ?_ | refine c_skip ?_ | refine x_then ?_ | refine x_block ?_)
      refine c_reg ?_
      refine l_pure rfl (s_move  rfl ?_)
      refine l_pure rfl (s_asg  rfl ?_)
      refine l_pure rfl (s_asg  rfl ?_)
      refine l_nil ?_
      repeat (with_reducible first | refine c_seq ?_ | refine c_block ?_ | refine c_skip ?_ | refine x_then ?_ | refine x_block ?_)
      refine c_ret ?_
      repeat (with_reducible first | refine x_then_ret ?_ | refine x_block_ret ?_)
      refine r_two rfl rfl rfl ?_
      exact ⟨rfl, hS.below⟩
    · have e1 : cE (toQ r) = 1 := by unfold cE; rw [if_neg hneg, if_pos (by omega)]
      have e2 : cN (toQ r) = 0 := by unfold cN; rw [e1]; rfl
      rw [e1, e2]
      refine c_yes rfl (by rw [decide_eq_false hle]; rfl) ?_
      repeat (with_reducible first | refine c_seq ?_ | refine c_block ?_ | refine c_skip ?_ | refine x_then ?_ | refine x_block ?_)
      refine c_reg ?_
      refine l_pure rfl (s_asg  rfl ?_)
      refine l_pure rfl (s_asg  rfl ?_)
      refine l_nil ?_
      repeat (with_reducible first | refine c_seq ?_ | refine c_block ?_ | refine c_skip ?_ | refine x_then ?_ | refine x_block ?_)
      refine c_ret ?_
      repeat (with_reducible first | refine x_then_ret ?_ | refine x_block_ret ?_)
      refine r_two rfl rfl rfl ?_
      exact ⟨rfl, hS.below⟩
end Go.Proofs.YtmapmdldlcfjhaaGreatDoor
namespace Go.Proofs.YtmapmdldlcfjhaaGreatDoor
open Go Go.RowKit Go.Sx
theorem SameCents_ok (va vb : Value) (A B : List Int) (w : World) (ha : Sl enI 1 w va A) (hb : Sl enI 1 w vb B) :
    Ret Tryz.prog 26 #[va, vb] w fun v w' => v = .bool (decide (A = B)) ∧ Below w.heap.size w w' := by
  have hS := St.init w
  have hla := ha.maxLen
  have hlb := hb.maxLen
  refine enter Tryz.func26 rfl Tryz.ntmps26 rfl ?_
  repeat (with_reducible first | refine c_seq ?_ | refine c_block ?_ | refine c_skip ?_ | refine x_then ?_ | refine x_block ?_)
  refine c_reg ?_
  refine l_pure rfl (s_asg  rfl ?_)
  refine l_nil ?_
  repeat (with_reducible first | refine c_seq ?_ | refine c_block ?_ | refine c_skip ?_ | refine x_then ?_ | refine x_block ?_)
  refine c_reg ?_
  refine l_pure rfl (s_move  rfl ?_)
  refine l_pure rfl (s_lenr  rfl (ha.below hS.below) ⟨_, Tryz.underlying25⟩ ?_)
  refine l_pure rfl (s_move  rfl ?_)
  refine l_pure rfl (s_lenr  rfl (hb.below hS.below) ⟨_, Tryz.underlying25⟩ ?_)
  refine l_pure rfl (s_neq  rfl rfl ?_)
  refine l_nil ?_
  repeat (with_reducible first | refine c_seq ?_ | refine c_block ?_ | refine c_skip ?_ | refine x_then ?_ | refine x_block ?_)
  by_cases hl : A.length = B.length
  · refine c_no rfl (decide_eq_false (by omega)) ?_
    repeat (with_reducible first | refine c_seq ?_ | refine c_block ?_ | refine c_skip ?_ | refine x_then ?_ | refine x_block ?_)
    refine c_reg ?_
    refine l_pure rfl (s_asg  rfl ?_)
    refine l_nil ?_
    repeat (with_reducible first | refine c_seq ?_ | refine c_block ?_ | refine c_skip ?_ | refine x_then ?_ | refine x_block ?_)
    refine c_loop (σ := Nat) (fun i ρ w' => i ≤ A.length ∧ A.take i = B.take i ∧ ρ 0 = va ∧ ρ 1 = vb ∧ ρ 5 = .int .i64 i ∧ St w w' []) (fun i => A.length - i) 0
      ⟨Nat.zero_le _, rfl, rfl, rfl, rfl, hS⟩ ?_
    clear hS
    rintro i ρ w2 ⟨hi, hq, h0, h1, h5, hS⟩
    repeat (with_reducible first | refine c_seq ?_ | refine c_block ?_ | refine c_skip ?_ | refine x_then ?_ | refine x_block ?_)
    refine c_reg ?_
    refine l_pure rfl (s_move  h5 ?_)
    refine l_pure rfl (s_move  h0 ?_)
    refine l_pure rfl (s_lenr  rfl (ha.below hS.below) ⟨_, Tryz.underlying25⟩ ?_)
    refine l_pure rfl (s_lss  rfl rfl ?_)
    refine l_nil ?_
    repeat (with_reducible first | refine c_seq ?_ | refine c_block ?_ | refine c_skip ?_ | refine x_then ?_ | refine x_block ?_)
    by_cases hlt : i < A.length
    · refine c_yes rfl (decide_eq_true (by omega)) ?_
      repeat (with_reducible first | refine c_seq ?_ | refine c_block ?_ | refine c_skip ?_ | refine x_then ?_ | refine x_block ?_)
      have hltb : i < B.length := by omega
      repeat (with_reducible first | refine c_seq ?_ | refine c_block ?_ | refine c_skip ?_ | refine x_then ?_ | refine x_block ?_)
      refine c_draw [(0, .pure), (1, .pure), (2, .pure), (3, .read), (4, .pure), (5, .pure), (6, .pure), (7, .read), (8, .pure)] (by kernel_rfl) (by kernel_rfl) hS ?_
      intro wz1 hS hBz1
      refine w_pure rfl rfl (s_move  h0 ?_)
      refine w_pure rfl rfl (s_move  h5 ?_)
      refine w_pure rfl rfl (s_ixr (i := i)  rfl rfl (ha.below hS.below) (by omega) (by first | omega | (simp; done) | (simp; omega)) si_25 ?_)
      refine w_read rfl rfl (s_lde (i := i) 0  rfl vi_2 (ha.below hS.below) (by first | omega | (simp; done) | (simp; omega)) rfl rfl (.inr rfl) ?_)
      refine w_pure rfl rfl (s_move  h1 ?_)
      refine w_pure rfl rfl (s_move  h5 ?_)
      refine w_pure rfl rfl (s_ixr (i := i)  rfl rfl (hb.below hS.below) (by omega) (by first | omega | (simp; done) | (simp; omega)) si_25 ?_)
      refine w_read rfl rfl (s_lde (i := i) 0  rfl vi_2 (hb.below hS.below) (by first | omega | (simp; done) | (simp; omega)) rfl rfl (.inr rfl) ?_)
      refine w_pure rfl rfl (s_neq  rfl rfl ?_)
      refine w_end ?_
      repeat (with_reducible first | refine c_seq ?_ | refine c_block ?_ | refine c_skip ?_ | refine x_then ?_ | refine x_block ?_)
      have ta := take_succ' A i 0 hlt
      have tb := take_succ' B i 0 hltb
      by_cases he : A.getD i 0 = B.getD i 0
      · refine c_no rfl (decide_eq_false (not_not_intro he)) ?_
        repeat (with_reducible first | refine c_seq ?_ | refine c_block ?_ | refine c_skip ?_ | refine x_then ?_ | refine x_block ?_)
        refine c_reg ?_
        refine l_pure rfl (s_move  h5 ?_)
        refine l_pure rfl (s_add  rfl rfl (IntWalk.i64_in _ (by omega)) ?_)
        refine l_pure rfl (s_asg  rfl ?_)
        refine l_nil ?_
        repeat (with_reducible first | refine c_seq ?_ | refine c_block ?_ | refine c_skip ?_ | refine x_then ?_ | refine x_block ?_)
        exact ⟨i + 1, _, rfl, ⟨hlt, by rw [ta, tb, hq, he], h0, h1, vi rfl (by omega), hS⟩, by omega⟩
      · refine c_yes rfl (decide_eq_true he) ?_
        repeat (with_reducible first | refine c_seq ?_ | refine c_block ?_ | refine c_skip ?_ | refine x_then ?_ | refine x_block ?_)
        refine c_reg ?_
        refine l_pure rfl (s_asg  rfl ?_)
        refine l_nil ?_
        repeat (with_reducible first | refine c_seq ?_ | refine c_block ?_ | refine c_skip ?_ | refine x_then ?_ | refine x_block ?_)
        refine c_ret ?_
        repeat (with_reducible first | refine x_then_ret ?_ | refine x_block_ret ?_)
        refine r_one rfl rfl ?_
        refine ⟨congrArg Value.bool ?_, hS.below⟩
        symm; rw [decide_eq_false_iff_not]
        intro h
        rw [h] at he
        exact he rfl
    · refine c_no rfl (decide_eq_false (by omega)) ?_
      repeat (with_reducible first | refine c_seq ?_ | refine c_block ?_ | refine c_skip ?_ | refine x_then ?_ | refine x_block ?_)
      refine c_exit ?_
      repeat (with_reducible first | refine x_then_exit ?_ | refine x_block_exit ?_ | refine x_block_pass rfl ?_)
      repeat (with_reducible first | refine c_seq ?_ | refine c_block ?_ | refine c_skip ?_ | refine x_then ?_ | refine x_block ?_)
      obtain rfl : i = A.length := by omega
      rw [List.take_length, hl, List.take_length] at hq
      repeat (with_reducible first | refine c_seq ?_ | refine c_block ?_ | refine c_skip ?_ | refine x_then ?_ | refine x_block ?_)
      refine c_reg ?_
      refine l_pure rfl (s_asg  rfl ?_)
      refine l_nil ?_
      repeat (with_reducible first | refine c_seq ?_ | refine c_block ?_ | refine c_skip ?_ | refine x_then ?_ | refine x_block ?_)
      refine c_ret ?_
      repeat (with_reducible first | refine x_then_ret ?_ | refine x_block_ret ?_)
      refine r_one rfl rfl ?_
      exact ⟨congrArg Value.bool (decide_eq_true hq).symm, hS.below⟩
  · refine c_yes rfl (decide_eq_true (by omega)) ?_
    repeat (with_reducible first | refine c_seq ?_ | refine c_block ?_ | refine c_skip ?_ | refine x_then ?_ | refine x_block ?_)
    refine c_reg ?_
    refine l_pure rfl (s_asg  rfl ?_)
    refine l_nil ?_
    repeat (with_reducible first | refine c_seq ?_ | refine c_block ?_ | refine c_skip ?_ | refine x_then ?_ | refine x_block ?_)
    refine c_ret ?_
    repeat (with_reducible first | refine x_then_ret ?_ | refine x_block_ret ?_)
    refine r_one rfl rfl ?_
    refine ⟨congrArg Value.bool ?_, hS.below⟩
    symm; rw [decide_eq_false_iff_not]
    intro h
    rw [h] at hl
    exact hl rfl
end Go.Proofs.YtmapmdldlcfjhaaGreatDoor
namespace Go.Proofs.YtmapmdldlcfjhaaGreatDoor
open Go Go.RowKit Go.Sx
/-- A list that is being filled. -/
def fill {α : Type} (n i : Nat) (f : Nat → α) (z : α) : List α := tab n fun j => if j < i then f j else z
theorem fill_len {α : Type} (n i : Nat) (f : Nat → α) (z : α) : (fill n i f z).length = n := tab_len _ _
theorem fill_zero {α : Type} (n : Nat) (f : Nat → α) (z : α) : List.replicate n z = fill n 0 f z := by
  rw [tab_rep]; exact tab_congr fun _ _ => (if_neg (Nat.not_lt_zero _)).symm
theorem fill_all {α : Type} (n : Nat) (f : Nat → α) (z : α) : fill n n f z = tab n f := tab_congr fun _ hj => if_pos hj
theorem fill_set {α : Type} (n i : Nat) (f : Nat → α) (z : α) : (fill n i f z).set i (f i) = fill n (i + 1) f z := by
  unfold fill
  rw [tab_set]
  refine tab_congr fun j _ => ?_
  by_cases e : j = i
  · subst e; rw [if_pos rfl, if_pos (by omega)]
  · rw [if_neg e]
    by_cases e2 : j < i
    · rw [if_pos e2, if_pos (by omega)]
    · rw [if_neg e2, if_neg (by omega)]
theorem fill_get {α : Type} {n i k : Nat} (f : Nat → α) (z d : α) (hk : k < n) (hki : k < i) : (fill n i f z).getD k d = f k := by
  unfold fill
  rw [tab_get _ _ hk, if_pos hki]
theorem sumL_le {K : Nat} {l : List RR} (h : RB K l) : sumL l ≤ l.length * (K + 1) := by
  induction l with
  | nil => exact Nat.zero_le _
  | cons r l ih =>
    have h1 := h r (List.mem_cons_self ..)
    have h2 := ih fun x hx => h x (List.mem_cons_of_mem _ hx)
    rw [sumL, List.length_cons, Nat.add_mul]
    omega
theorem L_sumQ (l : List RR) : L (sumQ (l.map toQ)) ≤ sumL l + 1 := by
  induction l with
  | nil => show L 0 ≤ _; rw [L_zero]; omega
  | cons r l ih =>
    rw [List.map_cons, sumQ_cons, sumL]
    have := L_add (toQ r) (sumQ (l.map toQ))
    have := L_toQ r
    omega
theorem negs_get {l : List RR} (h : negs l = false) (i : Nat) : 0 ≤ toQ (l.getD i zRR) := by
  by_cases hi : i < l.length
  · unfold negs at h
    rw [List.any_eq_false] at h
    have := h _ (getD_mem l i zRR hi)
    rw [decide_eq_true_eq] at this
    exact Rat.not_lt.1 this
  · rw [List.getD_eq_getElem?_getD, List.getElem?_eq_none (by omega)]
    show 0 ≤ toQ zRR
    rw [toQ_zRR]; exact Rat.le_refl
theorem hd_nonneg {q : Rat} (h : 0 ≤ q) : 0 ≤ hdQ q := Rat.mul_nonneg h (by decide)
def qC (l : List RR) (i : Nat) : Rat := hdQ (toQ (l.getD i zRR))
def rE (l : List RR) : Int := if 1024 < l.length then 2 else if negs l = true then 7 else cE (sumQ (l.map toQ))
def ordC (l : List RR) : List Nat := ordB (frQ (qC l)) l.length
def resC (l : List RR) : Nat → Int := resQ (qC l) (ordC l) l.length
theorem ordC_ord (l : List RR) : Ord (frQ (qC l)) l.length (ordC l) := ordB_ord _ _
theorem qC_sum (l : List RR) : sumR (qC l) l.length = hdQ (sumQ (l.map toQ)) := by
  rw [sumR_list]
  exact sumR_mul _ _ _
theorem lfC (l : List RR) : lfQ (qC l) l.length = flC (sumQ (l.map toQ)) - sumZ (baQ (qC l)) l.length := by
  unfold lfQ flC
  rw [qC_sum]
theorem rE_zero {l : List RR} (h : rE l = 0) : negs l = false ∧ cE (sumQ (l.map toQ)) = 0 ∧ 0 ≤ sumQ (l.map toQ) ∧ 0 ≤ flC (sumQ (l.map toQ)) ∧ flC (sumQ (l.map toQ)) ≤ mxC ∧ l.length ≤ 1024 := by
  unfold rE at h
  split at h
  · cases h
  · next h1 =>
    cases hn : negs l with
    | true => rw [hn, if_pos rfl] at h; cases h
    | false =>
      rw [hn, if_neg (by decide)] at h
      have h2 := h
      unfold cE at h
      split at h
      · cases h
      · next h3 =>
        split at h
        · cases h
        · next h4 => exact ⟨rfl, h2, Rat.not_lt.1 h3, flC_nonneg (Rat.not_lt.1 h3), by omega, by omega⟩
theorem baC_bound {l : List RR} (h : rE l = 0) {i : Nat} (hi : i < l.length) : 0 ≤ baQ (qC l) i ∧ baQ (qC l) i ≤ flC (sumQ (l.map toQ)) := by
  obtain ⟨h1, _, h3, h4, h5, _⟩ := rE_zero h
  have hq : ∀ j, j < l.length → 0 ≤ qC l j := fun j _ => hd_nonneg (negs_get h1 j)
  refine ⟨baQ_nonneg (hq i hi), ?_⟩
  have := baQ_le hq hi
  rw [qC_sum] at this
  exact this
theorem sumC_bound {l : List RR} (h : rE l = 0) {i : Nat} (hi : i ≤ l.length) : 0 ≤ sumZ (baQ (qC l)) i ∧ sumZ (baQ (qC l)) i ≤ flC (sumQ (l.map toQ)) := by
  have h1 := fun j hj => (baC_bound h (i := j) hj).1
  have h2 := sumZ_mono h1 hi
  have h3 := lfQ_nonneg (qC l) l.length
  rw [lfC] at h3
  exact ⟨sumZ_nonneg fun j hj => h1 j (by omega), by omega⟩
theorem resC_bound {l : List RR} (h : rE l = 0) {i : Nat} (hi : i < l.length) : 0 ≤ resC l i ∧ resC l i ≤ mxC + 1 := by
  have h1 := baC_bound h hi
  have h2 := (rE_zero h).2.2.2.2.1
  rcases res_or (ordC_ord l) i with ⟨_, e⟩ | ⟨_, e, _⟩ <;> unfold resC <;> omega
def cmpN (x y : Int) : Int := if x < y then -1 else if y < x then 1 else 0
def cmpB (fr : Nat → Rat) (x y : Int) : Int := if cmpQ (fr y.toNat) (fr x.toNat) ≠ 0 then cmpQ (fr y.toNat) (fr x.toNat) else cmpN x y
theorem ltC_cmpB (fr : Nat → Rat) (i k : Nat) : ltC (cmpB fr) (i : Int) (k : Int) = ltB fr i k := by
  unfold ltC cmpB ltB
  rw [Int.toNat_natCast, Int.toNat_natCast, decide_eq_decide]
  by_cases h : cmpQ (fr k) (fr i) = 0
  · rw [if_neg (not_not_intro h)]
    have h2 := cmpQ_zero.1 h
    unfold cmpN
    constructor
    · intro g
      refine .inr ⟨h2.symm, ?_⟩
      split at g
      · omega
      · split at g <;> omega
    · rintro (g | ⟨_, g⟩)
      · rw [h2] at g; exact absurd g Rat.lt_irrefl
      · rw [if_pos (by omega)]; decide
  · rw [if_pos h, cmpQ_neg]
    constructor
    · exact .inl
    · rintro (g | ⟨g, _⟩)
      · exact g
      · exact absurd (cmpQ_zero.2 g.symm) h
theorem sort_B (fr : Nat → Rat) (n : Nat) : isort (ltC (cmpB fr)) (zI (List.range n)) = zI (ordB fr n) := isort_map (f := fun i : Nat => (i : Int)) (fun i k => ltC_cmpB fr i k) _
theorem isNaN_ok (x : Int) (w : World) : Ret Tryz.prog 101 #[.int .i64 x] w fun v w' => v = .bool false ∧ w' = w := by
  refine enter Tryz.func101 rfl Tryz.ntmps101 rfl ?_
  repeat (with_reducible first | refine c_seq ?_ | refine c_block ?_ | refine c_skip ?_ | refine x_then ?_ | refine x_block ?_)
  refine c_reg ?_
  refine l_pure rfl (s_asg  rfl ?_)
  refine l_nil ?_
  repeat (with_reducible first | refine c_seq ?_ | refine c_block ?_ | refine c_skip ?_ | refine x_then ?_ | refine x_block ?_)
  refine c_reg ?_
  refine l_pure rfl (s_move  rfl ?_)
  refine l_pure rfl (s_move  rfl ?_)
  refine l_pure rfl (s_neq  rfl rfl ?_)
  refine l_pure rfl (s_asg  rfl ?_)
  refine l_nil ?_
  repeat (with_reducible first | refine c_seq ?_ | refine c_block ?_ | refine c_skip ?_ | refine x_then ?_ | refine x_block ?_)
  refine c_ret ?_
  repeat (with_reducible first | refine x_then_ret ?_ | refine x_block_ret ?_)
  refine r_one rfl rfl ?_
  exact ⟨congrArg Value.bool (decide_eq_false (fun h => h rfl)), rfl⟩
theorem cmpCompare_ok (x y : Int) (w : World) : Ret Tryz.prog 69 #[.int .i64 x, .int .i64 y] w fun v w' => v = .int .i64 (cmpN x y) ∧ w' = w := by
  refine enter Tryz.func69 rfl Tryz.ntmps69 rfl ?_
  repeat (with_reducible first | refine c_seq ?_ | refine c_block ?_ | refine c_skip ?_ | refine x_then ?_ | refine x_block ?_)
  refine c_reg ?_
  refine l_pure rfl (s_asg  rfl ?_)
  refine l_nil ?_
  repeat (with_reducible first | refine c_seq ?_ | refine c_block ?_ | refine c_skip ?_ | refine x_then ?_ | refine x_block ?_)
  refine c_reg ?_
  refine l_pure rfl (s_move  rfl ?_)
  refine l_heavy rfl (s_call Tryz.call101 rfl (isNaN_ok x _) ?_)
  rintro _ wq1 ⟨rfl, hq1⟩
  replace hq1 := hq1.symm
  subst hq1
  refine l_pure rfl (s_asg  rfl ?_)
  refine l_nil ?_
  repeat (with_reducible first | refine c_seq ?_ | refine c_block ?_ | refine c_skip ?_ | refine x_then ?_ | refine x_block ?_)
  refine c_reg ?_
  refine l_pure rfl (s_move  rfl ?_)
  refine l_heavy rfl (s_call Tryz.call101 rfl (isNaN_ok y _) ?_)
  rintro _ wq2 ⟨rfl, hq2⟩
  replace hq2 := hq2.symm
  subst hq2
  refine l_pure rfl (s_asg  rfl ?_)
  refine l_nil ?_
  repeat (with_reducible first | refine c_seq ?_ | refine c_block ?_ | refine c_skip ?_ | refine x_then ?_ | refine x_block ?_)
  refine c_reg ?_
  refine l_pure rfl (s_move  rfl ?_)
  refine l_nil ?_
  repeat (with_reducible first | refine c_seq ?_ | refine c_block ?_ | refine c_skip ?_ | refine x_then ?_ | refine x_block ?_)
  refine c_no rfl (rfl) ?_
  repeat (with_reducible first | refine c_seq ?_ | refine c_block ?_ | refine c_skip ?_ | refine x_then ?_ | refine x_block ?_)
  refine c_reg ?_
  refine l_pure rfl (s_move  rfl ?_)
  refine l_nil ?_
  repeat (with_reducible first | refine c_seq ?_ | refine c_block ?_ | refine c_skip ?_ | refine x_then ?_ | refine x_block ?_)
  refine c_no rfl (rfl) ?_
  repeat (with_reducible first | refine c_seq ?_ | refine c_block ?_ | refine c_skip ?_ | refine x_then ?_ | refine x_block ?_)
  refine c_reg ?_
  refine l_pure rfl (s_move  rfl ?_)
  refine l_pure rfl (s_move  rfl ?_)
  refine l_pure rfl (s_lss  rfl rfl ?_)
  refine l_nil ?_
  repeat (with_reducible first | refine c_seq ?_ | refine c_block ?_ | refine c_skip ?_ | refine x_then ?_ | refine x_block ?_)
  unfold cmpN
  by_cases h : x < y
  · rw [if_pos h]
    refine c_yes rfl (decide_eq_true (by omega)) ?_
    repeat (with_reducible first | refine c_seq ?_ | refine c_block ?_ | refine c_skip ?_ | refine x_then ?_ | refine x_block ?_)
    refine c_reg ?_
    refine l_pure rfl (s_asg  rfl ?_)
    refine l_nil ?_
    repeat (with_reducible first | refine c_seq ?_ | refine c_block ?_ | refine c_skip ?_ | refine x_then ?_ | refine x_block ?_)
    refine c_ret ?_
    repeat (with_reducible first | refine x_then_ret ?_ | refine x_block_ret ?_)
    refine r_one rfl rfl ?_
    exact ⟨rfl, rfl⟩
  · rw [if_neg h]
    refine c_no rfl (decide_eq_false (by omega)) ?_
    repeat (with_reducible first | refine c_seq ?_ | refine c_block ?_ | refine c_skip ?_ | refine x_then ?_ | refine x_block ?_)
    refine c_reg ?_
    refine l_pure rfl (s_move  rfl ?_)
    refine l_pure rfl (s_move  rfl ?_)
    refine l_pure rfl (s_gtr  rfl rfl ?_)
    refine l_nil ?_
    repeat (with_reducible first | refine c_seq ?_ | refine c_block ?_ | refine c_skip ?_ | refine x_then ?_ | refine x_block ?_)
    by_cases h2 : y < x
    · rw [if_pos h2]
      refine c_yes rfl (decide_eq_true (by omega)) ?_
      repeat (with_reducible first | refine c_seq ?_ | refine c_block ?_ | refine c_skip ?_ | refine x_then ?_ | refine x_block ?_)
      refine c_reg ?_
      refine l_pure rfl (s_asg  rfl ?_)
      refine l_nil ?_
      repeat (with_reducible first | refine c_seq ?_ | refine c_block ?_ | refine c_skip ?_ | refine x_then ?_ | refine x_block ?_)
      refine c_ret ?_
      repeat (with_reducible first | refine x_then_ret ?_ | refine x_block_ret ?_)
      refine r_one rfl rfl ?_
      exact ⟨rfl, rfl⟩
    · rw [if_neg h2]
      refine c_no rfl (decide_eq_false (by omega)) ?_
      repeat (with_reducible first | refine c_seq ?_ | refine c_block ?_ | refine c_skip ?_ | refine x_then ?_ | refine x_block ?_)
      refine c_reg ?_
      refine l_pure rfl (s_asg  rfl ?_)
      refine l_nil ?_
      repeat (with_reducible first | refine c_seq ?_ | refine c_block ?_ | refine c_skip ?_ | refine x_then ?_ | refine x_block ?_)
      refine c_ret ?_
      repeat (with_reducible first | refine x_then_ret ?_ | refine x_block_ret ?_)
      refine r_one rfl rfl ?_
      exact ⟨rfl, rfl⟩
theorem round1_ok (p i k n K : Nat) (vl : Value) (fr : Nat → Rat) (w : World) (hp : At w ⟨p, 0, none⟩ [vl]) (hl : Sl encR 3 w vl (tab n fun j => ofQ (fr j))) (hi : i < n) (hk : k < n) (hK : ∀ j, j < n → L (fr j) ≤ K) (hM : 2 * K ≤ MX) :
    Ret Tryz.prog 68 #[.int .i64 i, .int .i64 k, .pointer (some ⟨p, 0, none⟩)] w fun v w' => v = .int .i64 (cmpB fr i k) ∧ Below w.heap.size w w' := by
  have hS := St.init w
  have hci : cmpB fr i k = if cmpQ (fr k) (fr i) ≠ 0 then cmpQ (fr k) (fr i) else cmpN i k := by
    unfold cmpB; rw [Int.toNat_natCast, Int.toNat_natCast]
  rw [hci]
  have htl := tab_len n fun j => ofQ (fr j)
  have hki := hK i hi
  have hkk := hK k hk
  have hcm := fun w => QCompare_ok (ofQ (fr k)) (ofQ (fr i)) w (by rw [Lr_ofQ, Lr_ofQ]; omega)
  rw [toQ_ofQ, toQ_ofQ] at hcm
  have e1 : (tab n fun j => ofQ (fr j)).getD k zRR = ofQ (fr k) := tab_get _ _ hk
  have e2 : (tab n fun j => ofQ (fr j)).getD i zRR = ofQ (fr i) := tab_get _ _ hi
  refine enter Tryz.func68 rfl Tryz.ntmps68 rfl ?_
  repeat (with_reducible first | refine c_seq ?_ | refine c_block ?_ | refine c_skip ?_ | refine x_then ?_ | refine x_block ?_)
  refine c_reg ?_
  refine l_pure rfl (s_asg  rfl ?_)
  refine l_nil ?_
  repeat (with_reducible first | refine c_seq ?_ | refine c_block ?_ | refine c_skip ?_ | refine x_then ?_ | refine x_block ?_)
  refine c_draw [(0, .read), (1, .pure), (2, .pure), (3, .read), (4, .read), (5, .pure), (6, .pure), (7, .read), (8, .grow), (9, .pure)] (by kernel_rfl) (by kernel_rfl) hS ?_
  intro wz1 hS hBz1
  refine w_read rfl rfl (s_ld (cs := [vl])  rfl vi_22 (hp.below hS.below) rfl rfl (.inr rfl) ?_)
  refine w_pure rfl rfl (s_move  rfl ?_)
  refine w_pure rfl rfl (s_ixr (i := k)  rfl rfl (hl.below hS.below) (by omega) (by first | omega | (simp; done) | (simp; omega)) si_22 ?_)
  refine w_read rfl rfl (s_lde (i := k) zRR  rfl vi_37 (hl.below hS.below) (by first | omega | (simp; done) | (simp; omega)) rfl rfl (.inl rfl) ?_)
  refine w_read rfl rfl (s_ld (cs := [vl])  rfl vi_22 (hp.below hS.below) rfl rfl (.inr rfl) ?_)
  refine w_pure rfl rfl (s_move  rfl ?_)
  refine w_pure rfl rfl (s_ixr (i := i)  rfl rfl (hl.below hS.below) (by omega) (by first | omega | (simp; done) | (simp; omega)) si_22 ?_)
  refine w_read rfl rfl (s_lde (i := i) zRR  rfl vi_37 (hl.below hS.below) (by first | omega | (simp; done) | (simp; omega)) rfl rfl (.inl rfl) ?_)
  rw [e1, e2]
  refine w_grow rfl rfl (s_call Tryz.call47 rfl (hcm _) ?_)
  rintro _ wc2 ⟨rfl, hBc2⟩
  replace hS := hS.grow hBc2
  refine ⟨hBc2, ?_⟩
  refine w_pure rfl rfl (s_asg  rfl ?_)
  refine w_end ?_
  repeat (with_reducible first | refine c_seq ?_ | refine c_block ?_ | refine c_skip ?_ | refine x_then ?_ | refine x_block ?_)
  refine c_reg ?_
  refine l_pure rfl (s_move  rfl ?_)
  refine l_pure rfl (s_neq  rfl rfl ?_)
  refine l_nil ?_
  repeat (with_reducible first | refine c_seq ?_ | refine c_block ?_ | refine c_skip ?_ | refine x_then ?_ | refine x_block ?_)
  by_cases h : cmpQ (fr k) (fr i) = 0
  · rw [if_neg (not_not_intro h)]
    refine c_no rfl (decide_eq_false (not_not_intro h)) ?_
    repeat (with_reducible first | refine c_seq ?_ | refine c_block ?_ | refine c_skip ?_ | refine x_then ?_ | refine x_block ?_)
    refine c_reg ?_
    refine l_pure rfl (s_move  rfl ?_)
    refine l_pure rfl (s_move  rfl ?_)
    refine l_heavy rfl (s_call Tryz.call69 rfl (cmpCompare_ok i k _) ?_)
    rintro _ wq3 ⟨rfl, hq3⟩
    replace hq3 := hq3.symm
    subst hq3
    refine l_pure rfl (s_asg  rfl ?_)
    refine l_nil ?_
    repeat (with_reducible first | refine c_seq ?_ | refine c_block ?_ | refine c_skip ?_ | refine x_then ?_ | refine x_block ?_)
    refine c_ret ?_
    repeat (with_reducible first | refine x_then_ret ?_ | refine x_block_ret ?_)
    refine r_one rfl rfl ?_
    exact ⟨rfl, hS.below⟩
  · rw [if_pos h]
    refine c_yes rfl (decide_eq_true h) ?_
    repeat (with_reducible first | refine c_seq ?_ | refine c_block ?_ | refine c_skip ?_ | refine x_then ?_ | refine x_block ?_)
    refine c_reg ?_
    refine l_pure rfl (s_move  rfl ?_)
    refine l_pure rfl (s_asg  rfl ?_)
    refine l_nil ?_
    repeat (with_reducible first | refine c_seq ?_ | refine c_block ?_ | refine c_skip ?_ | refine x_then ?_ | refine x_block ?_)
    refine c_ret ?_
    repeat (with_reducible first | refine x_then_ret ?_ | refine x_block_ret ?_)
    refine r_one rfl rfl ?_
    exact ⟨rfl, hS.below⟩
end Go.Proofs.YtmapmdldlcfjhaaGreatDoor
namespace Go.Proofs.YtmapmdldlcfjhaaGreatDoor
open Go Go.RowKit Go.Sx
set_option maxHeartbeats 4000000 in
theorem Round_ok (v : Value) (l : List RR) (K : Nat) (w : World) (hv : Sl encR 3 w v l) (hl : RB K l) (h20 : l.length ≤ 20) (hK : 100 * K + 200 ≤ MX) :
    Ret Tryz.prog 24 #[v] w fun r w' =>
      (rE l ≠ 0 ∧ r = .tuple #[.slice none 0 0, .int .i64 (rE l)] ∧ Below w.heap.size w w') ∨
      (rE l = 0 ∧ ∃ b, r = .tuple #[.slice (some ⟨b, 0, none⟩) l.length l.length, .int .i64 0] ∧ St w w' [(b, 2, (tab l.length (resC l)).flatMap enI)]) := by
  have hM : MX = 1099511627776 := rfl
  have hmC : mxC = 1125899906842624 := rfl
  have hsl := sumL_le hl
  have hsl2 : l.length * (K + 1) ≤ 20 * (K + 1) := Nat.mul_le_mul_right _ h20
  have hLs := L_sumQ l
  have hsum := fun w h => QSum_ok v l w h (by omega)
  have hcs := fun w => Cents_ok (ofQ (sumQ (l.map toQ))) w (by rw [Lr_ofQ]; omega)
  rw [toQ_ofQ] at hcs
  have hS := St.init w
  refine enter Tryz.func24 rfl Tryz.ntmps24 rfl ?_
  repeat (with_reducible first | refine c_seq ?_ | refine c_block ?_ | refine c_skip ?_ | refine x_then ?_ | refine x_block ?_)
  refine c_reg ?_
  refine l_pure rfl (s_asg  rfl ?_)
  refine l_pure rfl (s_asg  rfl ?_)
  refine l_nil ?_
  repeat (with_reducible first | refine c_seq ?_ | refine c_block ?_ | refine c_skip ?_ | refine x_then ?_ | refine x_block ?_)
  refine c_reg ?_
  refine l_pure rfl (s_move  rfl ?_)
  refine l_pure rfl (s_lenr  rfl (hv.below hS.below) ⟨_, Tryz.underlying22⟩ ?_)
  refine l_pure rfl (s_gtr  rfl rfl ?_)
  refine l_nil ?_
  repeat (with_reducible first | refine c_seq ?_ | refine c_block ?_ | refine c_skip ?_ | refine x_then ?_ | refine x_block ?_)
  refine c_no rfl (decide_eq_false (by omega)) ?_
  repeat (with_reducible first | refine c_seq ?_ | refine c_block ?_ | refine c_skip ?_ | refine x_then ?_ | refine x_block ?_)
  refine c_reg ?_
  refine l_pure rfl (s_move  rfl ?_)
  refine l_heavy rfl (s_call Tryz.call67 rfl (pnegative_ok v l _ (hv.below hS.below) (RB_mono hl (by omega))) ?_)
  rintro _ wc1 ⟨rfl, hBc1⟩
  replace hS := hS.grow hBc1
  refine l_nil ?_
  repeat (with_reducible first | refine c_seq ?_ | refine c_block ?_ | refine c_skip ?_ | refine x_then ?_ | refine x_block ?_)
  cases hn : negs l with
  | true =>
    have he : rE l = 7 := by unfold rE; rw [if_neg (by omega), hn, if_pos rfl]
    refine c_yes rfl (rfl) ?_
    repeat (with_reducible first | refine c_seq ?_ | refine c_block ?_ | refine c_skip ?_ | refine x_then ?_ | refine x_block ?_)
    refine c_reg ?_
    refine l_pure rfl (s_asg  rfl ?_)
    refine l_pure rfl (s_asg  rfl ?_)
    refine l_nil ?_
    repeat (with_reducible first | refine c_seq ?_ | refine c_block ?_ | refine c_skip ?_ | refine x_then ?_ | refine x_block ?_)
    refine c_ret ?_
    repeat (with_reducible first | refine x_then_ret ?_ | refine x_block_ret ?_)
    refine r_two rfl rfl rfl ?_
    exact .inl ⟨by rw [he]; decide, by rw [he]; rfl, hS.below⟩
  | false =>
  have he : rE l = cE (sumQ (l.map toQ)) := by unfold rE; rw [if_neg (by omega), hn, if_neg (by decide)]
  refine c_no rfl (rfl) ?_
  repeat (with_reducible first | refine c_seq ?_ | refine c_block ?_ | refine c_skip ?_ | refine x_then ?_ | refine x_block ?_)
  refine c_reg ?_
  refine l_pure rfl (s_move  rfl ?_)
  refine l_heavy rfl (s_call Tryz.call42 rfl (hsum _ (hv.below hS.below)) ?_)
  rintro _ wc2 ⟨rfl, hBc2⟩
  replace hS := hS.grow hBc2
  refine l_heavy rfl (s_call Tryz.call20 rfl (hcs _) ?_)
  rintro _ wc3 ⟨rfl, hBc3⟩
  replace hS := hS.grow hBc3
  refine l_pure rfl (s_move  rfl ?_)
  refine l_pure rfl (s_ext  rfl rfl ?_)
  refine l_pure rfl (s_ext  rfl rfl ?_)
  refine l_pure rfl (s_asg  rfl ?_)
  refine l_pure rfl (s_asg  rfl ?_)
  refine l_nil ?_
  repeat (with_reducible first | refine c_seq ?_ | refine c_block ?_ | refine c_skip ?_ | refine x_then ?_ | refine x_block ?_)
  refine c_reg ?_
  refine l_pure rfl (s_move  rfl ?_)
  refine l_pure rfl (s_neq  rfl rfl ?_)
  refine l_nil ?_
  repeat (with_reducible first | refine c_seq ?_ | refine c_block ?_ | refine c_skip ?_ | refine x_then ?_ | refine x_block ?_)
  rw [← he]
  by_cases hz : rE l = 0
  · have hN : cN (sumQ (l.map toQ)) = flC (sumQ (l.map toQ)) := by unfold cN; rw [← he, if_pos hz]
    obtain ⟨T, hT⟩ : ∃ T, T = flC (sumQ (l.map toQ)) := ⟨_, rfl⟩
    rw [hN, ← hT]
    obtain ⟨n, hn'⟩ : ∃ n, n = l.length := ⟨_, rfl⟩
    obtain ⟨q, hq⟩ : ∃ q, q = qC l := ⟨_, rfl⟩
    obtain ⟨J, hJ⟩ : ∃ J, J = ordC l := ⟨_, rfl⟩
    have hord := ordC_ord l
    have hsb := fun i hi => sumC_bound hz (i := i) hi
    have hbb := fun i hi => baC_bound hz (i := i) hi
    have hrb := fun i hi => resC_bound hz (i := i) hi
    have hlf := lfC l
    have hres : resC l = resQ q J n := by rw [hq, hJ, hn']; rfl
    have hTm := (rE_zero hz).2.2.2.2.1
    have hT0 := (rE_zero hz).2.2.2.1
    have hJd : ordB (frQ q) n = J := by rw [hJ, hq, hn']; rfl
    have hfq : ∀ i, flC (toQ (l.getD i zRR)) = baQ q i := fun i => by rw [hq]; rfl
    have hrq : ∀ i, frC (toQ (l.getD i zRR)) = frQ q i := fun i => by rw [hq]; rfl
    have hLq : ∀ i, i < n → Lr (l.getD i zRR) ≤ K := fun i hi => hl _ (getD_mem l i zRR (by omega))
    have hLf : ∀ i, i < n → L (frQ q i) ≤ 2 * K + 4 := fun i hi => by
      rw [← hrq]
      have := L_frC (toQ (l.getD i zRR))
      have := L_toQ (l.getD i zRR)
      have := hLq i hi
      omega
    rw [← hT] at hsb hbb hlf hTm hT0
    rw [hres] at hrb ⊢
    rw [← hq, ← hJ, ← hn'] at hord
    rw [← hq] at hsb hbb
    rw [← hq, ← hn'] at hlf
    rw [← hn'] at hsb hbb hrb h20 ⊢
    refine c_no rfl (decide_eq_false (not_not_intro hz)) ?_
    repeat (with_reducible first | refine c_seq ?_ | refine c_block ?_ | refine c_skip ?_ | refine x_then ?_ | refine x_block ?_)
    refine c_reg ?_
    refine l_pure rfl (s_move  rfl ?_)
    refine l_pure rfl (s_lenr  rfl (hv.below hS.below) ⟨_, Tryz.underlying22⟩ ?_)
    refine l_heavy rfl (s_makeE (enc := enI) (n := n) 0  rfl rfl si_25 rfl (by omega) (by omega) (by omega) (by omega) hS ?_)
    intro b6 wz4 hS hBz4
    refine l_pure rfl (s_asg  rfl ?_)
    refine l_nil ?_
    repeat (with_reducible first | refine c_seq ?_ | refine c_block ?_ | refine c_skip ?_ | refine x_then ?_ | refine x_block ?_)
    refine c_reg ?_
    refine l_pure rfl (s_move  rfl ?_)
    refine l_pure rfl (s_lenr  rfl (hv.below hS.below) ⟨_, Tryz.underlying22⟩ ?_)
    refine l_heavy rfl (s_makeE (enc := encR) (n := n) zRR  rfl rfl si_22 rfl (by omega) (by omega) (by omega) (by omega) hS ?_)
    intro bF wz5 hS hBz5
    refine l_heavy rfl (s_alloc  vi_22 hS ?_)
    intro b7 wz6 hS hBz6
    refine l_heavy rfl (s_stc (k := 0)  rfl rfl vi_22 hS rfl (Nat.le_of_ble_eq_true rfl) rfl ?_)
    intro wz7 hS
    refine l_nil ?_
    repeat (with_reducible first | refine c_seq ?_ | refine c_block ?_ | refine c_skip ?_ | refine x_then ?_ | refine x_block ?_)
    refine c_reg ?_
    refine l_pure rfl (s_move  rfl ?_)
    refine l_pure rfl (s_lenr  rfl (hv.below hS.below) ⟨_, Tryz.underlying22⟩ ?_)
    refine l_heavy rfl (s_makeE (enc := enI) (n := n) 0  rfl rfl si_65 rfl (by omega) (by omega) (by omega) (by omega) hS ?_)
    intro b8 wz8 hS hBz8
    refine l_pure rfl (s_asg  rfl ?_)
    refine l_nil ?_
    repeat (with_reducible first | refine c_seq ?_ | refine c_block ?_ | refine c_skip ?_ | refine x_then ?_ | refine x_block ?_)
    replace hS : St w _ [(b8, 3, (List.replicate n (0 : Int)).flatMap enI), (b7, 22, [.slice (some ⟨bF, 0, none⟩) n n]), (bF, 37, (List.replicate n zRR).flatMap encR), (b6, 2, (List.replicate n (0 : Int)).flatMap enI)] := hS
    repeat (with_reducible first | refine c_seq ?_ | refine c_block ?_ | refine c_skip ?_ | refine x_then ?_ | refine x_block ?_)
    refine c_forget (fun ρ' => ρ' 0 = v ∧ ρ' 4 = .int .i64 T ∧ ρ' 6 = .slice (some ⟨b6, 0, none⟩) n n ∧ ρ' 7 = .pointer (some ⟨b7, 0, none⟩) ∧ ρ' 8 = .slice (some ⟨b8, 0, none⟩) n n ∧ True) ⟨rfl, rfl, rfl, rfl, rfl, trivial⟩ ?_
    rintro ρk9 ⟨hk9_0, hk9_4, hk9_6, hk9_7, hk9_8, -⟩
    repeat (with_reducible first | refine c_seq ?_ | refine c_block ?_ | refine c_skip ?_ | refine x_then ?_ | refine x_block ?_)
    refine c_reg ?_
    refine l_pure rfl (s_move  hk9_0 ?_)
    refine l_pure rfl (s_lenr  rfl (hv.below hS.below) ⟨_, Tryz.underlying22⟩ ?_)
    refine l_pure rfl (s_move  rfl ?_)
    refine l_nil ?_
    repeat (with_reducible first | refine c_seq ?_ | refine c_skip ?_ | refine x_then ?_ | refine x_block ?_)
    refine c_cut1 (fun ρ w' => ρ 4 = .int .i64 (T - sumZ (baQ q) n) ∧ ρ 6 = .slice (some ⟨b6, 0, none⟩) n n ∧ ρ 7 = .pointer (some ⟨b7, 0, none⟩) ∧ ρ 8 = .slice (some ⟨b8, 0, none⟩) n n ∧ St w w' [(b8, 3, (fill n n (fun j : Nat => (j : Int)) 0).flatMap enI), (b7, 22, [.slice (some ⟨bF, 0, none⟩) n n]), (bF, 37, (fill n n (fun j => ofQ (frQ q j)) zRR).flatMap encR), (b6, 2, (fill n n (baQ q) 0).flatMap enI)]) ?_ ?_
    · repeat (with_reducible first | refine c_seq ?_ | refine c_block ?_ | refine c_skip ?_ | refine x_then ?_ | refine x_block ?_)
      refine c_loop (σ := Nat) (fun i ρ w' => i ≤ n ∧ ρ 4 = .int .i64 (T - sumZ (baQ q) i) ∧ ρ 6 = .slice (some ⟨b6, 0, none⟩) n n ∧ ρ 7 = .pointer (some ⟨b7, 0, none⟩) ∧ ρ 8 = .slice (some ⟨b8, 0, none⟩) n n ∧ ρ 38 = v ∧ ρ 39 = .int .i64 n ∧ ρ 40 = .int .i64 i ∧ St w w' [(b8, 3, (fill n i (fun j : Nat => (j : Int)) 0).flatMap enI), (b7, 22, [.slice (some ⟨bF, 0, none⟩) n n]), (bF, 37, (fill n i (fun j => ofQ (frQ q j)) zRR).flatMap encR), (b6, 2, (fill n i (baQ q) 0).flatMap enI)]) (fun i => n - i) 0
        ⟨Nat.zero_le _, vi (by assumption) (by show T = T - 0; omega), by assumption, by assumption, by assumption, rfl, vi rfl (by omega), rfl, (by rw [← fill_zero n (fun j : Nat => (j : Int)) 0, ← fill_zero n (fun j => ofQ (frQ q j)) zRR, ← fill_zero n (baQ q) 0]; exact hS)⟩ ?_
      clear hS
      rintro i ρ w2 ⟨hi, h4, h6, h7, h8, h38, h39, h40, hS⟩
      repeat (with_reducible first | refine c_seq ?_ | refine c_block ?_ | refine c_skip ?_ | refine x_then ?_ | refine x_block ?_)
      refine c_reg ?_
      refine l_pure rfl (s_lss  h40 h39 ?_)
      refine l_nil ?_
      repeat (with_reducible first | refine c_seq ?_ | refine c_block ?_ | refine c_skip ?_ | refine x_then ?_ | refine x_block ?_)
      by_cases hlt : i < n
      · refine c_yes rfl (decide_eq_true (by omega)) ?_
        repeat (with_reducible first | refine c_seq ?_ | refine c_block ?_ | refine c_skip ?_ | refine x_then ?_ | refine x_block ?_)
        have f1 := fill_len n i (fun j : Nat => (j : Int)) 0
        have f2 := fill_len n i (fun j => ofQ (frQ q j)) zRR
        have f3 := fill_len n i (baQ q) 0
        have f4 := fill_len n (i + 1) (baQ q) 0
        have g1 := fill_set n i (fun j : Nat => (j : Int)) 0
        have g2 := fill_set n i (fun j => ofQ (frQ q j)) zRR
        have g3 := fill_set n i (baQ q) 0
        have g4 := fill_get (n := n) (i := i + 1) (k := i) (baQ q) 0 0 hlt (by omega)
        obtain ⟨bb1, bb2⟩ := hbb i hlt
        obtain ⟨sb1, sb2⟩ := hsb i (by omega)
        obtain ⟨sc1, sc2⟩ := hsb (i + 1) (by omega)
        have hss : sumZ (baQ q) (i + 1) = sumZ (baQ q) i + baQ q i := rfl
        have hLi := hLq i hlt
        have hsp := fun w => split_ok (l.getD i zRR) w (by omega)
        rw [hfq, hrq] at hsp
        have hce := fun w => cents_ok (baQ q i) w bb1 (by
          have := L_flC (toQ (l.getD i zRR))
          have := L_toQ (l.getD i zRR)
          rw [hfq] at *
          omega)
        repeat (with_reducible first | refine c_seq ?_ | refine c_block ?_ | refine c_skip ?_ | refine x_then ?_ | refine x_block ?_)
        refine c_reg ?_
        refine l_pure rfl (s_move  h40 ?_)
        refine l_pure rfl (s_ixr (i := i)  h38 h40 (hv.below hS.below) (by omega) (by first | omega | (simp; done) | (simp; omega)) si_22 ?_)
        refine l_read rfl (s_lde (i := i) zRR  rfl vi_37 (hv.below hS.below) (by first | omega | (simp; done) | (simp; omega)) rfl rfl (.inl rfl) ?_)
        refine l_heavy rfl (s_alloc  vi_37 hS ?_)
        intro b10 wz10 hS hBz10
        refine l_pure rfl (s_asg  rfl ?_)
        refine l_heavy rfl (s_sta (k := 0)  rfl rfl vi_37 hS rfl rfl rfl (Nat.le_of_ble_eq_true rfl) rfl ?_)
        intro wz11 hS
        refine l_nil ?_
        repeat (with_reducible first | refine c_seq ?_ | refine c_block ?_ | refine c_skip ?_ | refine x_then ?_ | refine x_block ?_)
        replace hS : St w _ ((b10, 37, encR (l.getD i zRR)) :: [(b8, 3, (fill n i (fun j : Nat => (j : Int)) 0).flatMap enI), (b7, 22, [.slice (some ⟨bF, 0, none⟩) n n]), (bF, 37, (fill n i (fun j => ofQ (frQ q j)) zRR).flatMap encR), (b6, 2, (fill n i (baQ q) 0).flatMap enI)]) := hS
        repeat (with_reducible first | refine c_seq ?_ | refine c_block ?_ | refine c_skip ?_ | refine x_then ?_ | refine x_block ?_)
        refine c_reg ?_
        refine l_read rfl (s_ldo (k := 0)  rfl vi_37 hS rfl rfl rfl (.inl rfl) ?_)
        refine l_heavy rfl (s_call Tryz.call59 rfl (hsp _) ?_)
        rintro _ wc12 ⟨rfl, hBc12⟩
        replace hS := hS.grow hBc12
        refine l_pure rfl (s_move  rfl ?_)
        refine l_pure rfl (s_ext  rfl rfl ?_)
        refine l_pure rfl (s_ext  rfl rfl ?_)
        refine l_heavy rfl (s_alloc  vi_37 hS ?_)
        intro b11 wz13 hS hBz13
        refine l_heavy rfl (s_alloc  vi_37 hS ?_)
        intro b12 wz14 hS hBz14
        refine l_heavy rfl (s_sta (k := 1)  rfl rfl vi_37 hS rfl rfl rfl (Nat.le_of_ble_eq_true rfl) rfl ?_)
        intro wz15 hS
        refine l_heavy rfl (s_sta (k := 0)  rfl rfl vi_37 hS rfl rfl rfl (Nat.le_of_ble_eq_true rfl) rfl ?_)
        intro wz16 hS
        refine l_nil ?_
        repeat (with_reducible first | refine c_seq ?_ | refine c_block ?_ | refine c_skip ?_ | refine x_then ?_ | refine x_block ?_)
        replace hS : St w _ ((b12, 37, encR (ofQ (frQ q i))) :: (b11, 37, encR (ofQ (baQ q i : Rat))) :: (b10, 37, encR (l.getD i zRR)) :: [(b8, 3, (fill n i (fun j : Nat => (j : Int)) 0).flatMap enI), (b7, 22, [.slice (some ⟨bF, 0, none⟩) n n]), (bF, 37, (fill n i (fun j => ofQ (frQ q j)) zRR).flatMap encR), (b6, 2, (fill n i (baQ q) 0).flatMap enI)]) := hS
        repeat (with_reducible first | refine c_seq ?_ | refine c_block ?_ | refine c_skip ?_ | refine x_then ?_ | refine x_block ?_)
        refine c_forget (fun ρ' => ρ' 4 = .int .i64 (T - sumZ (baQ q) i) ∧ ρ' 6 = .slice (some ⟨b6, 0, none⟩) n n ∧ ρ' 7 = .pointer (some ⟨b7, 0, none⟩) ∧ ρ' 8 = .slice (some ⟨b8, 0, none⟩) n n ∧ ρ' 38 = v ∧ ρ' 39 = .int .i64 n ∧ ρ' 40 = .int .i64 i ∧ ρ' 9 = .int .i64 i ∧ ρ' 11 = .pointer (some ⟨b11, 0, none⟩) ∧ ρ' 12 = .pointer (some ⟨b12, 0, none⟩) ∧ True) ⟨h4, h6, h7, h8, h38, h39, h40, rfl, rfl, rfl, trivial⟩ ?_
        rintro ρk17 ⟨hk17_4, hk17_6, hk17_7, hk17_8, hk17_38, hk17_39, hk17_40, hk17_9, hk17_11, hk17_12, -⟩
        repeat (with_reducible first | refine c_seq ?_ | refine c_block ?_ | refine c_skip ?_ | refine x_then ?_ | refine x_block ?_)
        refine c_reg ?_
        refine l_pure rfl (s_move  hk17_6 ?_)
        refine l_pure rfl (s_move  hk17_9 ?_)
        refine l_read rfl (s_ldo (k := 1)  hk17_11 vi_37 hS rfl rfl rfl (.inl rfl) ?_)
        refine l_heavy rfl (s_call Tryz.call60 rfl (hce _) ?_)
        rintro r w4 ⟨⟨z, rfl, hz2⟩, hB4⟩
        obtain rfl := hz2 (by omega)
        replace hS := hS.grow hB4
        refine l_pure rfl (s_move  rfl ?_)
        refine l_pure rfl (s_ext  rfl rfl ?_)
        refine l_pure rfl (s_ext  rfl rfl ?_)
        refine l_pure rfl (s_ixo (i := i)  rfl rfl (by omega) (by first | omega | (simp; done) | (simp; omega)) si_25 ?_)
        refine l_heavy rfl (s_stE (k := 6) (i := i) (enc := enI) (baQ q i) (fun _ => rfl)  rfl rfl vi_2 hS rfl (by first | omega | simp) (by first | omega | (simp; done) | (simp; omega)) rfl rfl ?_)
        intro wz18 hS
        refine l_nil ?_
        repeat (with_reducible first | refine c_seq ?_ | refine c_block ?_ | refine c_skip ?_ | refine x_then ?_ | refine x_block ?_)
        replace hS : St w _ ((b12, 37, encR (ofQ (frQ q i))) :: (b11, 37, encR (ofQ (baQ q i : Rat))) :: (b10, 37, encR (l.getD i zRR)) :: [(b8, 3, (fill n i (fun j : Nat => (j : Int)) 0).flatMap enI), (b7, 22, [.slice (some ⟨bF, 0, none⟩) n n]), (bF, 37, (fill n i (fun j => ofQ (frQ q j)) zRR).flatMap encR), (b6, 2, ((fill n i (baQ q) 0).set i (baQ q i)).flatMap enI)]) := hS
        rw [g3] at hS
        repeat (with_reducible first | refine c_seq ?_ | refine c_block ?_ | refine c_skip ?_ | refine x_then ?_ | refine x_block ?_)
        refine c_reg ?_
        refine l_read rfl (s_ldo (k := 4)  hk17_7 vi_22 hS rfl rfl rfl (.inr rfl) ?_)
        refine l_pure rfl (s_move  hk17_9 ?_)
        refine l_pure rfl (s_move  hk17_8 ?_)
        refine l_pure rfl (s_move  hk17_9 ?_)
        refine l_read rfl (s_ldo (k := 0)  hk17_12 vi_37 hS rfl rfl rfl (.inl rfl) ?_)
        refine l_pure rfl (s_move  hk17_9 ?_)
        refine l_pure rfl (s_ixo (i := i)  rfl rfl (by omega) (by first | omega | (simp; done) | (simp; omega)) si_22 ?_)
        refine l_heavy rfl (s_stE (k := 5) (i := i) (enc := encR) (ofQ (frQ q i)) (fun _ => rfl)  rfl rfl vi_37 hS rfl (by first | omega | simp) (by first | omega | (simp; done) | (simp; omega)) rfl rfl ?_)
        intro wz19 hS
        refine l_pure rfl (s_ixo (i := i)  rfl rfl (by omega) (by first | omega | (simp; done) | (simp; omega)) si_65 ?_)
        refine l_heavy rfl (s_stE (k := 3) (i := i) (enc := enI) (i : Int) (fun _ => rfl)  rfl rfl vi_3 hS rfl (by first | omega | simp) (by first | omega | (simp; done) | (simp; omega)) rfl rfl ?_)
        intro wz20 hS
        refine l_nil ?_
        repeat (with_reducible first | refine c_seq ?_ | refine c_block ?_ | refine c_skip ?_ | refine x_then ?_ | refine x_block ?_)
        replace hS : St w _ ((b12, 37, encR (ofQ (frQ q i))) :: (b11, 37, encR (ofQ (baQ q i : Rat))) :: (b10, 37, encR (l.getD i zRR)) :: [(b8, 3, ((fill n i (fun j : Nat => (j : Int)) 0).set i (i : Int)).flatMap enI), (b7, 22, [.slice (some ⟨bF, 0, none⟩) n n]), (bF, 37, ((fill n i (fun j => ofQ (frQ q j)) zRR).set i (ofQ (frQ q i))).flatMap encR), (b6, 2, (fill n (i + 1) (baQ q) 0).flatMap enI)]) := hS
        rw [g1, g2] at hS
        repeat (with_reducible first | refine c_seq ?_ | refine c_block ?_ | refine c_skip ?_ | refine x_then ?_ | refine x_block ?_)
        refine c_reg ?_
        refine l_pure rfl (s_move  hk17_4 ?_)
        refine l_pure rfl (s_move  hk17_6 ?_)
        refine l_pure rfl (s_move  hk17_9 ?_)
        refine l_pure rfl (s_ixo (i := i)  rfl rfl (by omega) (by first | omega | (simp; done) | (simp; omega)) si_25 ?_)
        refine l_read rfl (s_ldE (k := 6) (i := i) (enc := enI) 0 (fun _ => rfl)  rfl vi_2 hS rfl (by first | omega | simp) (by first | omega | (simp; done) | (simp; omega)) rfl (.inr rfl) ?_)
        refine l_pure rfl (s_sub  rfl rfl (r := (T - sumZ (baQ q) (i + 1))) (by rw [g4]; exact wr_i64 _ ⟨by omega, by omega, by omega⟩) ?_)
        refine l_pure rfl (s_asg  rfl ?_)
        refine l_nil ?_
        repeat (with_reducible first | refine c_seq ?_ | refine c_block ?_ | refine c_skip ?_ | refine x_then ?_ | refine x_block ?_)
        refine c_reg ?_
        refine l_pure rfl (s_add  hk17_40 rfl (IntWalk.i64_in _ (by omega)) ?_)
        refine l_pure rfl (s_move  rfl ?_)
        refine l_nil ?_
        repeat (with_reducible first | refine c_seq ?_ | refine c_block ?_ | refine c_skip ?_ | refine x_then ?_ | refine x_block ?_)
        exact ⟨i + 1, _, rfl, ⟨hlt, rfl, by assumption, by assumption, by assumption, by assumption, by assumption, vi rfl (by omega), hS.drop (((List.sublist_cons_self _ _).trans (List.sublist_cons_self _ _)).trans (List.sublist_cons_self _ _))⟩, by omega⟩
      · refine c_no rfl (decide_eq_false (by omega)) ?_
        repeat (with_reducible first | refine c_seq ?_ | refine c_block ?_ | refine c_skip ?_ | refine x_then ?_ | refine x_block ?_)
        refine c_exit ?_
        repeat (with_reducible first | refine x_then_exit ?_ | refine x_block_exit ?_ | refine x_block_pass rfl ?_)
        repeat (with_reducible first | refine c_seq ?_ | refine c_block ?_ | refine c_skip ?_ | refine x_then ?_ | refine x_block ?_)
        obtain rfl : i = n := by omega
        exact ⟨_, rfl, h4, h6, h7, h8, hS⟩
    clear hS
    rintro ρ w2 ⟨h4, h6, h7, h8, hS⟩
    rw [← hlf] at h4
    replace hS : St w w2 [(b8, 3, (zI (List.range n)).flatMap enI), (b7, 22, [.slice (some ⟨bF, 0, none⟩) n n]), (bF, 37, (tab n fun j => ofQ (frQ q j)).flatMap encR), (b6, 2, (tab n (baQ q)).flatMap enI)] := by
      rw [fill_all, fill_all, fill_all] at hS; exact hS
    have hc : CmpOk 68 [.pointer (some ⟨b7, 0, none⟩)] (cmpB (frQ q)) (zI (List.range n)) w b8 3 [(b7, 22, [.slice (some ⟨bF, 0, none⟩) n n]), (bF, 37, (tab n fun j => ofQ (frQ q j)).flatMap encR), (b6, 2, (tab n (baQ q)).flatMap enI)] := by
      refine ⟨Tryz.call68, fun cs' u v' w' hS' hx hy => ?_⟩
      obtain ⟨i, hi, rfl⟩ := List.mem_map.1 hx
      obtain ⟨k, hk, rfl⟩ := List.mem_map.1 hy
      have hsl := hS'.sle (k := 2) (n := n) (cap := n) rfl encR_len (by rw [tab_len]; omega) (Nat.le_refl _) (by omega)
      rw [List.take_of_length_le (by rw [tab_len]; omega)] at hsl
      exact round1_ok b7 i k n (2 * K + 4) _ (frQ q) w' (hS'.at (k := 1) rfl 0 1) hsl (List.mem_range.1 hi) (List.mem_range.1 hk) hLf (by omega)
    have hsort := SortStable_ok (zI (List.range n)) hc [] n n (by rw [zI_len, List.length_range]) (by omega) w2 (by rw [List.append_nil]; exact hS)
    rw [sort_B, hJd, List.append_nil] at hsort
    have hJl : J.length = n := hord.len
    have hroom := lf_room hord
    have hl0 := lfQ_nonneg q n
    obtain ⟨m, hm⟩ : ∃ m, m = (lfQ q n).toNat := ⟨_, rfl⟩
    have hlm : lfQ q n = (m : Int) := by omega
    have hmn : m ≤ n := by rw [hm]; exact hroom.1
    rw [hlm] at h4
    have hrm : resQ q J n = rnd (baQ q) J m := by rw [hm]; rfl
    rw [hrm] at hrb ⊢
    repeat (with_reducible first | refine c_seq ?_ | refine c_block ?_ | refine c_skip ?_ | refine x_then ?_ | refine x_block ?_)
    refine c_reg ?_
    refine l_pure rfl (s_move  h8 ?_)
    refine l_pure rfl (s_mkf1  h7 ?_)
    refine l_heavy rfl (s_call Tryz.call45 rfl (hsort) ?_)
    rintro r w3 ⟨rfl, hS3⟩
    clear hS
    have hS := hS3
    refine l_nil ?_
    repeat (with_reducible first | refine c_seq ?_ | refine c_block ?_ | refine c_skip ?_ | refine x_then ?_ | refine x_block ?_)
    refine c_forget (fun ρ' => ρ' 4 = .int .i64 (m : Int) ∧ ρ' 6 = .slice (some ⟨b6, 0, none⟩) n n ∧ ρ' 8 = .slice (some ⟨b8, 0, none⟩) n n ∧ True) ⟨h4, h6, h8, trivial⟩ ?_
    rintro ρk21 ⟨hk21_4, hk21_6, hk21_8, -⟩
    repeat (with_reducible first | refine c_seq ?_ | refine c_block ?_ | refine c_skip ?_ | refine x_then ?_ | refine x_block ?_)
    refine c_reg ?_
    refine l_pure rfl (s_move  hk21_8 ?_)
    refine l_pure rfl (s_move  hk21_4 ?_)
    refine l_pure rfl (s_move  hk21_8 ?_)
    refine l_pure rfl (s_leno  rfl ⟨_, Tryz.underlying65⟩ ?_)
    refine l_pure rfl (s_min  rfl rfl ?_)
    refine l_pure rfl (s_suboh (hi := m)  rfl rfl (by omega) (by omega) si_65 ?_)
    refine l_pure rfl (s_leno  rfl ⟨_, Tryz.underlying65⟩ ?_)
    refine l_pure rfl (s_move  rfl ?_)
    refine l_nil ?_
    repeat (with_reducible first | refine c_seq ?_ | refine c_block ?_ | refine c_skip ?_ | refine x_then ?_ | refine x_block ?_)
    replace hS : St w w3 [(b8, 3, (zI J).flatMap enI), (b7, 22, [.slice (some ⟨bF, 0, none⟩) n n]), (bF, 37, (tab n fun j => ofQ (frQ q j)).flatMap encR), (b6, 2, (tab n (rnd (baQ q) J 0)).flatMap enI)] := by rw [rnd_zero]; exact hS
    refine c_loop (σ := Nat) (fun i ρ w' => i ≤ m ∧ ρ 6 = .slice (some ⟨b6, 0, none⟩) n n ∧ ρ 81 = .slice (some ⟨b8, 0, none⟩) m n ∧ ρ 82 = .int .i64 m ∧ ρ 83 = .int .i64 i ∧
        St w w' [(b8, 3, (zI J).flatMap enI), (b7, 22, [.slice (some ⟨bF, 0, none⟩) n n]), (bF, 37, (tab n fun j => ofQ (frQ q j)).flatMap encR), (b6, 2, (tab n (rnd (baQ q) J i)).flatMap enI)]) (fun i => m - i) 0
      ⟨Nat.zero_le _, by assumption, rfl, rfl, rfl, hS⟩ ?_
    clear hS h4 h6 h7 h8
    rintro i ρ w4 ⟨hi, h6, h81, h82, h83, hS⟩
    repeat (with_reducible first | refine c_seq ?_ | refine c_block ?_ | refine c_skip ?_ | refine x_then ?_ | refine x_block ?_)
    refine c_reg ?_
    refine l_pure rfl (s_lss  h83 h82 ?_)
    refine l_nil ?_
    repeat (with_reducible first | refine c_seq ?_ | refine c_block ?_ | refine c_skip ?_ | refine x_then ?_ | refine x_block ?_)
    by_cases hlt : i < m
    · refine c_yes rfl (decide_eq_true (by omega)) ?_
      repeat (with_reducible first | refine c_seq ?_ | refine c_block ?_ | refine c_skip ?_ | refine x_then ?_ | refine x_block ?_)
      have hzg := zI_get J (k := i) (by omega)
      have hjn := hord.lt (k := i) (by omega)
      have htl := tab_len n (rnd (baQ q) J i)
      have hzl := zI_len J
      have hra := rnd_at (ba := baQ q) hord.nodup (k := i) (by omega)
      have hrs := rnd_set (ba := baQ q) (l := J) (n := n) (k := i) (by omega)
      have hbj := hbb (J.getD i 0) hjn
      obtain ⟨j, hj⟩ : ∃ j, j = J.getD i 0 := ⟨_, rfl⟩
      rw [← hj] at hzg hjn hra hrs hbj
      have htg : (tab n (rnd (baQ q) J i)).getD j 0 = baQ q j := by rw [tab_get _ _ hjn, hra]
      repeat (with_reducible first | refine c_seq ?_ | refine c_block ?_ | refine c_skip ?_ | refine x_then ?_ | refine x_block ?_)
      refine c_reg ?_
      refine l_pure rfl (s_ixo (i := i)  h81 h83 (by omega) (by omega) si_65 ?_)
      refine l_read rfl (s_ldE (k := 0) (i := i) (enc := enI) 0 (fun _ => rfl)  rfl vi_3 hS rfl (by first | omega | simp) (by omega) rfl (.inr rfl) ?_)
      refine l_pure rfl (s_asg  rfl ?_)
      refine l_nil ?_
      repeat (with_reducible first | refine c_seq ?_ | refine c_block ?_ | refine c_skip ?_ | refine x_then ?_ | refine x_block ?_)
      rw [hzg]
      repeat (with_reducible first | refine c_seq ?_ | refine c_block ?_ | refine c_skip ?_ | refine x_then ?_ | refine x_block ?_)
      refine c_reg ?_
      refine l_pure rfl (s_move  h6 ?_)
      refine l_pure rfl (s_move  rfl ?_)
      refine l_pure rfl (s_ixo (i := j)  rfl rfl (by omega) (by first | omega | (simp; done) | (simp; omega)) si_25 ?_)
      refine l_read rfl (s_ldE (k := 3) (i := j) (enc := enI) 0 (fun _ => rfl)  rfl vi_2 hS rfl (by first | omega | simp) (by first | omega | (simp; done) | (simp; omega)) rfl (.inr rfl) ?_)
      refine l_pure rfl (s_add  rfl rfl (r := (baQ q j + 1)) (by rw [htg]; exact wr_i64 _ ⟨rfl, by omega, by omega⟩) ?_)
      refine l_pure rfl (s_ixo (i := j)  rfl rfl (by omega) (by first | omega | (simp; done) | (simp; omega)) si_25 ?_)
      refine l_heavy rfl (s_stE (k := 3) (i := j) (enc := enI) (baQ q j + 1) (fun _ => rfl)  rfl rfl vi_2 hS rfl (by first | omega | simp) (by first | omega | (simp; done) | (simp; omega)) rfl rfl ?_)
      intro wz22 hS
      refine l_nil ?_
      repeat (with_reducible first | refine c_seq ?_ | refine c_block ?_ | refine c_skip ?_ | refine x_then ?_ | refine x_block ?_)
      replace hS : St w _ [(b8, 3, (zI J).flatMap enI), (b7, 22, [.slice (some ⟨bF, 0, none⟩) n n]), (bF, 37, (tab n fun j => ofQ (frQ q j)).flatMap encR), (b6, 2, ((tab n (rnd (baQ q) J i)).set j (baQ q j + 1)).flatMap enI)] := hS
      rw [hrs] at hS
      repeat (with_reducible first | refine c_seq ?_ | refine c_block ?_ | refine c_skip ?_ | refine x_then ?_ | refine x_block ?_)
      refine c_reg ?_
      refine l_pure rfl (s_add  h83 rfl (IntWalk.i64_in _ (by omega)) ?_)
      refine l_pure rfl (s_move  rfl ?_)
      refine l_nil ?_
      repeat (with_reducible first | refine c_seq ?_ | refine c_block ?_ | refine c_skip ?_ | refine x_then ?_ | refine x_block ?_)
      exact ⟨i + 1, _, rfl, ⟨hlt, by assumption, by assumption, by assumption, vi rfl (by omega), hS⟩, by omega⟩
    · refine c_no rfl (decide_eq_false (by omega)) ?_
      repeat (with_reducible first | refine c_seq ?_ | refine c_block ?_ | refine c_skip ?_ | refine x_then ?_ | refine x_block ?_)
      refine c_exit ?_
      repeat (with_reducible first | refine x_then_exit ?_ | refine x_block_exit ?_ | refine x_block_pass rfl ?_)
      repeat (with_reducible first | refine c_seq ?_ | refine c_block ?_ | refine c_skip ?_ | refine x_then ?_ | refine x_block ?_)
      obtain rfl : i = m := by omega
      repeat (with_reducible first | refine c_seq ?_ | refine c_block ?_ | refine c_skip ?_ | refine x_then ?_ | refine x_block ?_)
      refine c_reg ?_
      refine l_pure rfl (s_move  h6 ?_)
      refine l_pure rfl (s_asg  rfl ?_)
      refine l_pure rfl (s_asg  rfl ?_)
      refine l_nil ?_
      repeat (with_reducible first | refine c_seq ?_ | refine c_block ?_ | refine c_skip ?_ | refine x_then ?_ | refine x_block ?_)
      refine c_ret ?_
      repeat (with_reducible first | refine x_then_ret ?_ | refine x_block_ret ?_)
      refine r_two rfl rfl rfl ?_
      exact .inr ⟨hz, b6, rfl, hS.drop (((List.sublist_cons_self _ _).trans (List.sublist_cons_self _ _)).trans (List.sublist_cons_self _ _))⟩
  · have hN : cN (sumQ (l.map toQ)) = 0 := by unfold cN; rw [← he, if_neg hz]
    rw [hN]
    refine c_yes rfl (decide_eq_true hz) ?_
    repeat (with_reducible first | refine c_seq ?_ | refine c_block ?_ | refine c_skip ?_ | refine x_then ?_ | refine x_block ?_)
    refine c_reg ?_
    refine l_pure rfl (s_move  rfl ?_)
    refine l_pure rfl (s_asg  rfl ?_)
    refine l_pure rfl (s_asg  rfl ?_)
    refine l_nil ?_
    repeat (with_reducible first | refine c_seq ?_ | refine c_block ?_ | refine c_skip ?_ | refine x_then ?_ | refine x_block ?_)
    refine c_ret ?_
    repeat (with_reducible first | refine x_then_ret ?_ | refine x_block_ret ?_)
    refine r_two rfl rfl rfl ?_
    exact .inl ⟨hz, rfl, hS.below⟩
end Go.Proofs.YtmapmdldlcfjhaaGreatDoor
namespace Go.Proofs.YtmapmdldlcfjhaaGreatDoor
open Go Go.RowKit Go.Sx
def rL (l : List RR) : List Int := if rE l = 0 then tab l.length (resC l) else []
theorem RoundR_ok (v : Value) (l : List RR) (K : Nat) (w : World) (hv : Sl encR 3 w v l) (hl : RB K l) (h20 : l.length ≤ 20) (hK : 100 * K + 200 ≤ MX) :
    Ret Tryz.prog 24 #[v] w fun r w' => (∃ v', r = .tuple #[v', .int .i64 (rE l)] ∧ Sl enI 1 w' v' (rL l)) ∧ Below w.heap.size w w' := by
  refine (Round_ok v l K w hv hl h20 hK).mono ?_
  rintro r w' (⟨h1, rfl, hB⟩ | ⟨h1, b, rfl, hS⟩)
  · refine ⟨⟨_, rfl, ?_⟩, hB⟩
    unfold rL; rw [if_neg h1]; exact Sl.nil _ _ _
  · refine ⟨⟨_, by rw [h1], ?_⟩, hS.below⟩
    have h2 := hS.sle (k := 0) (n := l.length) (cap := l.length) rfl enI_len (by rw [tab_len]; omega) (Nat.le_refl _) (by omega)
    rw [List.take_of_length_le (by rw [tab_len]; omega)] at h2
    unfold rL; rw [if_pos h1]; exact h2
def pdF (paid : List Int) (i : Nat) : Int := paid.getD i 0
def overB (res pd : Nat → Int) (n : Nat) : Bool := (List.range n).any fun i => decide (res i < pd i)
theorem overB_no {res pd : Nat → Int} {n : Nat} (h : ∀ i, i < n → pd i ≤ res i) : overB res pd n = false := by
  unfold overB
  rw [List.any_eq_false]
  intro i hi
  have := h i (List.mem_range.1 hi)
  rw [decide_eq_true_eq]; omega
theorem overB_yes {res pd : Nat → Int} {n i : Nat} (hi : i < n) (h : res i < pd i) : overB res pd n = true := by
  unfold overB
  rw [List.any_eq_true]
  exact ⟨i, List.mem_range.2 hi, decide_eq_true h⟩
def lE (paid : List Int) (fin : List RR) : Int :=
  if paid.length ≠ fin.length then 4 else if nneg paid = true then 7 else if rE fin ≠ 0 then rE fin else if overB (resC fin) (pdF paid) fin.length = true then 49 else 0
def lL (paid : List Int) (fin : List RR) : List Int := if lE paid fin = 0 then tab fin.length (fun i => resC fin i - pdF paid i) else []
def lst (res pd : Nat → Int) (i j : Nat) : Int := if j < i then res j - pd j else res j
theorem lst_set (res pd : Nat → Int) (n i : Nat) : (tab n (lst res pd i)).set i (res i - pd i) = tab n (lst res pd (i + 1)) := by
  rw [tab_set]
  refine tab_congr fun j _ => ?_
  unfold lst
  by_cases e : j = i
  · subst e; rw [if_pos rfl, if_pos (by omega)]
  · rw [if_neg e]
    by_cases g : j < i
    · rw [if_pos g, if_pos (by omega)]
    · rw [if_neg g, if_neg (by omega)]
theorem lst_zero (res pd : Nat → Int) : lst res pd 0 = res := by funext j; exact if_neg (Nat.not_lt_zero _)
theorem lst_all (res pd : Nat → Int) (n : Nat) : tab n (lst res pd n) = tab n fun i => res i - pd i := tab_congr fun _ hj => if_pos hj
theorem nneg_get {l : List Int} (h : nneg l = false) {i : Nat} (hi : i < l.length) : 0 ≤ l.getD i 0 := by
  unfold nneg at h
  rw [List.any_eq_false] at h
  have := h _ (getD_mem l i 0 hi)
  rw [decide_eq_true_eq] at this
  omega
theorem int64_get {l : List Int} (h : ∀ x ∈ l, -9223372036854775808 ≤ x ∧ x ≤ 9223372036854775807) {i : Nat} (hi : i < l.length) : -9223372036854775808 ≤ l.getD i 0 ∧ l.getD i 0 ≤ 9223372036854775807 := h _ (getD_mem l i 0 hi)
set_option maxHeartbeats 2000000 in
theorem Last_ok (vp vf : Value) (paid : List Int) (l : List RR) (K : Nat) (w : World) (hp : Sl enI 1 w vp paid) (hpb : ∀ x ∈ paid, -9223372036854775808 ≤ x ∧ x ≤ 9223372036854775807) (hv : Sl encR 3 w vf l) (hl : RB K l) (h20 : l.length ≤ 20) (hK : 100 * K + 200 ≤ MX) :
    Ret Tryz.prog 32 #[vp, vf] w fun r w' => (∃ v', r = .tuple #[v', .int .i64 (lE paid l)] ∧ Sl enI 1 w' v' (lL paid l)) ∧ Below w.heap.size w w' := by
  have hmC : mxC = 1125899906842624 := rfl
  have hno : lE paid l ≠ 0 → lL paid l = [] := fun h => if_neg h
  have hpm := hp.maxLen
  have hlm := hv.maxLen
  have hS := St.init w
  refine enter Tryz.func32 rfl Tryz.ntmps32 rfl ?_
  repeat (with_reducible first | refine c_seq ?_ | refine c_block ?_ | refine c_skip ?_ | refine x_then ?_ | refine x_block ?_)
  refine c_reg ?_
  refine l_pure rfl (s_asg  rfl ?_)
  refine l_pure rfl (s_asg  rfl ?_)
  refine l_nil ?_
  repeat (with_reducible first | refine c_seq ?_ | refine c_block ?_ | refine c_skip ?_ | refine x_then ?_ | refine x_block ?_)
  refine c_reg ?_
  refine l_pure rfl (s_move  rfl ?_)
  refine l_pure rfl (s_lenr  rfl (hp.below hS.below) ⟨_, Tryz.underlying25⟩ ?_)
  refine l_pure rfl (s_move  rfl ?_)
  refine l_pure rfl (s_lenr  rfl (hv.below hS.below) ⟨_, Tryz.underlying22⟩ ?_)
  refine l_pure rfl (s_neq  rfl rfl ?_)
  refine l_nil ?_
  repeat (with_reducible first | refine c_seq ?_ | refine c_block ?_ | refine c_skip ?_ | refine x_then ?_ | refine x_block ?_)
  by_cases hlen : paid.length = l.length
  · refine c_no rfl (decide_eq_false (by omega)) ?_
    repeat (with_reducible first | refine c_seq ?_ | refine c_block ?_ | refine c_skip ?_ | refine x_then ?_ | refine x_block ?_)
    refine c_reg ?_
    refine l_pure rfl (s_move  rfl ?_)
    refine l_heavy rfl (s_call Tryz.call73 rfl (unpaid_ok vp paid _ (hp.below hS.below)) ?_)
    rintro r w2 ⟨rfl, rfl⟩
    refine l_nil ?_
    repeat (with_reducible first | refine c_seq ?_ | refine c_block ?_ | refine c_skip ?_ | refine x_then ?_ | refine x_block ?_)
    cases hn : nneg paid with
    | true =>
      have he : lE paid l = 7 := by unfold lE; rw [if_neg (not_not_intro hlen), hn, if_pos rfl]
      refine c_yes rfl (rfl) ?_
      repeat (with_reducible first | refine c_seq ?_ | refine c_block ?_ | refine c_skip ?_ | refine x_then ?_ | refine x_block ?_)
      refine c_reg ?_
      refine l_pure rfl (s_asg  rfl ?_)
      refine l_pure rfl (s_asg  rfl ?_)
      refine l_nil ?_
      repeat (with_reducible first | refine c_seq ?_ | refine c_block ?_ | refine c_skip ?_ | refine x_then ?_ | refine x_block ?_)
      refine c_ret ?_
      repeat (with_reducible first | refine x_then_ret ?_ | refine x_block_ret ?_)
      refine r_two rfl rfl rfl ?_
      refine ⟨⟨_, by rw [he]; rfl, ?_⟩, hS.below⟩
      rw [hno (by rw [he]; decide)]; exact Sl.nil _ _ _
    | false =>
    refine c_no rfl (rfl) ?_
    repeat (with_reducible first | refine c_seq ?_ | refine c_block ?_ | refine c_skip ?_ | refine x_then ?_ | refine x_block ?_)
    refine c_reg ?_
    refine l_pure rfl (s_move  rfl ?_)
    refine l_heavy rfl (s_call Tryz.call24 rfl (Round_ok vf l K _ (hv.below hS.below) hl h20 hK) ?_)
    rintro r w3 (⟨hz, rfl, hB3⟩ | ⟨hz, b6, rfl, hS3⟩)
    · replace hS := hS.grow hB3
      have he : lE paid l = rE l := by unfold lE; rw [if_neg (not_not_intro hlen), hn, if_neg (by decide), if_pos hz]
      refine l_pure rfl (s_move  rfl ?_)
      refine l_pure rfl (s_ext  rfl rfl ?_)
      refine l_pure rfl (s_ext  rfl rfl ?_)
      refine l_pure rfl (s_asg  rfl ?_)
      refine l_pure rfl (s_asg  rfl ?_)
      refine l_nil ?_
      repeat (with_reducible first | refine c_seq ?_ | refine c_block ?_ | refine c_skip ?_ | refine x_then ?_ | refine x_block ?_)
      refine c_reg ?_
      refine l_pure rfl (s_move  rfl ?_)
      refine l_pure rfl (s_neq  rfl rfl ?_)
      refine l_nil ?_
      repeat (with_reducible first | refine c_seq ?_ | refine c_block ?_ | refine c_skip ?_ | refine x_then ?_ | refine x_block ?_)
      refine c_yes rfl (decide_eq_true hz) ?_
      repeat (with_reducible first | refine c_seq ?_ | refine c_block ?_ | refine c_skip ?_ | refine x_then ?_ | refine x_block ?_)
      refine c_reg ?_
      refine l_pure rfl (s_move  rfl ?_)
      refine l_pure rfl (s_asg  rfl ?_)
      refine l_pure rfl (s_asg  rfl ?_)
      refine l_nil ?_
      repeat (with_reducible first | refine c_seq ?_ | refine c_block ?_ | refine c_skip ?_ | refine x_then ?_ | refine x_block ?_)
      refine c_ret ?_
      repeat (with_reducible first | refine x_then_ret ?_ | refine x_block_ret ?_)
      refine r_two rfl rfl rfl ?_
      refine ⟨⟨_, by rw [he]; rfl, ?_⟩, hS.below⟩
      rw [hno (by rw [he]; exact hz)]; exact Sl.nil _ _ _
    · replace hS := (hS.join hS3).drop (List.sublist_append_left _ _)
      have hrb := fun i hi => resC_bound hz (i := i) hi
      have heO : lE paid l = if overB (resC l) (pdF paid) l.length = true then 49 else 0 := by unfold lE; rw [if_neg (not_not_intro hlen), hn, if_neg (by decide), if_neg (not_not_intro hz)]
      obtain ⟨res, hre⟩ : ∃ f, f = resC l := ⟨_, rfl⟩
      obtain ⟨n, hn'⟩ : ∃ n, n = l.length := ⟨_, rfl⟩
      have hpg : ∀ i, i < n → 0 ≤ pdF paid i ∧ pdF paid i ≤ 9223372036854775807 := fun i hi => ⟨nneg_get hn (by omega), (int64_get hpb (i := i) (by omega)).2⟩
      have hlL : lE paid l = 0 → lL paid l = tab n fun i => res i - pdF paid i := fun h => by unfold lL; rw [if_pos h, hre, hn']
      rw [← hre] at hS hrb heO
      rw [← hn'] at hS hrb heO
      rw [← lst_zero res (pdF paid)] at hS
      rw [← hn']
      refine l_pure rfl (s_move  rfl ?_)
      refine l_pure rfl (s_ext  rfl rfl ?_)
      refine l_pure rfl (s_ext  rfl rfl ?_)
      refine l_pure rfl (s_asg  rfl ?_)
      refine l_pure rfl (s_asg  rfl ?_)
      refine l_nil ?_
      repeat (with_reducible first | refine c_seq ?_ | refine c_block ?_ | refine c_skip ?_ | refine x_then ?_ | refine x_block ?_)
      refine c_reg ?_
      refine l_pure rfl (s_move  rfl ?_)
      refine l_pure rfl (s_neq  rfl rfl ?_)
      refine l_nil ?_
      repeat (with_reducible first | refine c_seq ?_ | refine c_block ?_ | refine c_skip ?_ | refine x_then ?_ | refine x_block ?_)
      refine c_no rfl (decide_eq_false (by decide)) ?_
      repeat (with_reducible first | refine c_seq ?_ | refine c_block ?_ | refine c_skip ?_ | refine x_then ?_ | refine x_block ?_)
      refine c_reg ?_
      refine l_pure rfl (s_move  rfl ?_)
      refine l_pure rfl (s_leno  rfl ⟨_, Tryz.underlying25⟩ ?_)
      refine l_pure rfl (s_move  rfl ?_)
      refine l_nil ?_
      repeat (with_reducible first | refine c_seq ?_ | refine c_block ?_ | refine c_skip ?_ | refine x_then ?_ | refine x_block ?_)
      refine c_loop (σ := Nat) (fun i ρ w' => i ≤ n ∧ (∀ k, k < i → pdF paid k ≤ res k) ∧ ρ 0 = vp ∧ ρ 6 = .slice (some ⟨b6, 0, none⟩) n n ∧ ρ 25 = .int .i64 n ∧ ρ 26 = .int .i64 i ∧ St w2 w' [(b6, 2, (tab n (lst res (pdF paid) i)).flatMap enI)]) (fun i => n - i) 0
        ⟨Nat.zero_le _, fun k hk => absurd hk (Nat.not_lt_zero k), rfl, rfl, rfl, rfl, hS⟩ ?_
      clear hS hS3
      rintro i ρ w4 ⟨hi, hq, h0, h6, h25, h26, hS⟩
      repeat (with_reducible first | refine c_seq ?_ | refine c_block ?_ | refine c_skip ?_ | refine x_then ?_ | refine x_block ?_)
      refine c_reg ?_
      refine l_pure rfl (s_lss  h26 h25 ?_)
      refine l_nil ?_
      repeat (with_reducible first | refine c_seq ?_ | refine c_block ?_ | refine c_skip ?_ | refine x_then ?_ | refine x_block ?_)
      by_cases hlt : i < n
      · refine c_yes rfl (decide_eq_true (by omega)) ?_
        repeat (with_reducible first | refine c_seq ?_ | refine c_block ?_ | refine c_skip ?_ | refine x_then ?_ | refine x_block ?_)
        have htl := tab_len n (lst res (pdF paid) i)
        have htl2 := tab_len n (lst res (pdF paid) (i + 1))
        have hset := lst_set res (pdF paid) n i
        have hg1 : (tab n (lst res (pdF paid) i)).getD i 0 = res i := by rw [tab_get _ _ hlt]; exact if_neg (Nat.lt_irrefl _)
        have hg2 : (tab n (lst res (pdF paid) (i + 1))).getD i 0 = res i - pdF paid i := by rw [tab_get _ _ hlt]; exact if_pos (Nat.lt_succ_self _)
        have hri := hrb i hlt
        have hpi := hpg i hlt
        have hpe : paid.getD i 0 = pdF paid i := rfl
        repeat (with_reducible first | refine c_seq ?_ | refine c_block ?_ | refine c_skip ?_ | refine x_then ?_ | refine x_block ?_)
        refine c_reg ?_
        refine l_pure rfl (s_move  h26 ?_)
        refine l_pure rfl (s_asg  rfl ?_)
        refine l_nil ?_
        repeat (with_reducible first | refine c_seq ?_ | refine c_block ?_ | refine c_skip ?_ | refine x_then ?_ | refine x_block ?_)
        refine c_draw [(0, .pure), (1, .pure), (2, .pure), (3, .read), (4, .pure), (5, .pure), (6, .pure), (7, .read), (8, .pure), (9, .pure), (10, .free)] (by kernel_rfl) (by kernel_rfl) hS ?_
        intro wz1 hS hBz1
        refine w_pure rfl rfl (s_move  h6 ?_)
        refine w_pure rfl rfl (s_move  rfl ?_)
        refine w_pure rfl rfl (s_ixo (i := i)  rfl rfl (by omega) (by first | omega | (simp; done) | (simp; omega)) si_25 ?_)
        refine w_read rfl rfl (s_ldE (k := 0) (i := i) (enc := enI) 0 (fun _ => rfl)  rfl vi_2 hS rfl (by first | omega | simp) (by first | omega | (simp; done) | (simp; omega)) rfl (.inr rfl) ?_)
        refine w_pure rfl rfl (s_move  h0 ?_)
        refine w_pure rfl rfl (s_move  rfl ?_)
        refine w_pure rfl rfl (s_ixr (i := i)  rfl rfl (hp.below hS.below) (by omega) (by first | omega | (simp; done) | (simp; omega)) si_25 ?_)
        refine w_read rfl rfl (s_lde (i := i) 0  rfl vi_2 (hp.below hS.below) (by first | omega | (simp; done) | (simp; omega)) rfl rfl (.inr rfl) ?_)
        refine w_pure rfl rfl (s_sub  rfl rfl (r := (res i - pdF paid i)) (by rw [hg1, hpe]; exact wr_i64 _ ⟨rfl, by omega, by omega⟩) ?_)
        refine w_pure rfl rfl (s_ixo (i := i)  rfl rfl (by omega) (by first | omega | (simp; done) | (simp; omega)) si_25 ?_)
        refine w_free rfl rfl (s_stE (k := 0) (i := i) (enc := enI) (res i - pdF paid i) (fun _ => rfl)  rfl rfl vi_2 hS rfl (by first | omega | simp) (by first | omega | (simp; done) | (simp; omega)) rfl rfl ?_)
        intro wz2 hS
        refine w_end ?_
        repeat (with_reducible first | refine c_seq ?_ | refine c_block ?_ | refine c_skip ?_ | refine x_then ?_ | refine x_block ?_)
        replace hS : St w2 _ [(b6, 2, ((tab n (lst res (pdF paid) i)).set i (res i - pdF paid i)).flatMap enI)] := hS
        rw [hset] at hS
        repeat (with_reducible first | refine c_seq ?_ | refine c_block ?_ | refine c_skip ?_ | refine x_then ?_ | refine x_block ?_)
        refine c_reg ?_
        refine l_pure rfl (s_move  h6 ?_)
        refine l_pure rfl (s_move  rfl ?_)
        refine l_pure rfl (s_ixo (i := i)  rfl rfl (by omega) (by first | omega | (simp; done) | (simp; omega)) si_25 ?_)
        refine l_read rfl (s_ldE (k := 0) (i := i) (enc := enI) 0 (fun _ => rfl)  rfl vi_2 hS rfl (by first | omega | simp) (by first | omega | (simp; done) | (simp; omega)) rfl (.inr rfl) ?_)
        refine l_pure rfl (s_lss  rfl rfl ?_)
        refine l_nil ?_
        repeat (with_reducible first | refine c_seq ?_ | refine c_block ?_ | refine c_skip ?_ | refine x_then ?_ | refine x_block ?_)
        rw [hg2]
        by_cases hov : res i - pdF paid i < 0
        · have he : lE paid l = 49 := by rw [heO, overB_yes hlt (by omega)]; rfl
          refine c_yes rfl (decide_eq_true hov) ?_
          repeat (with_reducible first | refine c_seq ?_ | refine c_block ?_ | refine c_skip ?_ | refine x_then ?_ | refine x_block ?_)
          refine c_reg ?_
          refine l_pure rfl (s_asg  rfl ?_)
          refine l_pure rfl (s_asg  rfl ?_)
          refine l_nil ?_
          repeat (with_reducible first | refine c_seq ?_ | refine c_block ?_ | refine c_skip ?_ | refine x_then ?_ | refine x_block ?_)
          refine c_ret ?_
          repeat (with_reducible first | refine x_then_ret ?_ | refine x_block_ret ?_)
          refine r_two rfl rfl rfl ?_
          refine ⟨⟨_, by rw [he]; rfl, ?_⟩, hS.below⟩
          rw [hno (by rw [he]; decide)]; exact Sl.nil _ _ _
        · refine c_no rfl (decide_eq_false hov) ?_
          repeat (with_reducible first | refine c_seq ?_ | refine c_block ?_ | refine c_skip ?_ | refine x_then ?_ | refine x_block ?_)
          refine c_reg ?_
          refine l_pure rfl (s_add  h26 rfl (IntWalk.i64_in _ (by omega)) ?_)
          refine l_pure rfl (s_move  rfl ?_)
          refine l_nil ?_
          repeat (with_reducible first | refine c_seq ?_ | refine c_block ?_ | refine c_skip ?_ | refine x_then ?_ | refine x_block ?_)
          refine ⟨i + 1, _, rfl, ⟨hlt, fun k hk => ?_, by assumption, by assumption, by assumption, vi rfl (by omega), hS⟩, by omega⟩
          by_cases e : k = i
          · subst e; omega
          · exact hq k (by omega)
      · refine c_no rfl (decide_eq_false (by omega)) ?_
        repeat (with_reducible first | refine c_seq ?_ | refine c_block ?_ | refine c_skip ?_ | refine x_then ?_ | refine x_block ?_)
        refine c_exit ?_
        repeat (with_reducible first | refine x_then_exit ?_ | refine x_block_exit ?_ | refine x_block_pass rfl ?_)
        repeat (with_reducible first | refine c_seq ?_ | refine c_block ?_ | refine c_skip ?_ | refine x_then ?_ | refine x_block ?_)
        obtain rfl : i = n := by omega
        have he : lE paid l = 0 := by rw [heO, overB_no hq]; rfl
        rw [lst_all] at hS
        repeat (with_reducible first | refine c_seq ?_ | refine c_block ?_ | refine c_skip ?_ | refine x_then ?_ | refine x_block ?_)
        refine c_reg ?_
        refine l_pure rfl (s_move  h6 ?_)
        refine l_pure rfl (s_asg  rfl ?_)
        refine l_pure rfl (s_asg  rfl ?_)
        refine l_nil ?_
        repeat (with_reducible first | refine c_seq ?_ | refine c_block ?_ | refine c_skip ?_ | refine x_then ?_ | refine x_block ?_)
        refine c_ret ?_
        repeat (with_reducible first | refine x_then_ret ?_ | refine x_block_ret ?_)
        refine r_two rfl rfl rfl ?_
        refine ⟨⟨_, by rw [he]; rfl, ?_⟩, hS.below⟩
        rw [hlL he]
        have h2 := hS.sle (k := 0) (n := i) (cap := i) rfl enI_len (by rw [tab_len]; omega) (Nat.le_refl _) (by omega)
        rwa [List.take_of_length_le (by rw [tab_len]; omega)] at h2
  · have he : lE paid l = 4 := by unfold lE; rw [if_pos hlen]
    refine c_yes rfl (decide_eq_true (by omega)) ?_
    repeat (with_reducible first | refine c_seq ?_ | refine c_block ?_ | refine c_skip ?_ | refine x_then ?_ | refine x_block ?_)
    refine c_reg ?_
    refine l_pure rfl (s_asg  rfl ?_)
    refine l_pure rfl (s_asg  rfl ?_)
    refine l_nil ?_
    repeat (with_reducible first | refine c_seq ?_ | refine c_block ?_ | refine c_skip ?_ | refine x_then ?_ | refine x_block ?_)
    refine c_ret ?_
    repeat (with_reducible first | refine x_then_ret ?_ | refine x_block_ret ?_)
    refine r_two rfl rfl rfl ?_
    refine ⟨⟨_, by rw [he]; rfl, ?_⟩, hS.below⟩
    rw [hno (by rw [he]; decide)]; exact Sl.nil _ _ _
end Go.Proofs.YtmapmdldlcfjhaaGreatDoor
namespace Go.Proofs.YtmapmdldlcfjhaaGreatDoor
open Go Go.RowKit Go.Sx
theorem cN_bound (q : Rat) : 0 ≤ cN q ∧ cN q ≤ mxC := by
  have hmC : mxC = 1125899906842624 := rfl
  unfold cN
  split
  · next h =>
    unfold cE at h
    split at h
    · cases h
    · next h1 =>
      split at h
      · cases h
      · have := flC_nonneg (Rat.not_lt.1 h1); omega
  · omega
def iE (paid : List Int) (safe : List RR) : Int := if paid.length ≠ safe.length then 4 else if nneg paid = true ∨ negs safe = true then 7 else firstE (fun r => cE (toQ r)) safe
def iV (paid : List Int) (safe : List RR) (i : Nat) : Int := max (cN (toQ (safe.getD i zRR)) - pdF paid i) 0
def iL (paid : List Int) (safe : List RR) : List Int := if iE paid safe = 0 then tab safe.length (iV paid safe) else []
set_option maxHeartbeats 2000000 in
theorem Interim_own (vp vf : Value) (paid : List Int) (l : List RR) (K : Nat) (w : World) (hp : Sl enI 1 w vp paid) (hpb : ∀ x ∈ paid, -9223372036854775808 ≤ x ∧ x ≤ 9223372036854775807) (hv : Sl encR 3 w vf l) (hl : RB K l) (h20 : l.length ≤ 20) (hK : 100 * K + 200 ≤ MX) :
    Ret Tryz.prog 35 #[vp, vf] w fun r w' => ∃ v' LO, r = .tuple #[v', .int .i64 (iE paid l)] ∧ Gl enI 2 1 v' (iL paid l) LO ∧ St w w' ([] ++ LO) := by
  have hmC : mxC = 1125899906842624 := rfl
  have hno : iE paid l ≠ 0 → iL paid l = [] := fun h => if_neg h
  have hpm := hp.maxLen
  have hlm := hv.maxLen
  have hS := St.init w
  refine enter Tryz.func35 rfl Tryz.ntmps35 rfl ?_
  repeat (with_reducible first | refine c_seq ?_ | refine c_block ?_ | refine c_skip ?_ | refine x_then ?_ | refine x_block ?_)
  refine c_reg ?_
  refine l_pure rfl (s_asg  rfl ?_)
  refine l_pure rfl (s_asg  rfl ?_)
  refine l_nil ?_
  repeat (with_reducible first | refine c_seq ?_ | refine c_block ?_ | refine c_skip ?_ | refine x_then ?_ | refine x_block ?_)
  refine c_reg ?_
  refine l_pure rfl (s_move  rfl ?_)
  refine l_pure rfl (s_lenr  rfl (hp.below hS.below) ⟨_, Tryz.underlying25⟩ ?_)
  refine l_pure rfl (s_move  rfl ?_)
  refine l_pure rfl (s_lenr  rfl (hv.below hS.below) ⟨_, Tryz.underlying22⟩ ?_)
  refine l_pure rfl (s_neq  rfl rfl ?_)
  refine l_nil ?_
  repeat (with_reducible first | refine c_seq ?_ | refine c_block ?_ | refine c_skip ?_ | refine x_then ?_ | refine x_block ?_)
  by_cases hlen : paid.length = l.length
  · refine c_no rfl (decide_eq_false (by omega)) ?_
    repeat (with_reducible first | refine c_seq ?_ | refine c_block ?_ | refine c_skip ?_ | refine x_then ?_ | refine x_block ?_)
    refine c_reg ?_
    refine l_pure rfl (s_move  rfl ?_)
    refine l_heavy rfl (s_call Tryz.call73 rfl (unpaid_ok vp paid _ (hp.below hS.below)) ?_)
    rintro r w2 ⟨rfl, rfl⟩
    cases hn : nneg paid with
    | true =>
      have he : iE paid l = 7 := by unfold iE; rw [if_neg (not_not_intro hlen), if_pos (.inl hn)]
      refine l_pure rfl (s_move  rfl ?_)
      refine l_no (gno_yes 18 (by kernel_rfl) rfl rfl) ?_
      refine l_no (gno_yes 18 (by kernel_rfl) rfl rfl) ?_
      refine l_pure rfl (s_pick (vb rfl rfl) rfl ?_)
      refine l_nil ?_
      repeat (with_reducible first | refine c_seq ?_ | refine c_block ?_ | refine c_skip ?_ | refine x_then ?_ | refine x_block ?_)
      refine c_yes rfl (rfl) ?_
      repeat (with_reducible first | refine c_seq ?_ | refine c_block ?_ | refine c_skip ?_ | refine x_then ?_ | refine x_block ?_)
      refine c_reg ?_
      refine l_pure rfl (s_asg  rfl ?_)
      refine l_pure rfl (s_asg  rfl ?_)
      refine l_nil ?_
      repeat (with_reducible first | refine c_seq ?_ | refine c_block ?_ | refine c_skip ?_ | refine x_then ?_ | refine x_block ?_)
      refine c_ret ?_
      repeat (with_reducible first | refine x_then_ret ?_ | refine x_block_ret ?_)
      refine r_two rfl rfl rfl ?_
      refine ⟨_, [], by rw [he]; rfl, ?_, hS.drop (List.nil_sublist _)⟩
      rw [hno (by rw [he]; decide)]; exact Gl.nil _ _ _
    | false =>
    refine l_pure rfl (s_move  rfl ?_)
    refine l_pure (gd_yes 18 (by kernel_rfl) rfl rfl) (s_move  rfl ?_)
    refine l_heavy (gd_yes 18 (by kernel_rfl) rfl rfl) (s_call Tryz.call67 rfl (pnegative_ok vf l _ (hv.below hS.below) (RB_mono hl (by omega))) ?_)
    rintro r w3 ⟨rfl, hB3⟩
    replace hS := hS.grow hB3
    refine l_pure rfl (s_pick (vb rfl rfl) rfl ?_)
    refine l_nil ?_
    repeat (with_reducible first | refine c_seq ?_ | refine c_block ?_ | refine c_skip ?_ | refine x_then ?_ | refine x_block ?_)
    cases hn2 : negs l with
    | true =>
      have he : iE paid l = 7 := by unfold iE; rw [if_neg (not_not_intro hlen), if_pos (.inr hn2)]
      refine c_yes rfl (rfl) ?_
      repeat (with_reducible first | refine c_seq ?_ | refine c_block ?_ | refine c_skip ?_ | refine x_then ?_ | refine x_block ?_)
      refine c_reg ?_
      refine l_pure rfl (s_asg  rfl ?_)
      refine l_pure rfl (s_asg  rfl ?_)
      refine l_nil ?_
      repeat (with_reducible first | refine c_seq ?_ | refine c_block ?_ | refine c_skip ?_ | refine x_then ?_ | refine x_block ?_)
      refine c_ret ?_
      repeat (with_reducible first | refine x_then_ret ?_ | refine x_block_ret ?_)
      refine r_two rfl rfl rfl ?_
      refine ⟨_, [], by rw [he]; rfl, ?_, hS.drop (List.nil_sublist _)⟩
      rw [hno (by rw [he]; decide)]; exact Gl.nil _ _ _
    | false =>
    refine c_no rfl (rfl) ?_
    repeat (with_reducible first | refine c_seq ?_ | refine c_block ?_ | refine c_skip ?_ | refine x_then ?_ | refine x_block ?_)
    have heO : iE paid l = firstE (fun r => cE (toQ r)) l := by
      unfold iE
      rw [if_neg (not_not_intro hlen), if_neg (by rw [hn, hn2]; decide)]
    repeat (with_reducible first | refine c_seq ?_ | refine c_block ?_ | refine c_skip ?_ | refine x_then ?_ | refine x_block ?_)
    refine c_reg ?_
    refine l_pure rfl (s_asg  rfl ?_)
    refine l_nil ?_
    repeat (with_reducible first | refine c_seq ?_ | refine c_block ?_ | refine c_skip ?_ | refine x_then ?_ | refine x_block ?_)
    refine c_reg ?_
    refine l_pure rfl (s_move  rfl ?_)
    refine l_pure rfl (s_lenr  rfl (hv.below hS.below) ⟨_, Tryz.underlying22⟩ ?_)
    refine l_pure rfl (s_move  rfl ?_)
    refine l_nil ?_
    repeat (with_reducible first | refine c_seq ?_ | refine c_block ?_ | refine c_skip ?_ | refine x_then ?_ | refine x_block ?_)
    refine c_loop (σ := Nat) (fun i ρ w' => i ≤ l.length ∧ firstE (fun r => cE (toQ r)) (l.take i) = 0 ∧ ρ 0 = vp ∧ ρ 22 = vf ∧ ρ 23 = .int .i64 l.length ∧ ρ 24 = .int .i64 i ∧ ∃ sO LO, ρ 6 = sO ∧ Gl enI 2 1 sO (tab i (iV paid l)) LO ∧ St w2 w' ([] ++ LO)) (fun i => l.length - i) 0
      ⟨Nat.zero_le _, rfl, rfl, rfl, rfl, rfl, ⟨_, [], rfl, Gl.nil _ _ _, hS⟩⟩ ?_
    clear hS
    rintro i ρ w4 ⟨hi, hf, h0, h22, h23, h24, sO, LO, h6, hG, hS⟩
    have htl := tab_len i (iV paid l)
    repeat (with_reducible first | refine c_seq ?_ | refine c_block ?_ | refine c_skip ?_ | refine x_then ?_ | refine x_block ?_)
    refine c_reg ?_
    refine l_pure rfl (s_lss  h24 h23 ?_)
    refine l_nil ?_
    repeat (with_reducible first | refine c_seq ?_ | refine c_block ?_ | refine c_skip ?_ | refine x_then ?_ | refine x_block ?_)
    by_cases hlt : i < l.length
    · refine c_yes rfl (decide_eq_true (by omega)) ?_
      repeat (with_reducible first | refine c_seq ?_ | refine c_block ?_ | refine c_skip ?_ | refine x_then ?_ | refine x_block ?_)
      obtain ⟨e1, e2⟩ := firstE_step (fun r => cE (toQ r)) l zRR hlt hf
      have hLi := hl _ (getD_mem l i zRR hlt)
      have hcb := cN_bound (toQ (l.getD i zRR))
      have hpi : 0 ≤ pdF paid i ∧ pdF paid i ≤ 9223372036854775807 := ⟨nneg_get hn (by omega), (int64_get hpb (i := i) (by omega)).2⟩
      have hpe : paid.getD i 0 = pdF paid i := rfl
      repeat (with_reducible first | refine c_seq ?_ | refine c_block ?_ | refine c_skip ?_ | refine x_then ?_ | refine x_block ?_)
      refine c_reg ?_
      refine l_pure rfl (s_move  h24 ?_)
      refine l_pure rfl (s_ixr (i := i)  h22 h24 (hv.below hS.below) (by omega) (by first | omega | (simp; done) | (simp; omega)) si_22 ?_)
      refine l_read rfl (s_lde (i := i) zRR  rfl vi_37 (hv.below hS.below) (by first | omega | (simp; done) | (simp; omega)) rfl rfl (.inl rfl) ?_)
      refine l_heavy rfl (s_alloc  vi_37 hS ?_)
      intro b8 wz1 hS hBz1
      refine l_pure rfl (s_asg  rfl ?_)
      refine l_heavy rfl (s_sta (k := 0)  rfl rfl vi_37 hS rfl rfl rfl (Nat.le_of_ble_eq_true rfl) rfl ?_)
      intro wz2 hS
      refine l_nil ?_
      repeat (with_reducible first | refine c_seq ?_ | refine c_block ?_ | refine c_skip ?_ | refine x_then ?_ | refine x_block ?_)
      replace hS : St w2 _ ([(b8, 37, encR (l.getD i zRR))] ++ LO) := hS
      repeat (with_reducible first | refine c_seq ?_ | refine c_block ?_ | refine c_skip ?_ | refine x_then ?_ | refine x_block ?_)
      refine c_reg ?_
      refine l_read rfl (s_ldo (k := 0)  rfl vi_37 hS rfl rfl rfl (.inl rfl) ?_)
      refine l_heavy rfl (s_call Tryz.call20 rfl (Cents_ok (l.getD i zRR) _ (by omega)) ?_)
      rintro _ wc3 ⟨rfl, hBc3⟩
      replace hS := hS.grow hBc3
      refine l_pure rfl (s_move  rfl ?_)
      refine l_pure rfl (s_ext  rfl rfl ?_)
      refine l_pure rfl (s_ext  rfl rfl ?_)
      refine l_pure rfl (s_asg  rfl ?_)
      refine l_pure rfl (s_asg  rfl ?_)
      refine l_nil ?_
      repeat (with_reducible first | refine c_seq ?_ | refine c_block ?_ | refine c_skip ?_ | refine x_then ?_ | refine x_block ?_)
      refine c_reg ?_
      refine l_pure rfl (s_move  rfl ?_)
      refine l_pure rfl (s_neq  rfl rfl ?_)
      refine l_nil ?_
      repeat (with_reducible first | refine c_seq ?_ | refine c_block ?_ | refine c_skip ?_ | refine x_then ?_ | refine x_block ?_)
      by_cases hc : cE (toQ (l.getD i zRR)) = 0
      · refine c_no rfl (decide_eq_false (not_not_intro hc)) ?_
        repeat (with_reducible first | refine c_seq ?_ | refine c_block ?_ | refine c_skip ?_ | refine x_then ?_ | refine x_block ?_)
        refine c_reg ?_
        refine l_pure rfl (s_move  h6 ?_)
        refine l_pure rfl (s_move  rfl ?_)
        refine l_pure rfl (s_move  h0 ?_)
        refine l_pure rfl (s_move  rfl ?_)
        refine l_pure rfl (s_ixr (i := i)  rfl rfl (hp.below hS.below) (by omega) (by first | omega | (simp; done) | (simp; omega)) si_25 ?_)
        refine l_read rfl (s_lde (i := i) 0  rfl vi_2 (hp.below hS.below) (by first | omega | (simp; done) | (simp; omega)) rfl rfl (.inr rfl) ?_)
        refine l_pure rfl (s_sub  rfl rfl (r := (cN (toQ (l.getD i zRR)) - pdF paid i)) (by rw [hpe]; exact wr_i64 _ ⟨rfl, by omega, by omega⟩) ?_)
        refine l_pure rfl (s_max  rfl rfl ?_)
        refine l_heavy rfl (s_bsl (vs := [.int .i64 (iV paid l i)])  rfl si_25 rfl (by decide) (by decide) (by decide) (by simp [Value.cells]) rfl hS ?_)
        intro bx wz4 hS hBz4
        refine l_heavy rfl (s_appl [iV paid l i]  rfl rfl si_25 (by decide) hG hS rfl rfl enI_len (enI_one [iV paid l i]) (by first | omega | (simp only [List.length_cons, List.length_nil]; omega)) (by first | omega | (simp only [List.length_cons, List.length_nil]; omega)) ?_)
        intro va5 La5 wa5 hG hS hga5
        refine l_pure rfl (s_asg  rfl ?_)
        refine l_nil ?_
        repeat (with_reducible first | refine c_seq ?_ | refine c_block ?_ | refine c_skip ?_ | refine x_then ?_ | refine x_block ?_)
        rw [← tab_succ] at hG
        repeat (with_reducible first | refine c_seq ?_ | refine c_block ?_ | refine c_skip ?_ | refine x_then ?_ | refine x_block ?_)
        refine c_reg ?_
        refine l_pure rfl (s_add  h24 rfl (IntWalk.i64_in _ (by omega)) ?_)
        refine l_pure rfl (s_move  rfl ?_)
        refine l_nil ?_
        repeat (with_reducible first | refine c_seq ?_ | refine c_block ?_ | refine c_skip ?_ | refine x_then ?_ | refine x_block ?_)
        exact ⟨i + 1, _, rfl, ⟨hlt, e1 hc, by assumption, by assumption, by assumption, vi rfl (by omega), ⟨_, _, rfl, hG, hS.drop (List.sublist_cons_self _ _)⟩⟩, by omega⟩
      · have he : iE paid l = cE (toQ (l.getD i zRR)) := by rw [heO]; exact e2 hc
        refine c_yes rfl (decide_eq_true hc) ?_
        repeat (with_reducible first | refine c_seq ?_ | refine c_block ?_ | refine c_skip ?_ | refine x_then ?_ | refine x_block ?_)
        refine c_reg ?_
        refine l_pure rfl (s_move  rfl ?_)
        refine l_pure rfl (s_asg  rfl ?_)
        refine l_pure rfl (s_asg  rfl ?_)
        refine l_nil ?_
        repeat (with_reducible first | refine c_seq ?_ | refine c_block ?_ | refine c_skip ?_ | refine x_then ?_ | refine x_block ?_)
        refine c_ret ?_
        repeat (with_reducible first | refine x_then_ret ?_ | refine x_block_ret ?_)
        refine r_two rfl rfl rfl ?_
        refine ⟨_, [], by rw [he]; rfl, ?_, hS.drop (List.nil_sublist _)⟩
        rw [hno (by rw [he]; exact hc)]; exact Gl.nil _ _ _
    · refine c_no rfl (decide_eq_false (by omega)) ?_
      repeat (with_reducible first | refine c_seq ?_ | refine c_block ?_ | refine c_skip ?_ | refine x_then ?_ | refine x_block ?_)
      refine c_exit ?_
      repeat (with_reducible first | refine x_then_exit ?_ | refine x_block_exit ?_ | refine x_block_pass rfl ?_)
      repeat (with_reducible first | refine c_seq ?_ | refine c_block ?_ | refine c_skip ?_ | refine x_then ?_ | refine x_block ?_)
      obtain rfl : i = l.length := by omega
      rw [List.take_length] at hf
      have he : iE paid l = 0 := by rw [heO, hf]
      repeat (with_reducible first | refine c_seq ?_ | refine c_block ?_ | refine c_skip ?_ | refine x_then ?_ | refine x_block ?_)
      refine c_reg ?_
      refine l_pure rfl (s_move  h6 ?_)
      refine l_pure rfl (s_asg  rfl ?_)
      refine l_pure rfl (s_asg  rfl ?_)
      refine l_nil ?_
      repeat (with_reducible first | refine c_seq ?_ | refine c_block ?_ | refine c_skip ?_ | refine x_then ?_ | refine x_block ?_)
      refine c_ret ?_
      repeat (with_reducible first | refine x_then_ret ?_ | refine x_block_ret ?_)
      refine r_two rfl rfl rfl ?_
      refine ⟨_, LO, by rw [he]; rfl, ?_, hS⟩
      unfold iL
      rw [if_pos he]
      exact hG
  · have he : iE paid l = 4 := by unfold iE; rw [if_pos hlen]
    refine c_yes rfl (decide_eq_true (by omega)) ?_
    repeat (with_reducible first | refine c_seq ?_ | refine c_block ?_ | refine c_skip ?_ | refine x_then ?_ | refine x_block ?_)
    refine c_reg ?_
    refine l_pure rfl (s_asg  rfl ?_)
    refine l_pure rfl (s_asg  rfl ?_)
    refine l_nil ?_
    repeat (with_reducible first | refine c_seq ?_ | refine c_block ?_ | refine c_skip ?_ | refine x_then ?_ | refine x_block ?_)
    refine c_ret ?_
    repeat (with_reducible first | refine x_then_ret ?_ | refine x_block_ret ?_)
    refine r_two rfl rfl rfl ?_
    refine ⟨_, [], by rw [he]; rfl, ?_, hS.drop (List.nil_sublist _)⟩
    rw [hno (by rw [he]; decide)]; exact Gl.nil _ _ _
end Go.Proofs.YtmapmdldlcfjhaaGreatDoor
namespace Go.Proofs.YtmapmdldlcfjhaaGreatDoor
open Go Go.RowKit Go.Sx
def Q13 : RR := ofQ (mkRat 1 3)
def T3 : List RR := [Q13, Q13, Q13]
def T1 : List RR := [Q13]
def q13 (n i : Nat) : Rat := if i < n then hdQ (mkRat 1 3) else 0
theorem hd_zero : hdQ (toQ zRR) = 0 := by rw [toQ_zRR]; exact Rat.zero_mul _
theorem qC_T3 : qC T3 = q13 3 := by
  funext i
  unfold qC q13
  match i with
  | 0 => show hdQ (toQ Q13) = _; unfold Q13; rw [toQ_ofQ]; rfl
  | 1 => show hdQ (toQ Q13) = _; unfold Q13; rw [toQ_ofQ]; rfl
  | 2 => show hdQ (toQ Q13) = _; unfold Q13; rw [toQ_ofQ]; rfl
  | i + 3 => rw [if_neg (by omega)]; exact hd_zero
theorem qC_T1 : qC T1 = q13 1 := by
  funext i
  unfold qC q13
  match i with
  | 0 => show hdQ (toQ Q13) = _; unfold Q13; rw [toQ_ofQ]; rfl
  | i + 1 => rw [if_neg (by omega)]; exact hd_zero
theorem map_T3 : T3.map toQ = [mkRat 1 3, mkRat 1 3, mkRat 1 3] := by
  show [toQ Q13, toQ Q13, toQ Q13] = _
  unfold Q13; rw [toQ_ofQ]
theorem map_T1 : T1.map toQ = [mkRat 1 3] := by
  show [toQ Q13] = _
  unfold Q13; rw [toQ_ofQ]
theorem not_neg13 : ¬ toQ Q13 < 0 := by
  unfold Q13; rw [toQ_ofQ]; decide +kernel
theorem negs_T3 : negs T3 = false := by
  show (decide (toQ Q13 < 0) || (decide (toQ Q13 < 0) || (decide (toQ Q13 < 0) || false))) = false
  rw [decide_eq_false not_neg13]; rfl
theorem negs_T1 : negs T1 = false := by
  show (decide (toQ Q13 < 0) || false) = false
  rw [decide_eq_false not_neg13]; rfl
theorem rE_T3 : rE T3 = 0 := by
  unfold rE
  rw [if_neg (by decide), negs_T3, if_neg (by decide), map_T3]
  decide +kernel
theorem rE_T1 : rE T1 = 0 := by
  unfold rE
  rw [if_neg (by decide), negs_T1, if_neg (by decide), map_T1]
  decide +kernel
theorem rL_T3 : rL T3 = [34, 33, 33] := by
  unfold rL
  rw [if_pos rE_T3]
  unfold resC ordC
  rw [qC_T3]
  decide +kernel
theorem lE_T1 : lE [33] T1 = 0 := by
  unfold lE
  rw [if_neg (by decide), if_neg (by decide), if_neg (not_not_intro rE_T1)]
  unfold resC ordC
  rw [qC_T1]
  decide +kernel
theorem lL_T1 : lL [33] T1 = [0] := by
  unfold lL
  rw [if_pos lE_T1]
  unfold resC ordC
  rw [qC_T1]
  decide +kernel
theorem RB_Q13 : Lr Q13 ≤ 1 := by
  unfold Q13; rw [Lr_ofQ]
  exact L_mkRat 1 (by decide) (natS_size_le (by decide)) (natS_size_le (by decide))
end Go.Proofs.YtmapmdldlcfjhaaGreatDoor
