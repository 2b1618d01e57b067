/-
  Part 4 of the texts that the law's proof is made of: the framework and the walks.
-/
import Derived.Test.YtmghobajmhdbfaaGreatDoorPd3
namespace Go.Proofs.YtmghobajmhdbfaaGreatDoor
open Go Go.RowKit Go.Sx
/-- What stands in the slots throughout. -/
structure LF (ρ : Nat → Value) (n s m M bu bv bq : Nat) : Prop where
  h6 : ρ 6 = .int .i64 n
  h7 : ρ 7 = .int .u64 s
  h8 : ρ 8 = .slice (some ⟨bu, 0, none⟩) (m + 1) (m + 1)
  h9 : ρ 9 = .slice (some ⟨bv, 0, none⟩) n (n + 1)
  h10 : ρ 10 = .slice (some ⟨bq, 0, none⟩) M M
theorem set2 (a b c d : Blk) : [a, b, c].set 2 d = [a, b, d] := rfl
theorem and_low (t : Nat) (h : t ≤ 18446744073709551615) : bitres .and .u64 (t : Int) 4294967295 = ((t % 4294967296 : Nat) : Int) := by
  rw [show t % 4294967296 = t &&& 4294967295 from (Nat.and_two_pow_sub_one_eq_mod t 32).symm]
  exact and_nat rfl t 4294967295 (by show t < 18446744073709551616; omega) (by decide)
theorem top_sub (x y : Nat) (hx : x ≤ 4294967295) (hy : y ≤ 4294967296) : IntKind.u32.wrap (IntKind.u64.wrap ((x : Int) - (y : Int))) = (((x + 4294967296 - y) % 4294967296 : Nat) : Int) := by
  rw [wrapm_u64, wrapm_u32]; omega
theorem top_borrow (x y : Nat) (hx : x ≤ 4294967295) (hy : y ≤ 4294967296) : (x + 4294967296 - y) % 4294967296 + y = x + 4294967296 * (if x < y then 1 else 0) := by
  rcases Nat.lt_or_ge x y with h | h
  · rw [if_pos h]; omega
  · rw [if_neg (by omega)]; omega
set_option maxHeartbeats 4000000 in
theorem rlong_ok (vx vy : Value) (X Y : Nat) (w : World) (hx : Sl (uk .u32) 1 w vx (limb X)) (hy : Sl (uk .u32) 1 w vy (limb Y)) (hYX : Y ≤ X) (hn2 : 2 ≤ (limb Y).length) (hmx : (limb X).length ≤ 4398046511104) :
    Ret Tryz.prog 114 #[vx, vy] w fun r w' => (∃ q s, r = .tuple #[q, s] ∧ Sl (uk .u32) 1 w' q (limb (X / Y)) ∧ Sl (uk .u32) 1 w' s (limb (X % Y))) ∧ Below w.heap.size w w' := by
  have hB : B32 = 4294967296 := rfl
  have hS := St.init w
  obtain ⟨m, hm⟩ : ∃ m, m = (limb X).length := ⟨_, rfl⟩
  obtain ⟨n, hn⟩ : ∃ n, n = (limb Y).length := ⟨_, rfl⟩
  obtain ⟨M, hM⟩ : ∃ M, M = m - n + 1 := ⟨_, rfl⟩
  have hXm : X < B32 ^ m := hm ▸ limb_lt_pow X
  have hYn : Y < B32 ^ n := hn ▸ limb_lt_pow Y
  have hnm : n ≤ m := by rw [hn, hm]; exact digs_length_mono (by decide) hYX
  have hY0 : 0 < Y := by
    rcases Nat.eq_zero_or_pos Y with h | h
    · rw [h] at hn2; unfold limb at hn2; rw [digs_zero] at hn2; exact absurd hn2 (by decide)
    · exact h
  obtain ⟨hn0, htp⟩ := top_pos hY0
  rw [← hn] at hn0 htp hn2
  have htl := limb_le Y (n - 1)
  obtain ⟨x, hxe⟩ : ∃ x, x = dgt B32 Y (n - 1) := ⟨_, rfl⟩
  rw [← hxe] at htp htl
  refine enter Tryz.func114 rfl Tryz.ntmps114 rfl ?_
  repeat (with_reducible first | refine c_seq ?_ | refine c_block ?_ | refine c_skip ?_ | refine x_then ?_ | refine x_block ?_)
  refine c_reg ?_
  refine l_pure rfl (s_asg  rfl ?_)
  refine l_pure rfl (s_asg  rfl ?_)
  refine l_nil ?_
  repeat (with_reducible first | refine c_seq ?_ | refine c_block ?_ | refine c_skip ?_ | refine x_then ?_ | refine x_block ?_)
  refine c_reg ?_
  refine l_pure rfl (s_move  rfl ?_)
  refine l_pure rfl (s_lenr  rfl (hy.below hS.below) ⟨_, Tryz.underlying91⟩ ?_)
  refine l_pure rfl (s_asg  rfl ?_)
  refine l_nil ?_
  repeat (with_reducible first | refine c_seq ?_ | refine c_block ?_ | refine c_skip ?_ | refine x_then ?_ | refine x_block ?_)
  refine c_reg ?_
  refine l_pure rfl (s_asg  rfl ?_)
  refine l_nil ?_
  repeat (with_reducible first | refine c_seq ?_ | refine c_skip ?_ | refine x_then ?_ | refine x_block ?_)
  refine c_cut1 (fun ρ w' => ∃ s : Nat, s < 32 ∧ x * 2 ^ s < B32 ∧ B32 ≤ 2 * (x * 2 ^ s) ∧ ρ 0 = vx ∧ ρ 1 = vy ∧ ρ 6 = .int .i64 n ∧ ρ 7 = .int .u64 s ∧ St w w' []) ?_ ?_
  · repeat (with_reducible first | refine c_seq ?_ | refine c_block ?_ | refine c_skip ?_ | refine x_then ?_ | refine x_block ?_)
    refine c_loop (σ := Nat) (fun s ρ w' => s < 32 ∧ x * 2 ^ s < B32 ∧ ρ 0 = vx ∧ ρ 1 = vy ∧ ρ 6 = .int .i64 n ∧ ρ 7 = .int .u64 s ∧ St w w' []) (fun s => 32 - s) 0
      ⟨by decide, by simp only [Nat.pow_zero, Nat.mul_one]; omega, rfl, rfl, vi rfl (by rw [hn]), rfl, hS⟩ ?_
    clear hS
    rintro s ρ w2 ⟨hs, hxs, h0, h1, h6, h7, hS⟩
    repeat (with_reducible first | refine c_seq ?_ | refine c_block ?_ | refine c_skip ?_ | refine x_then ?_ | refine x_block ?_)
    refine c_reg ?_
    refine l_pure rfl (s_move  h1 ?_)
    refine l_pure rfl (s_move  h6 ?_)
    refine l_pure rfl (s_sub  rfl rfl (IntWalk.i64_in _ (by omega)) ?_)
    refine l_pure rfl (s_ixr (i := n - 1)  rfl rfl (hy.below hS.below) (by omega) (by first | omega | (simp; done) | (simp; omega)) si_91 ?_)
    refine l_read rfl (s_lde (i := n - 1) 0  rfl vi_94 (hy.below hS.below) (by first | omega | (simp; done) | (simp; omega)) rfl rfl (.inr rfl) ?_)
    refine l_pure rfl (s_move  h7 ?_)
    refine l_pure rfl (s_shl  rfl rfl (by omega) (r := ((x * 2 ^ s : Nat) : Int)) (by rw [limb_getD, ← hxe]; exact shl_v x s _ (by show s ≤ 32; omega) (wr_u32 _ ⟨rfl, by omega, by omega⟩)) ?_)
    refine l_pure rfl (s_lss  rfl rfl ?_)
    refine l_nil ?_
    repeat (with_reducible first | refine c_seq ?_ | refine c_block ?_ | refine c_skip ?_ | refine x_then ?_ | refine x_block ?_)
    by_cases hlt : x * 2 ^ s < 2147483648
    · refine c_yes rfl (decide_eq_true (by omega)) ?_
      repeat (with_reducible first | refine c_seq ?_ | refine c_block ?_ | refine c_skip ?_ | refine x_then ?_ | refine x_block ?_)
      have hs2 : s + 1 < 32 := by
        rcases Nat.lt_or_ge (s + 1) 32 with g | g
        · exact g
        · exfalso
          obtain rfl : s = 31 := by omega
          have : 1 * 2 ^ 31 ≤ x * 2 ^ 31 := Nat.mul_le_mul_right _ htp
          omega
      repeat (with_reducible first | refine c_seq ?_ | refine c_block ?_ | refine c_skip ?_ | refine x_then ?_ | refine x_block ?_)
      refine c_reg ?_
      refine l_pure rfl (s_move  h7 ?_)
      refine l_pure rfl (s_add  rfl rfl (IntWalk.u64_in _ (by omega)) ?_)
      refine l_pure rfl (s_asg  rfl ?_)
      refine l_nil ?_
      repeat (with_reducible first | refine c_seq ?_ | refine c_block ?_ | refine c_skip ?_ | refine x_then ?_ | refine x_block ?_)
      refine ⟨s + 1, _, rfl, ⟨hs2, ?_, h0, h1, h6, vi rfl (by omega), hS⟩, by omega⟩
      rw [Nat.pow_succ, ← Nat.mul_assoc]; omega
    · refine c_no rfl (decide_eq_false (by omega)) ?_
      repeat (with_reducible first | refine c_seq ?_ | refine c_block ?_ | refine c_skip ?_ | refine x_then ?_ | refine x_block ?_)
      refine c_exit ?_
      repeat (with_reducible first | refine x_then_exit ?_ | refine x_block_exit ?_ | refine x_block_pass rfl ?_)
      repeat (with_reducible first | refine c_seq ?_ | refine c_block ?_ | refine c_skip ?_ | refine x_then ?_ | refine x_block ?_)
      exact ⟨_, rfl, s, hs, hxs, by omega, h0, h1, h6, h7, hS⟩
  clear hS
  rintro ρ w2 ⟨s, hs, hxs, hxs2, h0, h1, h6, h7, hS⟩
  repeat (with_reducible first | refine c_seq ?_ | refine c_block ?_ | refine c_skip ?_ | refine x_then ?_ | refine x_block ?_)
  rw [hxe] at hxs hxs2
  obtain ⟨hD, hD2⟩ := norm_law hn0 hYn hs hxs hxs2
  have hpc : 0 < 2 ^ s := Nat.pow_pos (by decide)
  have hpc2 : 2 ^ s ≤ 2 ^ 31 := Nat.pow_le_pow_right (by decide) (by omega)
  obtain ⟨D, hDe⟩ : ∃ D, D = Y * 2 ^ s := ⟨_, rfl⟩
  rw [← hDe] at hD hD2
  have hD0 : 0 < D := by rw [hDe]; exact Nat.mul_pos hY0 hpc
  have hUD : X * 2 ^ s < D * B32 ^ (m - n + 1) := by
    have h3 : X * 2 ^ s < B32 ^ m * 2 ^ s := Nat.mul_lt_mul_of_pos_right hXm hpc
    have h4 : B32 ^ m * 2 ^ s ≤ B32 ^ m * 2 ^ 31 := Nat.mul_le_mul_left _ hpc2
    have h5 : B32 ^ n * B32 ^ (m - n + 1) = B32 ^ m * B32 := by rw [← Nat.pow_add, ← Nat.pow_succ]; congr 1; omega
    have h6 : B32 ^ n * B32 ^ (m - n + 1) ≤ 2 * D * B32 ^ (m - n + 1) := Nat.mul_le_mul_right _ hD2
    rw [Nat.mul_assoc] at h6
    have h7 : B32 ^ m * B32 = B32 ^ m * 4294967296 := rfl
    omega
  rw [← hM] at hUD
  clear hxs hxs2 hXm
  repeat (with_reducible first | refine c_seq ?_ | refine c_block ?_ | refine c_skip ?_ | refine x_then ?_ | refine x_block ?_)
  refine c_reg ?_
  refine l_pure rfl (s_move  h0 ?_)
  refine l_pure rfl (s_move  h7 ?_)
  refine l_heavy rfl (s_call Tryz.call123 rfl (rshifted_ok _ X s (m + 1) _ (hx.below hS.below) hs (by omega) (by omega)) ?_)
  rintro r w3 ⟨⟨bu, rfl, hbu1, hbu2⟩, hB3⟩
  replace hS := hS.push hB3 hbu1 hbu2
  refine l_pure rfl (s_asg  rfl ?_)
  refine l_nil ?_
  repeat (with_reducible first | refine c_seq ?_ | refine c_block ?_ | refine c_skip ?_ | refine x_then ?_ | refine x_block ?_)
  refine c_reg ?_
  refine l_pure rfl (s_move  h1 ?_)
  refine l_pure rfl (s_move  h7 ?_)
  refine l_heavy rfl (s_call Tryz.call123 rfl (rshifted_ok _ Y s (n + 1) _ (hy.below hS.below) hs (by omega) (by omega)) ?_)
  rintro r w4 ⟨⟨bv, rfl, hbv1, hbv2⟩, hB4⟩
  replace hS := hS.push hB4 hbv1 hbv2
  rw [← hDe] at hS
  refine l_pure rfl (s_move  h6 ?_)
  refine l_pure rfl (s_suboh (hi := n)  rfl rfl rfl (by omega) si_91 ?_)
  refine l_pure rfl (s_asg  rfl ?_)
  refine l_nil ?_
  repeat (with_reducible first | refine c_seq ?_ | refine c_block ?_ | refine c_skip ?_ | refine x_then ?_ | refine x_block ?_)
  refine c_reg ?_
  refine l_pure rfl (s_move  h0 ?_)
  refine l_pure rfl (s_lenr  rfl (hx.below hS.below) ⟨_, Tryz.underlying91⟩ ?_)
  refine l_pure rfl (s_move  h6 ?_)
  refine l_pure rfl (s_sub  rfl rfl (IntWalk.i64_in _ (by omega)) ?_)
  refine l_pure rfl (s_add  rfl rfl (IntWalk.i64_in _ (by omega)) ?_)
  refine l_heavy rfl (s_makek (n := M)  rfl rfl si_91 (by omega) (by omega) (by omega) (by omega) hS ?_)
  intro b1 wz2 hS hBz2
  refine l_pure rfl (s_asg  rfl ?_)
  refine l_nil ?_
  repeat (with_reducible first | refine c_seq ?_ | refine c_block ?_ | refine c_skip ?_ | refine x_then ?_ | refine x_block ?_)
  refine c_reg ?_
  refine l_pure rfl (s_move  h0 ?_)
  refine l_pure rfl (s_lenr  rfl (hx.below hS.below) ⟨_, Tryz.underlying91⟩ ?_)
  refine l_pure rfl (s_move  h6 ?_)
  refine l_pure rfl (s_sub  rfl rfl (IntWalk.i64_in _ (by omega)) ?_)
  refine l_pure rfl (s_asg  rfl ?_)
  refine l_nil ?_
  repeat (with_reducible first | refine c_seq ?_ | refine c_block ?_ | refine c_skip ?_ | refine x_then ?_ | refine x_block ?_)
  rw [← pad_zero, show 0 = B32 ^ M * 0 by rw [Nat.mul_zero]] at hS
  refine c_loop (σ := Nat × Nat × Nat) (fun t ρ w' => t.1 ≤ M ∧ X * 2 ^ s = t.2.1 * D * B32 ^ t.1 + t.2.2 ∧ t.2.2 < D * B32 ^ t.1 ∧ LF ρ n s m M bu bv b1 ∧ ρ 11 = .int .i64 ((t.1 : Int) - 1) ∧
      St w w' [(b1, 94, Kr .u32 (pad B32 (B32 ^ t.1 * t.2.1) M)), (bv, 94, Kr .u32 (pad B32 D (n + 1))), (bu, 94, Kr .u32 (pad B32 t.2.2 (m + 1)))]) (fun t => t.1) (M, 0, X * 2 ^ s)
    ⟨Nat.le_refl _, by simp, hUD, ⟨h6, h7, rfl, rfl, rfl⟩, vi rfl (by omega), hS⟩ ?_
  clear hS h0 h1 h6 h7
  rintro ⟨k, Q, V⟩ ρ w6 ⟨hk, hinv, hV, hF, h11, hS⟩
  simp only at hk hinv hV h11 hS
  repeat (with_reducible first | refine c_seq ?_ | refine c_block ?_ | refine c_skip ?_ | refine x_then ?_ | refine x_block ?_)
  refine c_reg ?_
  refine l_pure rfl (s_move  h11 ?_)
  refine l_pure rfl (s_geq  rfl rfl ?_)
  refine l_nil ?_
  repeat (with_reducible first | refine c_seq ?_ | refine c_block ?_ | refine c_skip ?_ | refine x_then ?_ | refine x_block ?_)
  by_cases hk0 : 0 < k
  · refine c_yes rfl (decide_eq_true (by omega)) ?_
    repeat (with_reducible first | refine c_seq ?_ | refine c_block ?_ | refine c_skip ?_ | refine x_then ?_ | refine x_block ?_)
    have hpk : 0 < B32 ^ (k - 1) := Nat.pow_pos (by decide)
    have hkk : B32 ^ k = B32 ^ (k - 1) * B32 := by rw [← Nat.pow_succ]; congr 1; omega
    have hVs : V % B32 ^ (k - 1) + B32 ^ (k - 1) * (V / B32 ^ (k - 1)) = V := Nat.mod_add_div _ _
    have hU : V / B32 ^ (k - 1) < D * B32 := by
      refine Nat.div_lt_of_lt_mul ?_
      rw [hkk] at hV
      rw [Nat.mul_left_comm]; exact hV
    have hlo : V % B32 ^ (k - 1) < B32 ^ (k - 1) := Nat.mod_lt _ hpk
    obtain ⟨lo, hloe⟩ : ∃ lo, lo = V % B32 ^ (k - 1) := ⟨_, rfl⟩
    obtain ⟨U, hUe⟩ : ∃ U, U = V / B32 ^ (k - 1) := ⟨_, rfl⟩
    rw [← hloe, ← hUe] at hVs
    rw [← hUe] at hU
    rw [← hloe] at hlo
    clear hloe hUe
    obtain ⟨j, hj⟩ : ∃ j, j = k - 1 := ⟨_, rfl⟩
    rw [← hj] at hpk hkk hVs hlo
    have hq0 : U / D < B32 := Nat.div_lt_of_lt_mul hU
    have hQ : B32 ^ k * Q < B32 ^ M := by
      rcases Nat.lt_or_ge (B32 ^ k * Q) (B32 ^ M) with h | h
      · exact h
      · exfalso
        have h3 : D * B32 ^ M ≤ D * (B32 ^ k * Q) := Nat.mul_le_mul_left _ h
        have h4 : D * (B32 ^ k * Q) = Q * D * B32 ^ k := by ac_rfl
        omega
    obtain ⟨eq1, eq2⟩ := pad_set_low (b := B32) (q := Q) (i := k) (e := U / D) (n := M) (by decide) hq0 hk0 hk hQ
    have hinv2 : X * 2 ^ s = (B32 * Q + U / D) * D * B32 ^ j + (lo + B32 ^ j * (U % D)) := by
      have g1 := Nat.div_add_mod U D
      have g2 : B32 ^ j * U = B32 ^ j * (D * (U / D)) + B32 ^ j * (U % D) := by rw [← Nat.mul_add, g1]
      have g3 : (B32 * Q + U / D) * D * B32 ^ j = Q * D * B32 ^ k + B32 ^ j * (D * (U / D)) := by
        rw [hkk, Nat.add_mul, Nat.add_mul]; congr 1 <;> ac_rfl
      rw [g3, hinv, ← hVs, g2]; omega
    have hV2 : lo + B32 ^ j * (U % D) < D * B32 ^ j := by
      have g1 : U % D + 1 ≤ D := Nat.mod_lt _ hD0
      have g2 : B32 ^ j * (U % D + 1) ≤ B32 ^ j * D := Nat.mul_le_mul_left _ g1
      rw [Nat.mul_comm D, Nat.mul_add] at *
      omega
    rw [← hVs] at hS
    clear hinv hV hVs hQ hUD
    -- one digit of the quotient
    have hjm : j + n + 1 ≤ m + 1 := by omega
    have h11' : ρ 11 = .int .i64 (j : Int) := h11.trans (congrArg (Value.int IntKind.i64) (by omega))
    clear h11
    have hkn := Kn.of n U D hn2 hD hD2 hU
    have hU1 : U < B32 ^ (n + 1) := by
      rw [Nat.pow_succ]
      exact Nat.lt_trans hU (Nat.mul_lt_mul_of_pos_right hD (by decide))
    have hgU : ∀ Z i, i ≤ n → (pad B32 (lo + B32 ^ j * Z) (m + 1)).getD (j + i) 0 = dgt B32 Z i := fun Z i hi => by rw [pad_getD _ _ (by omega), dgt_off (by decide) hlo]
    have hgD : ∀ i, i < n + 1 → (pad B32 D (n + 1)).getD i 0 = dgt B32 D i := fun i hi => pad_getD _ _ hi
    have hgd1 := hgD (n - 1) (by omega)
    have hgd2 := hgD (n - 2) (by omega)
    have a0 := limb_le U n
    have a1 := limb_le U (n - 1)
    have a2 := limb_le U (n - 2)
    have c1 := limb_le D (n - 1)
    have c2 := limb_le D (n - 2)
    have hd1 := hkn.h1
    obtain ⟨top, htop⟩ : ∃ top, top = dgt B32 U n * B32 + dgt B32 U (n - 1) := ⟨_, rfl⟩
    have htop2 : top = dgt B32 U (n - 1) + dgt B32 U n * 2 ^ 32 := by rw [htop, Nat.add_comm]
    have hor : dgt B32 U n * 2 ^ 32 ||| dgt B32 U (n - 1) = top := by rw [Nat.or_comm, or_add _ _ _ (by omega), htop2]
    have htl2 : top ≤ 18446744073709551615 := by rw [htop]; omega
    have hgn1 : (pad B32 (lo + B32 ^ j * U) (m + 1)).getD (j + n - 1) 0 = dgt B32 U (n - 1) := by rw [show j + n - 1 = j + (n - 1) by omega]; exact hgU U _ (by omega)
    have hgn2 : (pad B32 (lo + B32 ^ j * U) (m + 1)).getD (j + n - 2) 0 = dgt B32 U (n - 2) := by rw [show j + n - 2 = j + (n - 2) by omega]; exact hgU U _ (by omega)
    repeat (with_reducible first | refine c_seq ?_ | refine c_block ?_ | refine c_skip ?_ | refine x_then ?_ | refine x_block ?_)
    refine c_draw [(0, .pure), (1, .pure), (2, .pure), (3, .pure), (4, .pure), (5, .read), (6, .pure), (7, .pure), (8, .pure), (9, .pure), (10, .pure), (11, .pure), (12, .pure), (13, .pure), (14, .read), (15, .pure), (16, .pure), (17, .pure)] (by kernel_rfl) (by kernel_rfl) hS ?_
    intro wz3 hS hBz3
    refine w_pure rfl rfl (s_move  hF.h8 ?_)
    refine w_pure rfl rfl (s_move  h11' ?_)
    refine w_pure rfl rfl (s_move  hF.h6 ?_)
    refine w_pure rfl rfl (s_add  rfl rfl (IntWalk.i64_in _ (by omega)) ?_)
    refine w_pure rfl rfl (s_ixo (i := j + n)  rfl rfl (by omega) (by first | omega | (simp; done) | (simp; omega)) si_91 ?_)
    refine w_read rfl rfl (s_ldk (k := 2) (i := j + n)  rfl vi_94 hS rfl (by omega) (by first | omega | (simp; done) | (simp; omega)) ?_)
    refine w_pure rfl rfl (s_conv  rfl Tryz.underlying95 ⟨_, Tryz.underlying94⟩ (r := ((dgt B32 U n : Nat) : Int)) (by rw [hgU U n (by omega)]; exact wr_u64 _ ⟨rfl, by omega, by omega⟩) ?_)
    refine w_pure rfl rfl (s_shl  rfl rfl (by omega) (r := ((dgt B32 U n * 2 ^ 32 : Nat) : Int)) (by exact shl_v _ 32 _ (by decide) (wr_u64 _ ⟨rfl, by omega, by omega⟩)) ?_)
    refine w_pure rfl rfl (s_move  hF.h8 ?_)
    refine w_pure rfl rfl (s_move  h11' ?_)
    refine w_pure rfl rfl (s_move  hF.h6 ?_)
    refine w_pure rfl rfl (s_add  rfl rfl (IntWalk.i64_in _ (by omega)) ?_)
    refine w_pure rfl rfl (s_sub  rfl rfl (IntWalk.i64_in _ (by omega)) ?_)
    refine w_pure rfl rfl (s_ixo (i := j + n - 1)  rfl rfl (by omega) (by first | omega | (simp; done) | (simp; omega)) si_91 ?_)
    refine w_read rfl rfl (s_ldk (k := 2) (i := j + n - 1)  rfl vi_94 hS rfl (by omega) (by first | omega | (simp; done) | (simp; omega)) ?_)
    refine w_pure rfl rfl (s_conv  rfl Tryz.underlying95 ⟨_, Tryz.underlying94⟩ (r := ((dgt B32 U (n - 1) : Nat) : Int)) (by rw [hgn1]; exact wr_u64 _ ⟨rfl, by omega, by omega⟩) ?_)
    refine w_pure rfl rfl (s_or  rfl rfl (r := ((top : Nat) : Int)) (by rw [← hor]; exact or_nat rfl _ _ (by show _ < 18446744073709551616; omega) (by show _ < 18446744073709551616; omega)) ?_)
    refine w_pure rfl rfl (s_asg  rfl ?_)
    refine w_end ?_
    repeat (with_reducible first | refine c_seq ?_ | refine c_block ?_ | refine c_skip ?_ | refine x_then ?_ | refine x_block ?_)
    refine c_reg ?_
    refine l_pure rfl (s_move  rfl ?_)
    refine l_pure rfl (s_move  hF.h9 ?_)
    refine l_pure rfl (s_move  hF.h6 ?_)
    refine l_pure rfl (s_sub  rfl rfl (IntWalk.i64_in _ (by omega)) ?_)
    refine l_pure rfl (s_ixo (i := n - 1)  rfl rfl (by omega) (by first | omega | (simp; done) | (simp; omega)) si_91 ?_)
    refine l_read rfl (s_ldk (k := 1) (i := n - 1)  rfl vi_94 hS rfl (by omega) (by first | omega | (simp; done) | (simp; omega)) ?_)
    refine l_pure rfl (s_conv  rfl Tryz.underlying95 ⟨_, Tryz.underlying94⟩ (r := ((dgt B32 D (n - 1) : Nat) : Int)) (by rw [hgd1]; exact wr_u64 _ ⟨rfl, by omega, by omega⟩) ?_)
    refine l_pure rfl (s_quo  rfl rfl (by omega) (r := ((top / dgt B32 D (n - 1) : Nat) : Int)) (by rw [IntWalk.u64_quo _ _ (by omega)]; push_cast; rfl) ?_)
    refine l_pure rfl (s_asg  rfl ?_)
    refine l_nil ?_
    repeat (with_reducible first | refine c_seq ?_ | refine c_block ?_ | refine c_skip ?_ | refine x_then ?_ | refine x_block ?_)
    refine c_reg ?_
    refine l_pure rfl (s_move  rfl ?_)
    refine l_pure rfl (s_move  hF.h9 ?_)
    refine l_pure rfl (s_move  hF.h6 ?_)
    refine l_pure rfl (s_sub  rfl rfl (IntWalk.i64_in _ (by omega)) ?_)
    refine l_pure rfl (s_ixo (i := n - 1)  rfl rfl (by omega) (by first | omega | (simp; done) | (simp; omega)) si_91 ?_)
    refine l_read rfl (s_ldk (k := 1) (i := n - 1)  rfl vi_94 hS rfl (by omega) (by first | omega | (simp; done) | (simp; omega)) ?_)
    refine l_pure rfl (s_conv  rfl Tryz.underlying95 ⟨_, Tryz.underlying94⟩ (r := ((dgt B32 D (n - 1) : Nat) : Int)) (by rw [hgd1]; exact wr_u64 _ ⟨rfl, by omega, by omega⟩) ?_)
    refine l_pure rfl (s_rem  rfl rfl (by omega) (r := ((top % dgt B32 D (n - 1) : Nat) : Int)) (by rw [Int.tmod_eq_emod_of_nonneg (by omega)]; push_cast; rfl) ?_)
    refine l_pure rfl (s_asg  rfl ?_)
    refine l_nil ?_
    repeat (with_reducible first | refine c_seq ?_ | refine c_skip ?_ | refine x_then ?_ | refine x_block ?_)
    refine c_cut1 (fun ρ w' => ∃ g, g < B32 ∧ U / D ≤ g ∧ g ≤ U / D + 1 ∧ LF ρ n s m M bu bv b1 ∧ ρ 11 = .int .i64 j ∧ ρ 13 = .int .u64 g ∧
        St w w' [(b1, 94, Kr .u32 (pad B32 (B32 ^ k * Q) M)), (bv, 94, Kr .u32 (pad B32 D (n + 1))), (bu, 94, Kr .u32 (pad B32 (lo + B32 ^ j * U) (m + 1)))]) ?_ ?_
    · repeat (with_reducible first | refine c_seq ?_ | refine c_block ?_ | refine c_skip ?_ | refine x_then ?_ | refine x_block ?_)
      refine c_loop (σ := Nat × Nat) (fun t ρ w' => t.1 * dgt B32 D (n - 1) + t.2 = top ∧ U / D ≤ t.1 ∧ t.2 < B32 ∧ LF ρ n s m M bu bv b1 ∧ ρ 11 = .int .i64 j ∧ ρ 13 = .int .u64 t.1 ∧ ρ 14 = .int .u64 t.2 ∧
          St w w' [(b1, 94, Kr .u32 (pad B32 (B32 ^ k * Q) M)), (bv, 94, Kr .u32 (pad B32 D (n + 1))), (bu, 94, Kr .u32 (pad B32 (lo + B32 ^ j * U) (m + 1)))]) (fun t => t.1) (top / dgt B32 D (n - 1), top % dgt B32 D (n - 1))
        ⟨by simp only; rw [Nat.mul_comm]; exact Nat.div_add_mod _ _, by simp only; rw [htop]; exact hkn.q_le_top, by simp only; have := Nat.mod_lt top hd1; omega, ⟨hF.h6, hF.h7, hF.h8, hF.h9, hF.h10⟩, h11', rfl, rfl, hS⟩ ?_
      clear hS hF h11'
      rintro ⟨g, r⟩ ρ w3 ⟨hinv, hgq, hr, hF, h11, h13, h14, hS⟩
      simp only at hinv hgq hr h13 h14 hS
      have hgt : g ≤ top := by
        have : g * 1 ≤ g * dgt B32 D (n - 1) := Nat.mul_le_mul_left _ hd1
        omega
      repeat (with_reducible first | refine c_seq ?_ | refine c_block ?_ | refine c_skip ?_ | refine x_then ?_ | refine x_block ?_)
      by_cases hgB : B32 ≤ g
      · repeat (with_reducible first | refine c_seq ?_ | refine c_block ?_ | refine c_skip ?_ | refine x_then ?_ | refine x_block ?_)
        refine c_draw [(0, .pure), (1, .pure), (2, .pure), (3, .pure), (4, .pure), (5, .pure), (6, .pure), (7, .pure), (8, .read), (9, .pure), (10, .pure), (11, .pure), (12, .pure), (13, .pure), (14, .pure), (15, .pure), (16, .pure), (17, .pure), (18, .pure), (19, .read), (20, .pure), (21, .pure), (22, .pure), (23, .pure)] (by kernel_rfl) (by kernel_rfl) hS ?_
        intro wz4 hS hBz4
        refine w_pure rfl rfl (s_move  h13 ?_)
        refine w_pure rfl rfl (s_geq  rfl rfl ?_)
        refine w_pure rfl rfl (s_move  rfl ?_)
        refine w_no rfl (gno_yes 95 (by kernel_rfl) rfl (decide_eq_true (by omega))) ?_
        refine w_no rfl (gno_yes 95 (by kernel_rfl) rfl (decide_eq_true (by omega))) ?_
        refine w_no rfl (gno_yes 95 (by kernel_rfl) rfl (decide_eq_true (by omega))) ?_
        refine w_no rfl (gno_yes 95 (by kernel_rfl) rfl (decide_eq_true (by omega))) ?_
        refine w_no rfl (gno_yes 95 (by kernel_rfl) rfl (decide_eq_true (by omega))) ?_
        refine w_no rfl (gno_yes 95 (by kernel_rfl) rfl (decide_eq_true (by omega))) ?_
        refine w_no rfl (gno_yes 95 (by kernel_rfl) rfl (decide_eq_true (by omega))) ?_
        refine w_no rfl (gno_yes 95 (by kernel_rfl) rfl (decide_eq_true (by omega))) ?_
        refine w_no rfl (gno_yes 95 (by kernel_rfl) rfl (decide_eq_true (by omega))) ?_
        refine w_no rfl (gno_yes 95 (by kernel_rfl) rfl (decide_eq_true (by omega))) ?_
        refine w_no rfl (gno_yes 95 (by kernel_rfl) rfl (decide_eq_true (by omega))) ?_
        refine w_no rfl (gno_yes 95 (by kernel_rfl) rfl (decide_eq_true (by omega))) ?_
        refine w_no rfl (gno_yes 95 (by kernel_rfl) rfl (decide_eq_true (by omega))) ?_
        refine w_no rfl (gno_yes 95 (by kernel_rfl) rfl (decide_eq_true (by omega))) ?_
        refine w_no rfl (gno_yes 95 (by kernel_rfl) rfl (decide_eq_true (by omega))) ?_
        refine w_no rfl (gno_yes 95 (by kernel_rfl) rfl (decide_eq_true (by omega))) ?_
        refine w_no rfl (gno_yes 95 (by kernel_rfl) rfl (decide_eq_true (by omega))) ?_
        refine w_no rfl (gno_yes 95 (by kernel_rfl) rfl (decide_eq_true (by omega))) ?_
        refine w_no rfl (gno_yes 95 (by kernel_rfl) rfl (decide_eq_true (by omega))) ?_
        refine w_no rfl (gno_yes 95 (by kernel_rfl) rfl (decide_eq_true (by omega))) ?_
        refine w_pure rfl rfl (s_pick (vb rfl (decide_eq_true (by omega))) rfl ?_)
        refine w_end ?_
        repeat (with_reducible first | refine c_seq ?_ | refine c_block ?_ | refine c_skip ?_ | refine x_then ?_ | refine x_block ?_)
        refine c_yes rfl (rfl) ?_
        repeat (with_reducible first | refine c_seq ?_ | refine c_block ?_ | refine c_skip ?_ | refine x_then ?_ | refine x_block ?_)
        have hgq2 : U / D < g := by omega
        have hg0 : 0 < g := Nat.lt_of_le_of_lt (Nat.zero_le _) hgq2
        have hg1 : U / D ≤ g - 1 := Nat.le_sub_one_of_lt hgq2
        repeat (with_reducible first | refine c_seq ?_ | refine c_block ?_ | refine c_skip ?_ | refine x_then ?_ | refine x_block ?_)
        refine c_reg ?_
        refine l_pure rfl (s_move  h13 ?_)
        refine l_pure rfl (s_sub  rfl rfl (IntWalk.u64_in _ (by omega)) ?_)
        refine l_pure rfl (s_asg  rfl ?_)
        refine l_nil ?_
        repeat (with_reducible first | refine c_seq ?_ | refine c_block ?_ | refine c_skip ?_ | refine x_then ?_ | refine x_block ?_)
        have hgd : (g - 1) * dgt B32 D (n - 1) + (r + dgt B32 D (n - 1)) = top := by
          obtain ⟨g', rfl⟩ : ∃ g', g = g' + 1 := ⟨g - 1, by omega⟩
          rw [Nat.add_mul, Nat.one_mul] at hinv
          rw [Nat.add_sub_cancel]; omega
        repeat (with_reducible first | refine c_seq ?_ | refine c_block ?_ | refine c_skip ?_ | refine x_then ?_ | refine x_block ?_)
        refine c_reg ?_
        refine l_pure rfl (s_move  h14 ?_)
        refine l_pure rfl (s_move  hF.h9 ?_)
        refine l_pure rfl (s_move  hF.h6 ?_)
        refine l_pure rfl (s_sub  rfl rfl (IntWalk.i64_in _ (by omega)) ?_)
        refine l_pure rfl (s_ixo (i := n - 1)  rfl rfl (by omega) (by first | omega | (simp; done) | (simp; omega)) si_91 ?_)
        refine l_read rfl (s_ldk (k := 1) (i := n - 1)  rfl vi_94 hS rfl (by omega) (by first | omega | (simp; done) | (simp; omega)) ?_)
        refine l_pure rfl (s_conv  rfl Tryz.underlying95 ⟨_, Tryz.underlying94⟩ (r := ((dgt B32 D (n - 1) : Nat) : Int)) (by rw [hgd1]; exact wr_u64 _ ⟨rfl, by omega, by omega⟩) ?_)
        refine l_pure rfl (s_add  rfl rfl (r := ((r + dgt B32 D (n - 1) : Nat) : Int)) (by exact wr_u64 _ ⟨by push_cast; rfl, by omega, by omega⟩) ?_)
        refine l_pure rfl (s_asg  rfl ?_)
        refine l_nil ?_
        repeat (with_reducible first | refine c_seq ?_ | refine c_block ?_ | refine c_skip ?_ | refine x_then ?_ | refine x_block ?_)
        refine c_reg ?_
        refine l_pure rfl (s_move  rfl ?_)
        refine l_pure rfl (s_geq  rfl rfl ?_)
        refine l_nil ?_
        repeat (with_reducible first | refine c_seq ?_ | refine c_block ?_ | refine c_skip ?_ | refine x_then ?_ | refine x_block ?_)
        by_cases hbrk : B32 ≤ r + dgt B32 D (n - 1)
        · refine c_yes rfl (decide_eq_true (by omega)) ?_
          refine c_exit ?_
          repeat (with_reducible first | refine x_then_exit ?_ | refine x_block_exit ?_ | refine x_block_pass rfl ?_)
          repeat (with_reducible first | refine c_seq ?_ | refine c_block ?_ | refine c_skip ?_ | refine x_then ?_ | refine x_block ?_)
          have hgB : g - 1 < B32 := by
            rcases Nat.lt_or_ge (g - 1) B32 with h | h
            · exact h
            · exfalso
              have h1 : B32 * dgt B32 D (n - 1) ≤ (g - 1) * dgt B32 D (n - 1) := Nat.mul_le_mul_right _ h
              have h2 := hkn.top_le
              rw [← htop, Nat.mul_comm] at h2
              omega
          have hgq := hkn.rest (by rw [← htop]; exact hgd) (by omega) hbrk
          exact ⟨_, rfl, g - 1, hgB, hg1, by omega, ⟨hF.h6, hF.h7, hF.h8, hF.h9, hF.h10⟩, h11, vi rfl (by omega), hS⟩
        · refine c_no rfl (decide_eq_false (by omega)) ?_
          repeat (with_reducible first | refine c_seq ?_ | refine c_block ?_ | refine c_skip ?_ | refine x_then ?_ | refine x_block ?_)
          refine ⟨(g - 1, r + dgt B32 D (n - 1)), _, rfl, ⟨hgd, hg1, by simp only; omega, ⟨hF.h6, hF.h7, hF.h8, hF.h9, hF.h10⟩, h11, vi rfl (by simp only; omega), rfl, hS⟩, by simp only; omega⟩
      · have hgd2' : g * dgt B32 D (n - 2) ≤ 4294967295 * 4294967295 := Nat.mul_le_mul (by omega) c2
        have hor2 : r * 2 ^ 32 ||| dgt B32 U (n - 2) = r * 4294967296 + dgt B32 U (n - 2) := by rw [Nat.or_comm, or_add _ _ _ (by omega), Nat.add_comm]
        repeat (with_reducible first | refine c_seq ?_ | refine c_block ?_ | refine c_skip ?_ | refine x_then ?_ | refine x_block ?_)
        refine c_draw [(0, .pure), (1, .pure), (2, .pure), (3, .pure), (4, .pure), (5, .pure), (6, .pure), (7, .pure), (8, .read), (9, .pure), (10, .pure), (11, .pure), (12, .pure), (13, .pure), (14, .pure), (15, .pure), (16, .pure), (17, .pure), (18, .pure), (19, .read), (20, .pure), (21, .pure), (22, .pure), (23, .pure)] (by kernel_rfl) (by kernel_rfl) hS ?_
        intro wz5 hS hBz5
        refine w_pure rfl rfl (s_move  h13 ?_)
        refine w_pure rfl rfl (s_geq  rfl rfl ?_)
        refine w_pure rfl rfl (s_move  rfl ?_)
        refine w_pure rfl (gd_yes 95 (by kernel_rfl) rfl (decide_eq_false (by omega))) (s_move  h13 ?_)
        refine w_pure rfl (gd_yes 95 (by kernel_rfl) rfl (decide_eq_false (by omega))) (s_move  hF.h9 ?_)
        refine w_pure rfl (gd_yes 95 (by kernel_rfl) rfl (decide_eq_false (by omega))) (s_move  hF.h6 ?_)
        refine w_pure rfl (gd_yes 95 (by kernel_rfl) rfl (decide_eq_false (by omega))) (s_sub  rfl rfl (IntWalk.i64_in _ (by omega)) ?_)
        refine w_pure rfl (gd_yes 95 (by kernel_rfl) rfl (decide_eq_false (by omega))) (s_ixo (i := n - 2)  rfl rfl (by omega) (by first | omega | (simp; done) | (simp; omega)) si_91 ?_)
        refine w_read rfl (gd_yes 95 (by kernel_rfl) rfl (decide_eq_false (by omega))) (s_ldk (k := 1) (i := n - 2)  rfl vi_94 hS rfl (by omega) (by first | omega | (simp; done) | (simp; omega)) ?_)
        refine w_pure rfl (gd_yes 95 (by kernel_rfl) rfl (decide_eq_false (by omega))) (s_conv  rfl Tryz.underlying95 ⟨_, Tryz.underlying94⟩ (r := ((dgt B32 D (n - 2) : Nat) : Int)) (by rw [hgd2]; exact wr_u64 _ ⟨rfl, by omega, by omega⟩) ?_)
        refine w_pure rfl (gd_yes 95 (by kernel_rfl) rfl (decide_eq_false (by omega))) (s_mul  rfl rfl (r := ((g * dgt B32 D (n - 2) : Nat) : Int)) (by exact wr_u64 _ ⟨by push_cast; rfl, by omega, by omega⟩) ?_)
        refine w_pure rfl (gd_yes 95 (by kernel_rfl) rfl (decide_eq_false (by omega))) (s_move  h14 ?_)
        refine w_pure rfl (gd_yes 95 (by kernel_rfl) rfl (decide_eq_false (by omega))) (s_shl  rfl rfl (by omega) (r := ((r * 2 ^ 32 : Nat) : Int)) (by exact shl_v _ 32 _ (by decide) (wr_u64 _ ⟨rfl, by omega, by omega⟩)) ?_)
        refine w_pure rfl (gd_yes 95 (by kernel_rfl) rfl (decide_eq_false (by omega))) (s_move  hF.h8 ?_)
        refine w_pure rfl (gd_yes 95 (by kernel_rfl) rfl (decide_eq_false (by omega))) (s_move  h11 ?_)
        refine w_pure rfl (gd_yes 95 (by kernel_rfl) rfl (decide_eq_false (by omega))) (s_move  hF.h6 ?_)
        refine w_pure rfl (gd_yes 95 (by kernel_rfl) rfl (decide_eq_false (by omega))) (s_add  rfl rfl (IntWalk.i64_in _ (by omega)) ?_)
        refine w_pure rfl (gd_yes 95 (by kernel_rfl) rfl (decide_eq_false (by omega))) (s_sub  rfl rfl (IntWalk.i64_in _ (by omega)) ?_)
        refine w_pure rfl (gd_yes 95 (by kernel_rfl) rfl (decide_eq_false (by omega))) (s_ixo (i := j + n - 2)  rfl rfl (by omega) (by first | omega | (simp; done) | (simp; omega)) si_91 ?_)
        refine w_read rfl (gd_yes 95 (by kernel_rfl) rfl (decide_eq_false (by omega))) (s_ldk (k := 2) (i := j + n - 2)  rfl vi_94 hS rfl (by omega) (by first | omega | (simp; done) | (simp; omega)) ?_)
        refine w_pure rfl (gd_yes 95 (by kernel_rfl) rfl (decide_eq_false (by omega))) (s_conv  rfl Tryz.underlying95 ⟨_, Tryz.underlying94⟩ (r := ((dgt B32 U (n - 2) : Nat) : Int)) (by rw [hgn2]; exact wr_u64 _ ⟨rfl, by omega, by omega⟩) ?_)
        refine w_pure rfl (gd_yes 95 (by kernel_rfl) rfl (decide_eq_false (by omega))) (s_or  rfl rfl (r := ((r * 4294967296 + dgt B32 U (n - 2) : Nat) : Int)) (by rw [← hor2]; exact or_nat rfl _ _ (by show _ < 18446744073709551616; omega) (by show _ < 18446744073709551616; omega)) ?_)
        refine w_pure rfl (gd_yes 95 (by kernel_rfl) rfl (decide_eq_false (by omega))) (s_gtr  rfl rfl ?_)
        refine w_pure rfl rfl (s_pick (vb rfl (decide_eq_false (by omega))) rfl ?_)
        refine w_end ?_
        repeat (with_reducible first | refine c_seq ?_ | refine c_block ?_ | refine c_skip ?_ | refine x_then ?_ | refine x_block ?_)
        by_cases href : r * 4294967296 + dgt B32 U (n - 2) < g * dgt B32 D (n - 2)
        · refine c_yes rfl (decide_eq_true (by exact_mod_cast href)) ?_
          repeat (with_reducible first | refine c_seq ?_ | refine c_block ?_ | refine c_skip ?_ | refine x_then ?_ | refine x_block ?_)
          have hgq2 : U / D < g := hkn.refuted (by rw [← htop]; exact hinv) hgq href
          have hg0 : 0 < g := Nat.lt_of_le_of_lt (Nat.zero_le _) hgq2
          have hg1 : U / D ≤ g - 1 := Nat.le_sub_one_of_lt hgq2
          repeat (with_reducible first | refine c_seq ?_ | refine c_block ?_ | refine c_skip ?_ | refine x_then ?_ | refine x_block ?_)
          refine c_reg ?_
          refine l_pure rfl (s_move  h13 ?_)
          refine l_pure rfl (s_sub  rfl rfl (IntWalk.u64_in _ (by omega)) ?_)
          refine l_pure rfl (s_asg  rfl ?_)
          refine l_nil ?_
          repeat (with_reducible first | refine c_seq ?_ | refine c_block ?_ | refine c_skip ?_ | refine x_then ?_ | refine x_block ?_)
          have hgd : (g - 1) * dgt B32 D (n - 1) + (r + dgt B32 D (n - 1)) = top := by
            obtain ⟨g', rfl⟩ : ∃ g', g = g' + 1 := ⟨g - 1, by omega⟩
            rw [Nat.add_mul, Nat.one_mul] at hinv
            rw [Nat.add_sub_cancel]; omega
          repeat (with_reducible first | refine c_seq ?_ | refine c_block ?_ | refine c_skip ?_ | refine x_then ?_ | refine x_block ?_)
          refine c_reg ?_
          refine l_pure rfl (s_move  h14 ?_)
          refine l_pure rfl (s_move  hF.h9 ?_)
          refine l_pure rfl (s_move  hF.h6 ?_)
          refine l_pure rfl (s_sub  rfl rfl (IntWalk.i64_in _ (by omega)) ?_)
          refine l_pure rfl (s_ixo (i := n - 1)  rfl rfl (by omega) (by first | omega | (simp; done) | (simp; omega)) si_91 ?_)
          refine l_read rfl (s_ldk (k := 1) (i := n - 1)  rfl vi_94 hS rfl (by omega) (by first | omega | (simp; done) | (simp; omega)) ?_)
          refine l_pure rfl (s_conv  rfl Tryz.underlying95 ⟨_, Tryz.underlying94⟩ (r := ((dgt B32 D (n - 1) : Nat) : Int)) (by rw [hgd1]; exact wr_u64 _ ⟨rfl, by omega, by omega⟩) ?_)
          refine l_pure rfl (s_add  rfl rfl (r := ((r + dgt B32 D (n - 1) : Nat) : Int)) (by exact wr_u64 _ ⟨by push_cast; rfl, by omega, by omega⟩) ?_)
          refine l_pure rfl (s_asg  rfl ?_)
          refine l_nil ?_
          repeat (with_reducible first | refine c_seq ?_ | refine c_block ?_ | refine c_skip ?_ | refine x_then ?_ | refine x_block ?_)
          refine c_reg ?_
          refine l_pure rfl (s_move  rfl ?_)
          refine l_pure rfl (s_geq  rfl rfl ?_)
          refine l_nil ?_
          repeat (with_reducible first | refine c_seq ?_ | refine c_block ?_ | refine c_skip ?_ | refine x_then ?_ | refine x_block ?_)
          by_cases hbrk : B32 ≤ r + dgt B32 D (n - 1)
          · refine c_yes rfl (decide_eq_true (by omega)) ?_
            refine c_exit ?_
            repeat (with_reducible first | refine x_then_exit ?_ | refine x_block_exit ?_ | refine x_block_pass rfl ?_)
            repeat (with_reducible first | refine c_seq ?_ | refine c_block ?_ | refine c_skip ?_ | refine x_then ?_ | refine x_block ?_)
            have hgB : g - 1 < B32 := by
              rcases Nat.lt_or_ge (g - 1) B32 with h | h
              · exact h
              · exfalso
                have h1 : B32 * dgt B32 D (n - 1) ≤ (g - 1) * dgt B32 D (n - 1) := Nat.mul_le_mul_right _ h
                have h2 := hkn.top_le
                rw [← htop, Nat.mul_comm] at h2
                omega
            have hgq := hkn.rest (by rw [← htop]; exact hgd) (by omega) hbrk
            exact ⟨_, rfl, g - 1, hgB, hg1, by omega, ⟨hF.h6, hF.h7, hF.h8, hF.h9, hF.h10⟩, h11, vi rfl (by omega), hS⟩
          · refine c_no rfl (decide_eq_false (by omega)) ?_
            repeat (with_reducible first | refine c_seq ?_ | refine c_block ?_ | refine c_skip ?_ | refine x_then ?_ | refine x_block ?_)
            refine ⟨(g - 1, r + dgt B32 D (n - 1)), _, rfl, ⟨hgd, hg1, by simp only; omega, ⟨hF.h6, hF.h7, hF.h8, hF.h9, hF.h10⟩, h11, vi rfl (by simp only; omega), rfl, hS⟩, by simp only; omega⟩
        · refine c_no rfl (decide_eq_false (by exact_mod_cast href)) ?_
          repeat (with_reducible first | refine c_seq ?_ | refine c_block ?_ | refine c_skip ?_ | refine x_then ?_ | refine x_block ?_)
          refine c_exit ?_
          repeat (with_reducible first | refine x_then_exit ?_ | refine x_block_exit ?_ | refine x_block_pass rfl ?_)
          repeat (with_reducible first | refine c_seq ?_ | refine c_block ?_ | refine c_skip ?_ | refine x_then ?_ | refine x_block ?_)
          have hnear := hkn.near (by rw [← htop]; exact hinv) (by omega) (Nat.le_of_not_lt href)
          exact ⟨_, rfl, g, by omega, hgq, hnear, ⟨hF.h6, hF.h7, hF.h8, hF.h9, hF.h10⟩, h11, h13, hS⟩
    clear hS a0 a1 a2 c1 c2 hor htl2 htop2 hF h11'
    rintro ρ w2 ⟨g, hgB, hq1, hq2, hF, h11, h13, hS⟩
    clear htop hgn1 hgn2
    repeat (with_reducible first | refine c_seq ?_ | refine c_block ?_ | refine c_skip ?_ | refine x_then ?_ | refine x_block ?_)
    refine c_reg ?_
    refine l_pure rfl (s_asg  rfl ?_)
    refine l_nil ?_
    repeat (with_reducible first | refine c_seq ?_ | refine c_block ?_ | refine c_skip ?_ | refine x_then ?_ | refine x_block ?_)
    refine c_reg ?_
    refine l_pure rfl (s_asg  rfl ?_)
    refine l_nil ?_
    repeat (with_reducible first | refine c_seq ?_ | refine c_block ?_ | refine c_skip ?_ | refine x_then ?_ | refine x_block ?_)
    refine c_reg ?_
    refine l_pure rfl (s_asg  rfl ?_)
    refine l_nil ?_
    repeat (with_reducible first | refine c_seq ?_ | refine c_skip ?_ | refine x_then ?_ | refine x_block ?_)
    refine c_cut1 (fun ρ w' => ∃ c bb Z, c ≤ 4294967295 ∧ bb ≤ 1 ∧ Z < B32 ^ (n + 1) ∧ Z + g * D = U + B32 ^ n * (c + bb) ∧ LF ρ n s m M bu bv b1 ∧ ρ 11 = .int .i64 j ∧ ρ 13 = .int .u64 g ∧ ρ 15 = .int .u64 (c : Nat) ∧ ρ 16 = .int .u64 (bb : Nat) ∧
        St w w' [(b1, 94, Kr .u32 (pad B32 (B32 ^ k * Q) M)), (bv, 94, Kr .u32 (pad B32 D (n + 1))), (bu, 94, Kr .u32 (pad B32 (lo + B32 ^ j * Z) (m + 1)))]) ?_ ?_
    · repeat (with_reducible first | refine c_seq ?_ | refine c_block ?_ | refine c_skip ?_ | refine x_then ?_ | refine x_block ?_)
      refine c_loop (σ := Nat × Nat × Nat × Nat) (fun t ρ w' => t.1 ≤ n ∧ t.2.1 ≤ 4294967295 ∧ t.2.2.1 ≤ 1 ∧ t.2.2.2 < B32 ^ (n + 1) ∧ t.2.2.2 + g * (D % B32 ^ t.1) = U + B32 ^ t.1 * (t.2.1 + t.2.2.1) ∧ LF ρ n s m M bu bv b1 ∧ ρ 11 = .int .i64 j ∧ ρ 13 = .int .u64 g ∧ ρ 15 = .int .u64 t.2.1 ∧ ρ 16 = .int .u64 t.2.2.1 ∧ ρ 17 = .int .i64 t.1 ∧
          St w w' [(b1, 94, Kr .u32 (pad B32 (B32 ^ k * Q) M)), (bv, 94, Kr .u32 (pad B32 D (n + 1))), (bu, 94, Kr .u32 (pad B32 (lo + B32 ^ j * t.2.2.2) (m + 1)))]) (fun t => n - t.1) (0, 0, 0, U)
        ⟨Nat.zero_le _, Nat.zero_le _, Nat.zero_le _, hU1, by simp [Nat.mod_one], ⟨hF.h6, hF.h7, hF.h8, hF.h9, hF.h10⟩, h11, h13, rfl, rfl, rfl, hS⟩ ?_
      clear hS hF h11 h13
      rintro ⟨i, c, bb, Z⟩ ρ w3 ⟨hi, hc, hbb, hZ, hinv, hF, h11, h13, h15, h16, h17, hS⟩
      simp only at hi hc hbb hZ hinv h15 h16 h17 hS
      repeat (with_reducible first | refine c_seq ?_ | refine c_block ?_ | refine c_skip ?_ | refine x_then ?_ | refine x_block ?_)
      refine c_reg ?_
      refine l_pure rfl (s_move  h17 ?_)
      refine l_pure rfl (s_move  hF.h6 ?_)
      refine l_pure rfl (s_lss  rfl rfl ?_)
      refine l_nil ?_
      repeat (with_reducible first | refine c_seq ?_ | refine c_block ?_ | refine c_skip ?_ | refine x_then ?_ | refine x_block ?_)
      by_cases hlt : i < n
      · refine c_yes rfl (decide_eq_true (by omega)) ?_
        repeat (with_reducible first | refine c_seq ?_ | refine c_block ?_ | refine c_skip ?_ | refine x_then ?_ | refine x_block ?_)
        have x1 := limb_le Z i
        have d1 := limb_le D i
        have hgX := hgU Z i hi
        obtain ⟨u1, u2⟩ := mul_lt_two g (dgt B32 D i) 0 c (by omega) d1 (by omega) hc
        obtain ⟨t, ht⟩ : ∃ t, t = g * dgt B32 D i + c := ⟨_, rfl⟩
        have htl : t ≤ 18446744073709551615 := by omega
        repeat (with_reducible first | refine c_seq ?_ | refine c_block ?_ | refine c_skip ?_ | refine x_then ?_ | refine x_block ?_)
        refine c_reg ?_
        refine l_pure rfl (s_move  h15 ?_)
        refine l_pure rfl (s_move  h13 ?_)
        refine l_pure rfl (s_move  hF.h9 ?_)
        refine l_pure rfl (s_move  h17 ?_)
        refine l_pure rfl (s_ixo (i := i)  rfl rfl (by omega) (by first | omega | (simp; done) | (simp; omega)) si_91 ?_)
        refine l_read rfl (s_ldk (k := 1) (i := i)  rfl vi_94 hS rfl (by omega) (by first | omega | (simp; done) | (simp; omega)) ?_)
        refine l_pure rfl (s_conv  rfl Tryz.underlying95 ⟨_, Tryz.underlying94⟩ (r := ((dgt B32 D i : Nat) : Int)) (by rw [hgD i (by omega)]; exact wr_u64 _ ⟨rfl, by omega, by omega⟩) ?_)
        refine l_pure rfl (s_mul  rfl rfl (r := ((g * dgt B32 D i : Nat) : Int)) (by exact wr_u64 _ ⟨by push_cast; rfl, by omega, by omega⟩) ?_)
        refine l_pure rfl (s_add  rfl rfl (r := ((t : Nat) : Int)) (by rw [ht]; exact wr_u64 _ ⟨by omega, by omega, by omega⟩) ?_)
        refine l_pure rfl (s_asg  rfl ?_)
        refine l_nil ?_
        repeat (with_reducible first | refine c_seq ?_ | refine c_block ?_ | refine c_skip ?_ | refine x_then ?_ | refine x_block ?_)
        refine c_reg ?_
        refine l_pure rfl (s_move  rfl ?_)
        refine l_pure rfl (s_and  rfl rfl (and_low t htl) ?_)
        refine l_pure rfl (s_move  h16 ?_)
        refine l_pure rfl (s_add  rfl rfl (r := ((t % 4294967296 + bb : Nat) : Int)) (by exact wr_u64 _ ⟨by omega, by omega, by omega⟩) ?_)
        refine l_pure rfl (s_asg  rfl ?_)
        refine l_nil ?_
        repeat (with_reducible first | refine c_seq ?_ | refine c_block ?_ | refine c_skip ?_ | refine x_then ?_ | refine x_block ?_)
        refine c_reg ?_
        refine l_pure rfl (s_move  rfl ?_)
        refine l_pure rfl (s_shr  rfl rfl (by omega) (r := ((t / 4294967296 : Nat) : Int)) (by exact shr_v _ 32 (by decide)) ?_)
        refine l_pure rfl (s_asg  rfl ?_)
        refine l_nil ?_
        repeat (with_reducible first | refine c_seq ?_ | refine c_block ?_ | refine c_skip ?_ | refine x_then ?_ | refine x_block ?_)
        refine c_reg ?_
        refine l_pure rfl (s_move  hF.h8 ?_)
        refine l_pure rfl (s_move  h11 ?_)
        refine l_pure rfl (s_move  h17 ?_)
        refine l_pure rfl (s_add  rfl rfl (IntWalk.i64_in _ (by omega)) ?_)
        refine l_pure rfl (s_ixo (i := j + i)  rfl rfl (by omega) (by first | omega | (simp; done) | (simp; omega)) si_91 ?_)
        refine l_read rfl (s_ldk (k := 2) (i := j + i)  rfl vi_94 hS rfl (by omega) (by first | omega | (simp; done) | (simp; omega)) ?_)
        refine l_pure rfl (s_conv  rfl Tryz.underlying95 ⟨_, Tryz.underlying94⟩ (r := ((dgt B32 Z i : Nat) : Int)) (by rw [hgX]; exact wr_u64 _ ⟨rfl, by omega, by omega⟩) ?_)
        refine l_pure rfl (s_asg  rfl ?_)
        refine l_nil ?_
        repeat (with_reducible first | refine c_seq ?_ | refine c_block ?_ | refine c_skip ?_ | refine x_then ?_ | refine x_block ?_)
        refine c_reg ?_
        refine l_pure rfl (s_asg  rfl ?_)
        refine l_nil ?_
        repeat (with_reducible first | refine c_seq ?_ | refine c_block ?_ | refine c_skip ?_ | refine x_then ?_ | refine x_block ?_)
        refine c_reg ?_
        refine l_pure rfl (s_move  rfl ?_)
        refine l_pure rfl (s_move  rfl ?_)
        refine l_pure rfl (s_lss  rfl rfl ?_)
        refine l_nil ?_
        repeat (with_reducible first | refine c_seq ?_ | refine c_block ?_ | refine c_skip ?_ | refine x_then ?_ | refine x_block ?_)
        obtain ⟨y, hy9⟩ : ∃ y, y = t % 4294967296 + bb := ⟨_, rfl⟩
        have hyl : y ≤ 4294967296 := by omega
        rw [← hy9]
        obtain ⟨xx, hxx⟩ : ∃ d, d = (if dgt B32 Z i < y then dgt B32 Z i + 4294967296 else dgt B32 Z i) := ⟨_, rfl⟩
        obtain ⟨b', hb'⟩ : ∃ c', c' = (if dgt B32 Z i < y then 1 else 0) := ⟨_, rfl⟩
        have hub : xx = dgt B32 Z i + 4294967296 * b' := by rw [hxx, hb']; split <;> omega
        have hul : y ≤ xx ∧ xx - y ≤ 4294967295 := by rw [hxx]; split <;> omega
        have hb1 : b' ≤ 1 := by rw [hb']; split <;> omega
        refine c_cut1 (fun ρ w' => LF ρ n s m M bu bv b1 ∧ ρ 11 = .int .i64 j ∧ ρ 13 = .int .u64 g ∧ ρ 15 = .int .u64 (t / 4294967296 : Nat) ∧ ρ 16 = .int .u64 (b' : Nat) ∧ ρ 17 = .int .i64 i ∧ ρ 18 = .int .u64 (y : Nat) ∧ ρ 19 = .int .u64 (xx : Nat) ∧ w3 = w') ?_ ?_
        · repeat (with_reducible first | refine c_seq ?_ | refine c_block ?_ | refine c_skip ?_ | refine x_then ?_ | refine x_block ?_)
          by_cases hlt2 : dgt B32 Z i < y
          · rw [if_pos hlt2] at hxx hb'
            refine c_yes rfl (decide_eq_true (by omega)) ?_
            repeat (with_reducible first | refine c_seq ?_ | refine c_block ?_ | refine c_skip ?_ | refine x_then ?_ | refine x_block ?_)
            refine c_reg ?_
            refine l_pure rfl (s_move  rfl ?_)
            refine l_pure rfl (s_add  rfl rfl (r := ((xx : Nat) : Int)) (by rw [hxx]; exact wr_u64 _ ⟨by omega, by omega, by omega⟩) ?_)
            refine l_pure rfl (s_asg  rfl ?_)
            refine l_nil ?_
            repeat (with_reducible first | refine c_seq ?_ | refine c_block ?_ | refine c_skip ?_ | refine x_then ?_ | refine x_block ?_)
            refine c_reg ?_
            refine l_pure rfl (s_asg  rfl ?_)
            refine l_nil ?_
            repeat (with_reducible first | refine c_seq ?_ | refine c_block ?_ | refine c_skip ?_ | refine x_then ?_ | refine x_block ?_)
            exact ⟨_, rfl, ⟨hF.h6, hF.h7, hF.h8, hF.h9, hF.h10⟩, h11, h13, rfl, vi rfl (by rw [hb']; rfl), h17, vi rfl (by rw [hy9]), rfl, rfl⟩
          · rw [if_neg hlt2] at hxx hb'
            refine c_no rfl (decide_eq_false (by omega)) ?_
            repeat (with_reducible first | refine c_seq ?_ | refine c_block ?_ | refine c_skip ?_ | refine x_then ?_ | refine x_block ?_)
            exact ⟨_, rfl, ⟨hF.h6, hF.h7, hF.h8, hF.h9, hF.h10⟩, h11, h13, rfl, vi rfl (by rw [hb']; rfl), h17, vi rfl (by rw [hy9]), vi rfl (by rw [hxx]), rfl⟩
        clear hxx hb' hF h11 h13 h15 h16 h17
        rintro ρ w' ⟨hF, h11, h13, h15, h16, h17, h18, h19, rfl⟩
        repeat (with_reducible first | refine c_seq ?_ | refine c_block ?_ | refine c_skip ?_ | refine x_then ?_ | refine x_block ?_)
        refine c_reg ?_
        refine l_pure rfl (s_move  hF.h8 ?_)
        refine l_pure rfl (s_move  h11 ?_)
        refine l_pure rfl (s_move  h17 ?_)
        refine l_pure rfl (s_add  rfl rfl (IntWalk.i64_in _ (by omega)) ?_)
        refine l_pure rfl (s_move  h19 ?_)
        refine l_pure rfl (s_move  h18 ?_)
        refine l_pure rfl (s_sub  rfl rfl (r := ((xx - y : Nat) : Int)) (by exact wr_u64 _ ⟨by omega, by omega, by omega⟩) ?_)
        refine l_pure rfl (s_conv  rfl Tryz.underlying94 ⟨_, Tryz.underlying95⟩ (r := ((xx - y : Nat) : Int)) (by exact wr_u32 _ ⟨rfl, by omega, by omega⟩) ?_)
        refine l_pure rfl (s_ixo (i := j + i)  rfl rfl (by omega) (by first | omega | (simp; done) | (simp; omega)) si_91 ?_)
        refine l_heavy rfl (s_stk (k := 2) (i := j + i) (a := _)  rfl rfl rfl vi_94 hS rfl (by omega) (by first | omega | (simp; done) | (simp; omega)) ?_)
        intro wz6 hS
        refine l_nil ?_
        repeat (with_reducible first | refine c_seq ?_ | refine c_block ?_ | refine c_skip ?_ | refine x_then ?_ | refine x_block ?_)
        obtain ⟨Z', e1, e2, e3⟩ := pad_set_off (b := B32) (lo := lo) (X := Z) (o := j) (k := i) (d := xx - y) (n := m + 1) (by decide) hlo (show _ < 4294967296 by omega) (by omega)
        rw [set2, e1] at hS
        repeat (with_reducible first | refine c_seq ?_ | refine c_block ?_ | refine c_skip ?_ | refine x_then ?_ | refine x_block ?_)
        refine c_reg ?_
        refine l_pure rfl (s_move  h17 ?_)
        refine l_pure rfl (s_add  rfl rfl (IntWalk.i64_in _ (by omega)) ?_)
        refine l_pure rfl (s_asg  rfl ?_)
        refine l_nil ?_
        repeat (with_reducible first | refine c_seq ?_ | refine c_block ?_ | refine c_skip ?_ | refine x_then ?_ | refine x_block ?_)
        refine ⟨(i + 1, t / 4294967296, b', Z'), _, rfl, ⟨hlt, by simp only; omega, hb1, e3 _ (by omega) hZ, ?_, ⟨hF.h6, hF.h7, hF.h8, hF.h9, hF.h10⟩, h11, h13, h15, h16, vi rfl (by simp), hS⟩, by simp only; omega⟩
        simp only
        have f1 : g * (D % B32 ^ (i + 1)) = g * (D % B32 ^ i) + B32 ^ i * (g * dgt B32 D i) := by rw [mod_pow_succ, Nat.mul_add]; congr 1; ac_rfl
        have f2 : B32 ^ (i + 1) * (t / 4294967296 + b') = B32 ^ i * (4294967296 * (t / 4294967296) + 4294967296 * b') := by rw [Nat.pow_succ, Nat.mul_assoc, ← Nat.mul_add]
        have f3 : dgt B32 Z i + (4294967296 * (t / 4294967296) + 4294967296 * b') = (xx - y) + (g * dgt B32 D i + c) + bb := by omega
        have f4 : B32 ^ i * dgt B32 Z i + B32 ^ i * (4294967296 * (t / 4294967296) + 4294967296 * b') = B32 ^ i * (xx - y) + B32 ^ i * (g * dgt B32 D i) + B32 ^ i * (c + bb) := by
          rw [← Nat.mul_add, f3, ← Nat.mul_add, ← Nat.mul_add]; congr 1; omega
        rw [f1, f2]
        omega
      · refine c_no rfl (decide_eq_false (by omega)) ?_
        repeat (with_reducible first | refine c_seq ?_ | refine c_block ?_ | refine c_skip ?_ | refine x_then ?_ | refine x_block ?_)
        refine c_exit ?_
        repeat (with_reducible first | refine x_then_exit ?_ | refine x_block_exit ?_ | refine x_block_pass rfl ?_)
        repeat (with_reducible first | refine c_seq ?_ | refine c_block ?_ | refine c_skip ?_ | refine x_then ?_ | refine x_block ?_)
        obtain rfl : i = n := by omega
        rw [Nat.mod_eq_of_lt hD] at hinv
        exact ⟨_, rfl, c, bb, Z, hc, hbb, hZ, hinv, ⟨hF.h6, hF.h7, hF.h8, hF.h9, hF.h10⟩, h11, h13, h15, h16, hS⟩
    clear hS hF h11 h13
    rintro ρ w3 ⟨c, bb, Z, hc, hbb, hZ, hinv, hF, h11, h13, h15, h16, hS⟩
    repeat (with_reducible first | refine c_seq ?_ | refine c_block ?_ | refine c_skip ?_ | refine x_then ?_ | refine x_block ?_)
    have x1 := limb_le Z n
    have hgX := hgU Z n (Nat.le_refl _)
    repeat (with_reducible first | refine c_seq ?_ | refine c_block ?_ | refine c_skip ?_ | refine x_then ?_ | refine x_block ?_)
    refine c_reg ?_
    refine l_pure rfl (s_move  h15 ?_)
    refine l_pure rfl (s_move  h16 ?_)
    refine l_pure rfl (s_add  rfl rfl (r := ((c + bb : Nat) : Int)) (by exact wr_u64 _ ⟨by push_cast; rfl, by omega, by omega⟩) ?_)
    refine l_pure rfl (s_asg  rfl ?_)
    refine l_nil ?_
    repeat (with_reducible first | refine c_seq ?_ | refine c_block ?_ | refine c_skip ?_ | refine x_then ?_ | refine x_block ?_)
    refine c_reg ?_
    refine l_pure rfl (s_move  hF.h8 ?_)
    refine l_pure rfl (s_move  h11 ?_)
    refine l_pure rfl (s_move  hF.h6 ?_)
    refine l_pure rfl (s_add  rfl rfl (IntWalk.i64_in _ (by omega)) ?_)
    refine l_pure rfl (s_ixo (i := j + n)  rfl rfl (by omega) (by first | omega | (simp; done) | (simp; omega)) si_91 ?_)
    refine l_read rfl (s_ldk (k := 2) (i := j + n)  rfl vi_94 hS rfl (by omega) (by first | omega | (simp; done) | (simp; omega)) ?_)
    refine l_pure rfl (s_conv  rfl Tryz.underlying95 ⟨_, Tryz.underlying94⟩ (r := ((dgt B32 Z n : Nat) : Int)) (by rw [hgX]; exact wr_u64 _ ⟨rfl, by omega, by omega⟩) ?_)
    refine l_pure rfl (s_asg  rfl ?_)
    refine l_nil ?_
    repeat (with_reducible first | refine c_seq ?_ | refine c_block ?_ | refine c_skip ?_ | refine x_then ?_ | refine x_block ?_)
    refine c_reg ?_
    refine l_pure rfl (s_move  rfl ?_)
    refine l_pure rfl (s_move  rfl ?_)
    refine l_pure rfl (s_lss  rfl rfl ?_)
    refine l_pure rfl (s_asg  rfl ?_)
    refine l_nil ?_
    repeat (with_reducible first | refine c_seq ?_ | refine c_block ?_ | refine c_skip ?_ | refine x_then ?_ | refine x_block ?_)
    obtain ⟨u', hu'⟩ : ∃ u', u' = (dgt B32 Z n + 4294967296 - (c + bb)) % 4294967296 := ⟨_, rfl⟩
    obtain ⟨b', hb'⟩ : ∃ b', b' = if dgt B32 Z n < c + bb then 1 else 0 := ⟨_, rfl⟩
    have hub : u' + (c + bb) = dgt B32 Z n + 4294967296 * b' := by rw [hu', hb']; exact top_borrow _ _ x1 (by omega)
    have hb1 : b' ≤ 1 := by rw [hb']; split <;> omega
    have hbc : (b' = 0 ↔ ¬ dgt B32 Z n < c + bb) := by rw [hb']; split <;> omega
    have hul : u' < B32 := by rw [hu']; exact Nat.mod_lt _ (by decide)
    repeat (with_reducible first | refine c_seq ?_ | refine c_block ?_ | refine c_skip ?_ | refine x_then ?_ | refine x_block ?_)
    refine c_reg ?_
    refine l_pure rfl (s_move  hF.h8 ?_)
    refine l_pure rfl (s_move  h11 ?_)
    refine l_pure rfl (s_move  hF.h6 ?_)
    refine l_pure rfl (s_add  rfl rfl (IntWalk.i64_in _ (by omega)) ?_)
    refine l_pure rfl (s_move  rfl ?_)
    refine l_pure rfl (s_move  rfl ?_)
    refine l_pure rfl (s_sub  rfl rfl rfl ?_)
    refine l_pure rfl (s_conv  rfl Tryz.underlying94 ⟨_, Tryz.underlying95⟩ (r := ((u' : Nat) : Int)) (by rw [hu']; exact top_sub _ _ x1 (by omega)) ?_)
    refine l_pure rfl (s_ixo (i := j + n)  rfl rfl (by omega) (by first | omega | (simp; done) | (simp; omega)) si_91 ?_)
    refine l_heavy rfl (s_stk (k := 2) (i := j + n) (a := _)  rfl rfl rfl vi_94 hS rfl (by omega) (by first | omega | (simp; done) | (simp; omega)) ?_)
    intro wz7 hS
    refine l_nil ?_
    repeat (with_reducible first | refine c_seq ?_ | refine c_block ?_ | refine c_skip ?_ | refine x_then ?_ | refine x_block ?_)
    obtain ⟨Y', e1, e2, e3⟩ := pad_set_off (b := B32) (lo := lo) (X := Z) (o := j) (k := n) (d := u') (n := m + 1) (by decide) hlo hul (by omega)
    have hY' := e3 _ (by omega) hZ
    rw [set2, e1] at hS
    have hYU : Y' + g * D = U + B32 ^ (n + 1) * b' := by
      have f2 : B32 ^ (n + 1) * b' = B32 ^ n * (4294967296 * b') := by rw [Nat.pow_succ, Nat.mul_assoc]
      have f4 : B32 ^ n * dgt B32 Z n + B32 ^ n * (4294967296 * b') = B32 ^ n * u' + B32 ^ n * (c + bb) := by
        rw [← Nat.mul_add, ← Nat.mul_add]; congr 1; omega
      omega
    clear e1 e2 e3 hub hu' hb' hgX x1 hinv
    repeat (with_reducible first | refine c_seq ?_ | refine c_block ?_ | refine c_skip ?_ | refine x_then ?_ | refine x_block ?_)
    refine c_reg ?_
    refine l_pure rfl (s_move  rfl ?_)
    refine l_nil ?_
    repeat (with_reducible first | refine c_seq ?_ | refine c_block ?_ | refine c_skip ?_ | refine x_then ?_ | refine x_block ?_)
    have hdm := Nat.div_add_mod U D
    have hDpos : 0 < D := hkn.dpos
    refine c_cut1 (fun ρ w' => LF ρ n s m M bu bv b1 ∧ ρ 11 = .int .i64 j ∧ ρ 13 = .int .u64 (U / D : Nat) ∧
        St w w' [(b1, 94, Kr .u32 (pad B32 (B32 ^ k * Q) M)), (bv, 94, Kr .u32 (pad B32 D (n + 1))), (bu, 94, Kr .u32 (pad B32 (lo + B32 ^ j * (U % D)) (m + 1)))]) ?_ ?_
    · repeat (with_reducible first | refine c_seq ?_ | refine c_block ?_ | refine c_skip ?_ | refine x_then ?_ | refine x_block ?_)
      by_cases hb0 : b' = 0
      · refine c_no rfl (decide_eq_false (by have := hbc.1 hb0; omega)) ?_
        repeat (with_reducible first | refine c_seq ?_ | refine c_block ?_ | refine c_skip ?_ | refine x_then ?_ | refine x_block ?_)
        rw [hb0, Nat.mul_zero, Nat.add_zero] at hYU
        have hg1 : g ≤ U / D := (Nat.le_div_iff_mul_le hDpos).2 (by omega)
        have hgq : g = U / D := by omega
        have hYm : Y' = U % D := by rw [hgq, Nat.mul_comm] at hYU; omega
        rw [hYm] at hS
        exact ⟨_, rfl, ⟨hF.h6, hF.h7, hF.h8, hF.h9, hF.h10⟩, h11, h13.trans (by rw [hgq]), hS⟩
      · refine c_yes rfl (decide_eq_true (by have := fun h => hb0 (hbc.2 h); omega)) ?_
        repeat (with_reducible first | refine c_seq ?_ | refine c_block ?_ | refine c_skip ?_ | refine x_then ?_ | refine x_block ?_)
        obtain rfl : b' = 1 := by omega
        have hgq : g = U / D + 1 := by
          rcases Nat.lt_or_ge (U / D) g with h | h
          · omega
          · exfalso
            have : g * D ≤ U := (Nat.le_div_iff_mul_le hDpos).1 h
            omega
        have hYR : Y' + D = U % D + B32 ^ (n + 1) := by
          rw [hgq, Nat.add_mul, Nat.one_mul, Nat.mul_comm] at hYU; omega
        repeat (with_reducible first | refine c_seq ?_ | refine c_block ?_ | refine c_skip ?_ | refine x_then ?_ | refine x_block ?_)
        refine c_reg ?_
        refine l_pure rfl (s_move  h13 ?_)
        refine l_pure rfl (s_sub  rfl rfl (r := ((U / D : Nat) : Int)) (by rw [hgq]; exact wr_u64 _ ⟨by push_cast; omega, Int.natCast_nonneg _, by generalize U / D = z at hq0 ⊢; omega⟩) ?_)
        refine l_pure rfl (s_asg  rfl ?_)
        refine l_nil ?_
        repeat (with_reducible first | refine c_seq ?_ | refine c_block ?_ | refine c_skip ?_ | refine x_then ?_ | refine x_block ?_)
        refine c_reg ?_
        refine l_pure rfl (s_asg  rfl ?_)
        refine l_nil ?_
        repeat (with_reducible first | refine c_seq ?_ | refine c_block ?_ | refine c_skip ?_ | refine x_then ?_ | refine x_block ?_)
        refine c_reg ?_
        refine l_pure rfl (s_asg  rfl ?_)
        refine l_nil ?_
        repeat (with_reducible first | refine c_seq ?_ | refine c_skip ?_ | refine x_then ?_ | refine x_block ?_)
        refine c_cut1 (fun ρ w' => ∃ c Z, c ≤ 1 ∧ Z < B32 ^ (n + 1) ∧ Z + B32 ^ n * c = Y' + D ∧ LF ρ n s m M bu bv b1 ∧ ρ 11 = .int .i64 j ∧ ρ 13 = .int .u64 (U / D : Nat) ∧ ρ 15 = .int .u64 (c : Nat) ∧
            St w w' [(b1, 94, Kr .u32 (pad B32 (B32 ^ k * Q) M)), (bv, 94, Kr .u32 (pad B32 D (n + 1))), (bu, 94, Kr .u32 (pad B32 (lo + B32 ^ j * Z) (m + 1)))]) ?_ ?_
        · repeat (with_reducible first | refine c_seq ?_ | refine c_block ?_ | refine c_skip ?_ | refine x_then ?_ | refine x_block ?_)
          refine c_loop (σ := Nat × Nat × Nat) (fun t ρ w' => t.1 ≤ n ∧ t.2.1 ≤ 1 ∧ t.2.2 < B32 ^ (n + 1) ∧ t.2.2 + B32 ^ t.1 * t.2.1 = Y' + D % B32 ^ t.1 ∧ LF ρ n s m M bu bv b1 ∧ ρ 11 = .int .i64 j ∧ ρ 13 = .int .u64 (U / D : Nat) ∧ ρ 15 = .int .u64 t.2.1 ∧ ρ 23 = .int .i64 t.1 ∧
              St w w' [(b1, 94, Kr .u32 (pad B32 (B32 ^ k * Q) M)), (bv, 94, Kr .u32 (pad B32 D (n + 1))), (bu, 94, Kr .u32 (pad B32 (lo + B32 ^ j * t.2.2) (m + 1)))]) (fun t => n - t.1) (0, 0, Y')
            ⟨Nat.zero_le _, Nat.zero_le _, hY', by simp [Nat.mod_one], ⟨hF.h6, hF.h7, hF.h8, hF.h9, hF.h10⟩, h11, rfl, rfl, rfl, hS⟩ ?_
          clear hS hF h11 h13 h15 h16
          rintro ⟨i, c, Z⟩ ρ w3 ⟨hi, hc, hZ, hinv, hF, h11, h13, h15, h23, hS⟩
          simp only at hi hc hZ hinv h15 h23 hS
          repeat (with_reducible first | refine c_seq ?_ | refine c_block ?_ | refine c_skip ?_ | refine x_then ?_ | refine x_block ?_)
          refine c_reg ?_
          refine l_pure rfl (s_move  h23 ?_)
          refine l_pure rfl (s_move  hF.h6 ?_)
          refine l_pure rfl (s_lss  rfl rfl ?_)
          refine l_nil ?_
          repeat (with_reducible first | refine c_seq ?_ | refine c_block ?_ | refine c_skip ?_ | refine x_then ?_ | refine x_block ?_)
          by_cases hlt : i < n
          · refine c_yes rfl (decide_eq_true (by omega)) ?_
            repeat (with_reducible first | refine c_seq ?_ | refine c_block ?_ | refine c_skip ?_ | refine x_then ?_ | refine x_block ?_)
            have x1 := limb_le Z i
            have d1 := limb_le D i
            have hgX := hgU Z i hi
            obtain ⟨t, ht⟩ : ∃ t, t = dgt B32 Z i + dgt B32 D i + c := ⟨_, rfl⟩
            repeat (with_reducible first | refine c_seq ?_ | refine c_block ?_ | refine c_skip ?_ | refine x_then ?_ | refine x_block ?_)
            refine c_draw [(0, .pure), (1, .pure), (2, .pure), (3, .pure), (4, .pure), (5, .pure), (6, .read), (7, .pure), (8, .pure), (9, .pure), (10, .pure), (11, .pure), (12, .read), (13, .pure), (14, .pure), (15, .pure)] (by kernel_rfl) (by kernel_rfl) hS ?_
            intro wz8 hS hBz8
            refine w_pure rfl rfl (s_move  h15 ?_)
            refine w_pure rfl rfl (s_move  hF.h8 ?_)
            refine w_pure rfl rfl (s_move  h11 ?_)
            refine w_pure rfl rfl (s_move  h23 ?_)
            refine w_pure rfl rfl (s_add  rfl rfl (IntWalk.i64_in _ (by omega)) ?_)
            refine w_pure rfl rfl (s_ixo (i := j + i)  rfl rfl (by omega) (by first | omega | (simp; done) | (simp; omega)) si_91 ?_)
            refine w_read rfl rfl (s_ldk (k := 2) (i := j + i)  rfl vi_94 hS rfl (by omega) (by first | omega | (simp; done) | (simp; omega)) ?_)
            refine w_pure rfl rfl (s_conv  rfl Tryz.underlying95 ⟨_, Tryz.underlying94⟩ (r := ((dgt B32 Z i : Nat) : Int)) (by rw [hgX]; exact wr_u64 _ ⟨rfl, by omega, by omega⟩) ?_)
            refine w_pure rfl rfl (s_add  rfl rfl (r := ((c + dgt B32 Z i : Nat) : Int)) (by exact wr_u64 _ ⟨by push_cast; rfl, by omega, by omega⟩) ?_)
            refine w_pure rfl rfl (s_move  hF.h9 ?_)
            refine w_pure rfl rfl (s_move  h23 ?_)
            refine w_pure rfl rfl (s_ixo (i := i)  rfl rfl (by omega) (by first | omega | (simp; done) | (simp; omega)) si_91 ?_)
            refine w_read rfl rfl (s_ldk (k := 1) (i := i)  rfl vi_94 hS rfl (by omega) (by first | omega | (simp; done) | (simp; omega)) ?_)
            refine w_pure rfl rfl (s_conv  rfl Tryz.underlying95 ⟨_, Tryz.underlying94⟩ (r := ((dgt B32 D i : Nat) : Int)) (by rw [hgD i (by omega)]; exact wr_u64 _ ⟨rfl, by omega, by omega⟩) ?_)
            refine w_pure rfl rfl (s_add  rfl rfl (r := ((t : Nat) : Int)) (by rw [ht]; exact wr_u64 _ ⟨by omega, by omega, by omega⟩) ?_)
            refine w_pure rfl rfl (s_asg  rfl ?_)
            refine w_end ?_
            repeat (with_reducible first | refine c_seq ?_ | refine c_block ?_ | refine c_skip ?_ | refine x_then ?_ | refine x_block ?_)
            refine c_reg ?_
            refine l_pure rfl (s_move  hF.h8 ?_)
            refine l_pure rfl (s_move  h11 ?_)
            refine l_pure rfl (s_move  h23 ?_)
            refine l_pure rfl (s_add  rfl rfl (IntWalk.i64_in _ (by omega)) ?_)
            refine l_pure rfl (s_move  rfl ?_)
            refine l_pure rfl (s_conv  rfl Tryz.underlying94 ⟨_, Tryz.underlying95⟩ (u32_mod _) ?_)
            refine l_pure rfl (s_ixo (i := j + i)  rfl rfl (by omega) (by first | omega | (simp; done) | (simp; omega)) si_91 ?_)
            refine l_heavy rfl (s_stk (k := 2) (i := j + i) (a := _)  rfl rfl rfl vi_94 hS rfl (by omega) (by first | omega | (simp; done) | (simp; omega)) ?_)
            intro wz9 hS
            refine l_nil ?_
            repeat (with_reducible first | refine c_seq ?_ | refine c_block ?_ | refine c_skip ?_ | refine x_then ?_ | refine x_block ?_)
            refine c_reg ?_
            refine l_pure rfl (s_move  rfl ?_)
            refine l_pure rfl (s_shr  rfl rfl (by omega) (r := ((t / 4294967296 : Nat) : Int)) (by exact shr_v _ 32 (by decide)) ?_)
            refine l_pure rfl (s_asg  rfl ?_)
            refine l_nil ?_
            repeat (with_reducible first | refine c_seq ?_ | refine c_block ?_ | refine c_skip ?_ | refine x_then ?_ | refine x_block ?_)
            obtain ⟨Z', e1, e2, e3⟩ := pad_set_off (b := B32) (lo := lo) (X := Z) (o := j) (k := i) (d := t % 4294967296) (n := m + 1) (by decide) hlo (Nat.mod_lt _ (by decide)) (by omega)
            rw [set2, e1] at hS
            repeat (with_reducible first | refine c_seq ?_ | refine c_block ?_ | refine c_skip ?_ | refine x_then ?_ | refine x_block ?_)
            refine c_reg ?_
            refine l_pure rfl (s_move  h23 ?_)
            refine l_pure rfl (s_add  rfl rfl (IntWalk.i64_in _ (by omega)) ?_)
            refine l_pure rfl (s_asg  rfl ?_)
            refine l_nil ?_
            repeat (with_reducible first | refine c_seq ?_ | refine c_block ?_ | refine c_skip ?_ | refine x_then ?_ | refine x_block ?_)
            refine ⟨(i + 1, t / 4294967296, Z'), _, rfl, ⟨hlt, by simp only; omega, e3 _ (by omega) hZ, ?_, ⟨hF.h6, hF.h7, hF.h8, hF.h9, hF.h10⟩, h11, h13, rfl, vi rfl (by simp), hS⟩, by simp only; omega⟩
            simp only
            have f2 : B32 ^ (i + 1) * (t / 4294967296) = B32 ^ i * (4294967296 * (t / 4294967296)) := by rw [Nat.pow_succ, Nat.mul_assoc]
            have f4 : B32 ^ i * (t % 4294967296) + B32 ^ i * (4294967296 * (t / 4294967296)) = B32 ^ i * dgt B32 Z i + B32 ^ i * dgt B32 D i + B32 ^ i * c := by
              rw [← Nat.mul_add, Nat.mod_add_div, ht, Nat.mul_add, Nat.mul_add]
            rw [mod_pow_succ, f2]
            omega
          · refine c_no rfl (decide_eq_false (by omega)) ?_
            repeat (with_reducible first | refine c_seq ?_ | refine c_block ?_ | refine c_skip ?_ | refine x_then ?_ | refine x_block ?_)
            refine c_exit ?_
            repeat (with_reducible first | refine x_then_exit ?_ | refine x_block_exit ?_ | refine x_block_pass rfl ?_)
            repeat (with_reducible first | refine c_seq ?_ | refine c_block ?_ | refine c_skip ?_ | refine x_then ?_ | refine x_block ?_)
            obtain rfl : i = n := by omega
            rw [Nat.mod_eq_of_lt hD] at hinv
            exact ⟨_, rfl, c, Z, hc, hZ, hinv, ⟨hF.h6, hF.h7, hF.h8, hF.h9, hF.h10⟩, h11, h13, h15, hS⟩
        clear hS hF h11 h13 h15 h16
        rintro ρ w4 ⟨c, Z, hc, hZ, hinv, hF, h11, h13, h15, hS⟩
        repeat (with_reducible first | refine c_seq ?_ | refine c_block ?_ | refine c_skip ?_ | refine x_then ?_ | refine x_block ?_)
        have x1 := limb_le Z n
        have hgX := hgU Z n (Nat.le_refl _)
        repeat (with_reducible first | refine c_seq ?_ | refine c_block ?_ | refine c_skip ?_ | refine x_then ?_ | refine x_block ?_)
        refine c_reg ?_
        refine l_pure rfl (s_move  hF.h8 ?_)
        refine l_pure rfl (s_move  h11 ?_)
        refine l_pure rfl (s_move  hF.h6 ?_)
        refine l_pure rfl (s_add  rfl rfl (IntWalk.i64_in _ (by omega)) ?_)
        refine l_pure rfl (s_move  hF.h8 ?_)
        refine l_pure rfl (s_move  h11 ?_)
        refine l_pure rfl (s_move  hF.h6 ?_)
        refine l_pure rfl (s_add  rfl rfl (IntWalk.i64_in _ (by omega)) ?_)
        refine l_pure rfl (s_ixo (i := j + n)  rfl rfl (by omega) (by first | omega | (simp; done) | (simp; omega)) si_91 ?_)
        refine l_read rfl (s_ldk (k := 2) (i := j + n)  rfl vi_94 hS rfl (by omega) (by first | omega | (simp; done) | (simp; omega)) ?_)
        refine l_pure rfl (s_move  h15 ?_)
        refine l_pure rfl (s_conv  rfl Tryz.underlying94 ⟨_, Tryz.underlying95⟩ (r := ((c : Nat) : Int)) (by exact wr_u32 _ ⟨rfl, by omega, by omega⟩) ?_)
        refine l_pure rfl (s_add  rfl rfl (r := (((dgt B32 Z n + c) % 4294967296 : Nat) : Int)) (by rw [hgX, wrapm_u32]; omega) ?_)
        refine l_pure rfl (s_ixo (i := j + n)  rfl rfl (by omega) (by first | omega | (simp; done) | (simp; omega)) si_91 ?_)
        refine l_heavy rfl (s_stk (k := 2) (i := j + n) (a := _)  rfl rfl rfl vi_94 hS rfl (by omega) (by first | omega | (simp; done) | (simp; omega)) ?_)
        intro wz10 hS
        refine l_nil ?_
        repeat (with_reducible first | refine c_seq ?_ | refine c_block ?_ | refine c_skip ?_ | refine x_then ?_ | refine x_block ?_)
        obtain ⟨W, e1, e2, e3⟩ := pad_set_off (b := B32) (lo := lo) (X := Z) (o := j) (k := n) (d := (dgt B32 Z n + c) % 4294967296) (n := m + 1) (by decide) hlo (Nat.mod_lt _ (by decide)) (by omega)
        rw [set2, e1] at hS
        have hW : W = U % D := by
          have hR : U % D < B32 ^ n := Nat.lt_trans (Nat.mod_lt _ hDpos) hD
          have hpos : 0 < B32 ^ n := Nat.pow_pos (by decide)
          have htop : dgt B32 Z n = Z / B32 ^ n := dgt_top (by decide) hZ
          have hdz := Nat.div_add_mod Z (B32 ^ n)
          have hmz := Nat.mod_lt Z hpos
          have hsum : Z % B32 ^ n + B32 ^ n * (Z / B32 ^ n + c) = U % D + B32 ^ n * 4294967296 := by
            have : B32 ^ (n + 1) = B32 ^ n * 4294967296 := Nat.pow_succ ..
            rw [Nat.mul_add]; omega
          have hy : Z / B32 ^ n + c = 4294967296 := by
            have h1 : (Z % B32 ^ n + B32 ^ n * (Z / B32 ^ n + c)) / B32 ^ n = (U % D + B32 ^ n * 4294967296) / B32 ^ n := by rw [hsum]
            rwa [Nat.add_mul_div_left _ _ hpos, Nat.add_mul_div_left _ _ hpos, Nat.div_eq_of_lt hmz, Nat.div_eq_of_lt hR, Nat.zero_add, Nat.zero_add] at h1
          rw [htop, hy] at e2
          rw [hy] at hsum
          simp only [Nat.mod_self, Nat.mul_zero, Nat.add_zero] at e2
          omega
        rw [hW] at hS
        exact ⟨_, rfl, ⟨hF.h6, hF.h7, hF.h8, hF.h9, hF.h10⟩, h11, h13, hS⟩
    clear hS hF h11 h13 h15 h16 hYU
    rintro ρ w4 ⟨hF, h11, h13, hS⟩
    repeat (with_reducible first | refine c_seq ?_ | refine c_block ?_ | refine c_skip ?_ | refine x_then ?_ | refine x_block ?_)
    refine c_reg ?_
    refine l_pure rfl (s_move  hF.h10 ?_)
    refine l_pure rfl (s_move  h11 ?_)
    refine l_pure rfl (s_move  h13 ?_)
    refine l_pure rfl (s_conv  rfl Tryz.underlying94 ⟨_, Tryz.underlying95⟩ (r := ((U / D : Nat) : Int)) (by exact wr_u32 _ ⟨rfl, Int.natCast_nonneg _, by generalize U / D = z at hq0 ⊢; omega⟩) ?_)
    refine l_pure rfl (s_ixo (i := j)  rfl rfl (by omega) (by first | omega | (simp; done) | (simp; omega)) si_91 ?_)
    refine l_heavy rfl (s_stk (k := 0) (i := j) (a := (U / D))  rfl rfl rfl vi_94 hS rfl (by omega) (by first | omega | (simp; done) | (simp; omega)) ?_)
    intro wz11 hS
    refine l_nil ?_
    repeat (with_reducible first | refine c_seq ?_ | refine c_block ?_ | refine c_skip ?_ | refine x_then ?_ | refine x_block ?_)
    rw [List.set_cons_zero, hj, eq1, ← hj] at hS
    repeat (with_reducible first | refine c_seq ?_ | refine c_block ?_ | refine c_skip ?_ | refine x_then ?_ | refine x_block ?_)
    refine c_reg ?_
    refine l_pure rfl (s_move  h11 ?_)
    refine l_pure rfl (s_sub  rfl rfl (IntWalk.i64_in _ (by omega)) ?_)
    refine l_pure rfl (s_asg  rfl ?_)
    refine l_nil ?_
    repeat (with_reducible first | refine c_seq ?_ | refine c_block ?_ | refine c_skip ?_ | refine x_then ?_ | refine x_block ?_)
    exact ⟨(j, B32 * Q + U / D, lo + B32 ^ j * (U % D)), _, rfl, ⟨by simp only; omega, hinv2, hV2, ⟨hF.h6, hF.h7, hF.h8, hF.h9, hF.h10⟩, rfl, hS⟩, by simp only; omega⟩
  · refine c_no rfl (decide_eq_false (by omega)) ?_
    repeat (with_reducible first | refine c_seq ?_ | refine c_block ?_ | refine c_skip ?_ | refine x_then ?_ | refine x_block ?_)
    refine c_exit ?_
    repeat (with_reducible first | refine x_then_exit ?_ | refine x_block_exit ?_ | refine x_block_pass rfl ?_)
    repeat (with_reducible first | refine c_seq ?_ | refine c_block ?_ | refine c_skip ?_ | refine x_then ?_ | refine x_block ?_)
    obtain rfl : k = 0 := by omega
    rw [Nat.pow_zero, Nat.mul_one] at hinv hV
    rw [Nat.pow_zero, Nat.one_mul] at hS
    rw [hDe] at hinv hV
    obtain ⟨f1, f2, f3⟩ := divmod_unique hpc hinv hV
    rw [← hDe] at hinv hV
    have hQM : Q < B32 ^ M := by
      rcases Nat.lt_or_ge Q (B32 ^ M) with h | h
      · exact h
      · exfalso
        have h3 : D * B32 ^ M ≤ D * Q := Nat.mul_le_mul_left _ h
        rw [Nat.mul_comm D Q] at h3
        omega
    have hVn : V < B32 ^ n := by omega
    repeat (with_reducible first | refine c_seq ?_ | refine c_block ?_ | refine c_skip ?_ | refine x_then ?_ | refine x_block ?_)
    refine c_reg ?_
    refine l_pure rfl (s_move  hF.h6 ?_)
    refine l_heavy rfl (s_makek (n := n)  rfl rfl si_91 (by omega) (by omega) (by omega) (by omega) hS ?_)
    intro b12 wz13 hS hBz13
    refine l_pure rfl (s_asg  rfl ?_)
    refine l_nil ?_
    repeat (with_reducible first | refine c_seq ?_ | refine c_block ?_ | refine c_skip ?_ | refine x_then ?_ | refine x_block ?_)
    refine c_reg ?_
    refine l_pure rfl (s_asg  rfl ?_)
    refine l_nil ?_
    repeat (with_reducible first | refine c_seq ?_ | refine c_block ?_ | refine c_skip ?_ | refine x_then ?_ | refine x_block ?_)
    rw [← pad_zero B32 n, show 0 = V / 2 ^ s % B32 ^ 0 by rw [Nat.pow_zero, Nat.mod_one]] at hS
    refine c_loop (σ := Nat) (fun i ρ w' => i ≤ n ∧ ρ 6 = .int .i64 n ∧ ρ 7 = .int .u64 s ∧ ρ 8 = .slice (some ⟨bu, 0, none⟩) (m + 1) (m + 1) ∧ ρ 10 = .slice (some ⟨b1, 0, none⟩) M M ∧ ρ 24 = .slice (some ⟨b12, 0, none⟩) n n ∧ ρ 25 = .int .i64 i ∧
        St w w' [(b12, 94, Kr .u32 (pad B32 (V / 2 ^ s % B32 ^ i) n)), (b1, 94, Kr .u32 (pad B32 Q M)), (bv, 94, Kr .u32 (pad B32 D (n + 1))), (bu, 94, Kr .u32 (pad B32 V (m + 1)))]) (fun i => n - i) 0
      ⟨Nat.zero_le _, hF.h6, hF.h7, hF.h8, hF.h10, rfl, rfl, hS⟩ ?_
    clear hS hF h11
    rintro i ρ w7 ⟨hi, h6, h7, h8, h10, h24, h25, hS⟩
    repeat (with_reducible first | refine c_seq ?_ | refine c_block ?_ | refine c_skip ?_ | refine x_then ?_ | refine x_block ?_)
    refine c_reg ?_
    refine l_pure rfl (s_move  h25 ?_)
    refine l_pure rfl (s_move  h6 ?_)
    refine l_pure rfl (s_lss  rfl rfl ?_)
    refine l_nil ?_
    repeat (with_reducible first | refine c_seq ?_ | refine c_block ?_ | refine c_skip ?_ | refine x_then ?_ | refine x_block ?_)
    by_cases hlt : i < n
    · refine c_yes rfl (decide_eq_true (by omega)) ?_
      repeat (with_reducible first | refine c_seq ?_ | refine c_block ?_ | refine c_skip ?_ | refine x_then ?_ | refine x_block ?_)
      have x1 := limb_le V i
      have x2 := limb_le V (i + 1)
      have hg1 : (pad B32 V (m + 1)).getD i 0 = dgt B32 V i := pad_getD _ _ (by omega)
      have hg2 : (pad B32 V (m + 1)).getD (i + 1) 0 = dgt B32 V (i + 1) := pad_getD _ _ (by omega)
      have hor : dgt B32 V (i + 1) * 2 ^ 32 ||| dgt B32 V i = dgt B32 V i + dgt B32 V (i + 1) * 4294967296 := by rw [Nat.or_comm, or_add _ _ 32 (by omega)]
      repeat (with_reducible first | refine c_seq ?_ | refine c_block ?_ | refine c_skip ?_ | refine x_then ?_ | refine x_block ?_)
      refine c_draw [(0, .pure), (1, .pure), (2, .pure), (3, .pure), (4, .pure), (5, .pure), (6, .read), (7, .pure), (8, .pure), (9, .pure), (10, .pure), (11, .pure), (12, .read), (13, .pure), (14, .pure), (15, .pure), (16, .pure), (17, .pure), (18, .pure), (19, .free)] (by kernel_rfl) (by kernel_rfl) hS ?_
      intro wz14 hS hBz14
      refine w_pure rfl rfl (s_move  h24 ?_)
      refine w_pure rfl rfl (s_move  h25 ?_)
      refine w_pure rfl rfl (s_move  h8 ?_)
      refine w_pure rfl rfl (s_move  h25 ?_)
      refine w_pure rfl rfl (s_add  rfl rfl (IntWalk.i64_in _ (by omega)) ?_)
      refine w_pure rfl rfl (s_ixo (i := i + 1)  rfl rfl (by omega) (by first | omega | (simp; done) | (simp; omega)) si_91 ?_)
      refine w_read rfl rfl (s_ldk (k := 3) (i := i + 1)  rfl vi_94 hS rfl (by omega) (by first | omega | (simp; done) | (simp; omega)) ?_)
      refine w_pure rfl rfl (s_conv  rfl Tryz.underlying95 ⟨_, Tryz.underlying94⟩ (r := ((dgt B32 V (i + 1) : Nat) : Int)) (by rw [hg2]; exact wr_u64 _ ⟨rfl, by omega, by omega⟩) ?_)
      refine w_pure rfl rfl (s_shl  rfl rfl (by omega) (r := ((dgt B32 V (i + 1) * 2 ^ 32 : Nat) : Int)) (by exact shl_v _ 32 _ (by decide) (wr_u64 _ ⟨rfl, by omega, by omega⟩)) ?_)
      refine w_pure rfl rfl (s_move  h8 ?_)
      refine w_pure rfl rfl (s_move  h25 ?_)
      refine w_pure rfl rfl (s_ixo (i := i)  rfl rfl (by omega) (by first | omega | (simp; done) | (simp; omega)) si_91 ?_)
      refine w_read rfl rfl (s_ldk (k := 3) (i := i)  rfl vi_94 hS rfl (by omega) (by first | omega | (simp; done) | (simp; omega)) ?_)
      refine w_pure rfl rfl (s_conv  rfl Tryz.underlying95 ⟨_, Tryz.underlying94⟩ (r := ((dgt B32 V i : Nat) : Int)) (by rw [hg1]; exact wr_u64 _ ⟨rfl, by omega, by omega⟩) ?_)
      refine w_pure rfl rfl (s_or  rfl rfl (r := ((dgt B32 V i + dgt B32 V (i + 1) * 4294967296 : Nat) : Int)) (by rw [← hor]; exact or_nat rfl _ _ (by show _ < 18446744073709551616; omega) (by show _ < 18446744073709551616; omega)) ?_)
      refine w_pure rfl rfl (s_move  h7 ?_)
      refine w_pure rfl rfl (s_shr  rfl rfl (by omega) (shr_v _ s (show s ≤ 64 by omega)) ?_)
      refine w_pure rfl rfl (s_conv  rfl Tryz.underlying94 ⟨_, Tryz.underlying95⟩ (u32_mod _) ?_)
      refine w_pure rfl rfl (s_ixo (i := i)  rfl rfl (by omega) (by first | omega | (simp; done) | (simp; omega)) si_91 ?_)
      refine w_free rfl rfl (s_stk (k := 0) (i := i) (a := _)  rfl rfl rfl vi_94 hS rfl (by omega) (by first | omega | (simp; done) | (simp; omega)) ?_)
      intro wz15 hS
      refine w_end ?_
      repeat (with_reducible first | refine c_seq ?_ | refine c_block ?_ | refine c_skip ?_ | refine x_then ?_ | refine x_block ?_)
      rw [List.set_cons_zero, unshift_dgt V s i (by omega), pad_next (by decide)] at hS
      repeat (with_reducible first | refine c_seq ?_ | refine c_block ?_ | refine c_skip ?_ | refine x_then ?_ | refine x_block ?_)
      refine c_reg ?_
      refine l_pure rfl (s_move  h25 ?_)
      refine l_pure rfl (s_add  rfl rfl (IntWalk.i64_in _ (by omega)) ?_)
      refine l_pure rfl (s_asg  rfl ?_)
      refine l_nil ?_
      repeat (with_reducible first | refine c_seq ?_ | refine c_block ?_ | refine c_skip ?_ | refine x_then ?_ | refine x_block ?_)
      exact ⟨i + 1, _, rfl, ⟨hlt, h6, h7, h8, h10, h24, vi rfl (by omega), hS⟩, by omega⟩
    · refine c_no rfl (decide_eq_false (by omega)) ?_
      repeat (with_reducible first | refine c_seq ?_ | refine c_block ?_ | refine c_skip ?_ | refine x_then ?_ | refine x_block ?_)
      refine c_exit ?_
      repeat (with_reducible first | refine x_then_exit ?_ | refine x_block_exit ?_ | refine x_block_pass rfl ?_)
      repeat (with_reducible first | refine c_seq ?_ | refine c_block ?_ | refine c_skip ?_ | refine x_then ?_ | refine x_block ?_)
      obtain rfl : i = n := by omega
      have hlt3 : V / 2 ^ s < B32 ^ i := Nat.lt_of_le_of_lt (Nat.div_le_self _ _) hVn
      rw [Nat.mod_eq_of_lt hlt3] at hS
      have hslr := hS.slk (k := 0) rfl (n := i) (cap := i) (by simp) (Nat.le_refl _) (by omega)
      rw [List.take_of_length_le (by simp)] at hslr
      have hslq := hS.slk (k := 1) rfl (n := M) (cap := M) (by simp) (Nat.le_refl _) (by omega)
      rw [List.take_of_length_le (by simp)] at hslq
      repeat (with_reducible first | refine c_seq ?_ | refine c_block ?_ | refine c_skip ?_ | refine x_then ?_ | refine x_block ?_)
      refine c_reg ?_
      refine l_pure rfl (s_move  h10 ?_)
      refine l_heavy rfl (s_call Tryz.call101 rfl (rstrip_ok _ _ _ hslq (pad_lt (by decide) _ _)) ?_)
      rintro _ wq16 ⟨hq, hq16⟩
      replace hq16 := hq16.symm
      subst hq16
      refine l_pure rfl (s_move  h24 ?_)
      refine l_heavy rfl (s_call Tryz.call101 rfl (rstrip_ok _ _ _ hslr (pad_lt (by decide) _ _)) ?_)
      rintro _ wq17 ⟨hr, hq17⟩
      replace hq17 := hq17.symm
      subst hq17
      refine l_pure rfl (s_asg  rfl ?_)
      refine l_pure rfl (s_asg  rfl ?_)
      refine l_nil ?_
      repeat (with_reducible first | refine c_seq ?_ | refine c_block ?_ | refine c_skip ?_ | refine x_then ?_ | refine x_block ?_)
      refine c_ret ?_
      repeat (with_reducible first | refine x_then_ret ?_ | refine x_block_ret ?_)
      refine r_two rfl rfl rfl ?_
      rw [ofDigs_pad_lt hQM, ← f1] at hq
      rw [ofDigs_pad_lt hlt3, f3] at hr
      exact ⟨⟨_, _, rfl, hq, hr⟩, hS.below⟩
end Go.Proofs.YtmghobajmhdbfaaGreatDoor
namespace Go.Proofs.YtmghobajmhdbfaaGreatDoor
open Go Go.RowKit Go.Sx
theorem rdivide_ok (vx vy : Value) (X Y : Nat) (w : World) (hx : Sl (uk .u32) 1 w vx (limb X)) (hy : Sl (uk .u32) 1 w vy (limb Y)) (hY0 : 0 < Y) (hmx : (limb X).length ≤ 4398046511104) :
    Ret Tryz.prog 103 #[vx, vy] w fun r w' => (∃ q s, r = .tuple #[q, s] ∧ Sl (uk .u32) 1 w' q (limb (X / Y)) ∧ Sl (uk .u32) 1 w' s (limb (X % Y))) ∧ Below w.heap.size w w' := by
  have hB : B32 = 4294967296 := rfl
  have hS := St.init w
  obtain ⟨n, hn⟩ : ∃ n, n = (limb Y).length := ⟨_, rfl⟩
  have hYn : Y < B32 ^ n := hn ▸ limb_lt_pow Y
  obtain ⟨hn0, _⟩ := top_pos hY0
  rw [← hn] at hn0
  refine enter Tryz.func103 rfl Tryz.ntmps103 rfl ?_
  repeat (with_reducible first | refine c_seq ?_ | refine c_block ?_ | refine c_skip ?_ | refine x_then ?_ | refine x_block ?_)
  refine c_reg ?_
  refine l_pure rfl (s_asg  rfl ?_)
  refine l_pure rfl (s_asg  rfl ?_)
  refine l_nil ?_
  repeat (with_reducible first | refine c_seq ?_ | refine c_block ?_ | refine c_skip ?_ | refine x_then ?_ | refine x_block ?_)
  refine c_reg ?_
  refine l_pure rfl (s_move  rfl ?_)
  refine l_pure rfl (s_move  rfl ?_)
  refine l_heavy rfl (s_call Tryz.call81 rfl (rorder_ok _ _ _ _ _ (hx.below hS.below) (hy.below hS.below)) ?_)
  rintro _ wc1 ⟨rfl, hBc1⟩
  replace hS := hS.grow hBc1
  refine l_pure rfl (s_lss  rfl rfl ?_)
  refine l_nil ?_
  repeat (with_reducible first | refine c_seq ?_ | refine c_block ?_ | refine c_skip ?_ | refine x_then ?_ | refine x_block ?_)
  by_cases hlt : X < Y
  · refine c_yes rfl (decide_eq_true (by rw [cmpI_lt hlt]; decide)) ?_
    repeat (with_reducible first | refine c_seq ?_ | refine c_block ?_ | refine c_skip ?_ | refine x_then ?_ | refine x_block ?_)
    refine c_reg ?_
    refine l_pure rfl (s_move  rfl ?_)
    refine l_pure rfl (s_asg  rfl ?_)
    refine l_pure rfl (s_asg  rfl ?_)
    refine l_nil ?_
    repeat (with_reducible first | refine c_seq ?_ | refine c_block ?_ | refine c_skip ?_ | refine x_then ?_ | refine x_block ?_)
    refine c_ret ?_
    repeat (with_reducible first | refine x_then_ret ?_ | refine x_block_ret ?_)
    refine r_two rfl rfl rfl ?_
    refine ⟨⟨_, _, rfl, ?_, ?_⟩, hS.below⟩
    · rw [Nat.div_eq_of_lt hlt, limb, digs_zero]; exact Sl.nil _ _ _
    · rw [Nat.mod_eq_of_lt hlt]; exact hx.below hS.below
  · have hge : Y ≤ X := Nat.le_of_not_lt hlt
    have hcmp : ¬ cmpI X Y < 0 := by
      rcases Nat.lt_or_ge Y X with h | h
      · rw [cmpI_gt h]; decide
      · rw [show X = Y by omega, cmpI_self]; decide
    refine c_no rfl (decide_eq_false hcmp) ?_
    repeat (with_reducible first | refine c_seq ?_ | refine c_block ?_ | refine c_skip ?_ | refine x_then ?_ | refine x_block ?_)
    refine c_reg ?_
    refine l_pure rfl (s_move  rfl ?_)
    refine l_pure rfl (s_lenr  rfl (hy.below hS.below) ⟨_, Tryz.underlying91⟩ ?_)
    refine l_pure rfl (s_eql  rfl rfl ?_)
    refine l_nil ?_
    repeat (with_reducible first | refine c_seq ?_ | refine c_block ?_ | refine c_skip ?_ | refine x_then ?_ | refine x_block ?_)
    by_cases h1 : n = 1
    · refine c_yes rfl (decide_eq_true (by omega)) ?_
      repeat (with_reducible first | refine c_seq ?_ | refine c_block ?_ | refine c_skip ?_ | refine x_then ?_ | refine x_block ?_)
      have hg : (limb Y).getD 0 0 = Y := by
        rw [limb_getD, dgt, Nat.pow_zero, Nat.div_one]
        rw [h1, Nat.pow_one] at hYn
        exact Nat.mod_eq_of_lt hYn
      have hYl : Y ≤ 4294967295 := by rw [h1, Nat.pow_one] at hYn; omega
      repeat (with_reducible first | refine c_seq ?_ | refine c_block ?_ | refine c_skip ?_ | refine x_then ?_ | refine x_block ?_)
      refine c_reg ?_
      refine l_pure rfl (s_move  rfl ?_)
      refine l_pure rfl (s_move  rfl ?_)
      refine l_pure rfl (s_ixr (i := 0)  rfl rfl (hy.below hS.below) (by omega) (by first | omega | (simp; done) | (simp; omega)) si_91 ?_)
      refine l_read rfl (s_lde (i := 0) 0  rfl vi_94 (hy.below hS.below) (by first | omega | (simp; done) | (simp; omega)) rfl rfl (.inr rfl) ?_)
      rw [hg]
      refine l_heavy rfl (s_call Tryz.call113 rfl (rshort_ok _ _ _ _ (hx.below hS.below) hY0 hYl (by omega)) ?_)
      rintro r w2 ⟨⟨q, rfl, hq⟩, hB2⟩
      replace hS := hS.grow hB2
      refine l_pure rfl (s_move  rfl ?_)
      refine l_pure rfl (s_ext  rfl rfl ?_)
      refine l_pure rfl (s_ext  rfl rfl ?_)
      refine l_pure rfl (s_asg  rfl ?_)
      refine l_pure rfl (s_asg  rfl ?_)
      refine l_nil ?_
      repeat (with_reducible first | refine c_seq ?_ | refine c_block ?_ | refine c_skip ?_ | refine x_then ?_ | refine x_block ?_)
      have hml : X % Y ≤ 4294967295 := by have := Nat.mod_lt X hY0; omega
      repeat (with_reducible first | refine c_seq ?_ | refine c_block ?_ | refine c_skip ?_ | refine x_then ?_ | refine x_block ?_)
      refine c_reg ?_
      refine l_pure rfl (s_move  rfl ?_)
      refine l_pure rfl (s_move  rfl ?_)
      refine l_heavy rfl (s_bsl (vs := [_])  rfl si_91 rfl (by decide) (by decide) (by decide) (by simp [Value.cells]) rfl hS ?_)
      intro b2 wz3 hS hBz3
      have hq1 := hq.below hBz3
      have hsl := St.slk (L := [X % Y]) hS (k := 0) rfl (n := 1) (cap := 1) (by simp) (by omega) (by omega)
      refine l_heavy rfl (s_call Tryz.call101 rfl (rstrip_ok _ _ _ hsl (by intro d hd; rw [List.take_of_length_le (by simp)] at hd; rw [List.mem_singleton.1 hd]; omega)) ?_)
      rintro _ wq4 ⟨hv, hq4⟩
      replace hq4 := hq4.symm
      subst hq4
      refine l_pure rfl (s_asg  rfl ?_)
      refine l_pure rfl (s_asg  rfl ?_)
      refine l_nil ?_
      repeat (with_reducible first | refine c_seq ?_ | refine c_block ?_ | refine c_skip ?_ | refine x_then ?_ | refine x_block ?_)
      refine c_ret ?_
      repeat (with_reducible first | refine x_then_ret ?_ | refine x_block_ret ?_)
      refine r_two rfl rfl rfl ?_
      refine ⟨⟨_, _, rfl, hq1, ?_⟩, hS.below⟩
      have e : ofDigs B32 ([X % Y].take 1) = X % Y := by simp [ofDigs]
      rwa [e] at hv
    · refine c_no rfl (decide_eq_false (by omega)) ?_
      repeat (with_reducible first | refine c_seq ?_ | refine c_block ?_ | refine c_skip ?_ | refine x_then ?_ | refine x_block ?_)
      refine c_reg ?_
      refine l_pure rfl (s_move  rfl ?_)
      refine l_pure rfl (s_move  rfl ?_)
      refine l_heavy rfl (s_call Tryz.call114 rfl (rlong_ok _ _ _ _ _ (hx.below hS.below) (hy.below hS.below) hge (by omega) hmx) ?_)
      rintro r w2 ⟨⟨q, s, rfl, hq, hs⟩, hB2⟩
      replace hS := hS.grow hB2
      refine l_pure rfl (s_ext  rfl rfl ?_)
      refine l_pure rfl (s_ext  rfl rfl ?_)
      refine l_pure rfl (s_asg  rfl ?_)
      refine l_pure rfl (s_asg  rfl ?_)
      refine l_nil ?_
      repeat (with_reducible first | refine c_seq ?_ | refine c_block ?_ | refine c_skip ?_ | refine x_then ?_ | refine x_block ?_)
      refine c_ret ?_
      repeat (with_reducible first | refine x_then_ret ?_ | refine x_block_ret ?_)
      refine r_two rfl rfl rfl ?_
      exact ⟨⟨_, _, rfl, hq, hs⟩, hS.below⟩
theorem rcommon_ok (vx vy : Value) (A B : Nat) (w : World) (hx : Sl (uk .u32) 1 w vx (limb A)) (hy : Sl (uk .u32) 1 w vy (limb B)) (hmx : (limb A).length ≤ 4398046511104) (hmy : (limb B).length ≤ 4398046511104) :
    Ret Tryz.prog 102 #[vx, vy] w fun r w' => Sl (uk .u32) 1 w' r (limb (Nat.gcd A B)) ∧ Below w.heap.size w w' := by
  have hS := St.init w
  refine enter Tryz.func102 rfl Tryz.ntmps102 rfl ?_
  repeat (with_reducible first | refine c_seq ?_ | refine c_block ?_ | refine c_skip ?_ | refine x_then ?_ | refine x_block ?_)
  refine c_reg ?_
  refine l_pure rfl (s_asg  rfl ?_)
  refine l_nil ?_
  repeat (with_reducible first | refine c_seq ?_ | refine c_block ?_ | refine c_skip ?_ | refine x_then ?_ | refine x_block ?_)
  refine c_loop (σ := Nat × Nat) (fun s ρ w' => Nat.gcd s.1 s.2 = Nat.gcd A B ∧ (limb s.1).length ≤ 4398046511104 ∧ (limb s.2).length ≤ 4398046511104 ∧ (∃ vx vy, ρ 0 = vx ∧ ρ 1 = vy ∧ Sl (uk .u32) 1 w' vx (limb s.1) ∧ Sl (uk .u32) 1 w' vy (limb s.2)) ∧ St w w' []) (fun s => s.2) (A, B)
    ⟨rfl, hmx, hmy, ⟨_, _, rfl, rfl, hx, hy⟩, hS⟩ ?_
  clear hS hx hy
  rintro ⟨X, Y⟩ ρ w3 ⟨hg, hX, hY, ⟨vx, vy, h0, h1, hx, hy⟩, hS⟩
  simp only at hg hX hY hx hy
  repeat (with_reducible first | refine c_seq ?_ | refine c_block ?_ | refine c_skip ?_ | refine x_then ?_ | refine x_block ?_)
  refine c_reg ?_
  refine l_pure rfl (s_move  h1 ?_)
  refine l_pure rfl (s_lenr  rfl hy ⟨_, Tryz.underlying91⟩ ?_)
  refine l_pure rfl (s_gtr  rfl rfl ?_)
  refine l_nil ?_
  repeat (with_reducible first | refine c_seq ?_ | refine c_block ?_ | refine c_skip ?_ | refine x_then ?_ | refine x_block ?_)
  have hyn : (limb Y).length = 0 ↔ Y = 0 := limb_nil_iff
  by_cases hY0 : Y = 0
  · refine c_no rfl (decide_eq_false (by omega)) ?_
    repeat (with_reducible first | refine c_seq ?_ | refine c_block ?_ | refine c_skip ?_ | refine x_then ?_ | refine x_block ?_)
    refine c_exit ?_
    repeat (with_reducible first | refine x_then_exit ?_ | refine x_block_exit ?_ | refine x_block_pass rfl ?_)
    repeat (with_reducible first | refine c_seq ?_ | refine c_block ?_ | refine c_skip ?_ | refine x_then ?_ | refine x_block ?_)
    refine c_reg ?_
    refine l_pure rfl (s_move  h0 ?_)
    refine l_pure rfl (s_asg  rfl ?_)
    refine l_nil ?_
    repeat (with_reducible first | refine c_seq ?_ | refine c_block ?_ | refine c_skip ?_ | refine x_then ?_ | refine x_block ?_)
    refine c_ret ?_
    repeat (with_reducible first | refine x_then_ret ?_ | refine x_block_ret ?_)
    refine r_one rfl rfl ?_
    rw [hY0, Nat.gcd_zero_right] at hg
    rw [← hg]
    exact ⟨hx, hS.below⟩
  · refine c_yes rfl (decide_eq_true (by omega)) ?_
    repeat (with_reducible first | refine c_seq ?_ | refine c_block ?_ | refine c_skip ?_ | refine x_then ?_ | refine x_block ?_)
    have hlt : X % Y < Y := Nat.mod_lt _ (by omega)
    have hls := limb_len_mono (Nat.le_of_lt hlt)
    repeat (with_reducible first | refine c_seq ?_ | refine c_block ?_ | refine c_skip ?_ | refine x_then ?_ | refine x_block ?_)
    refine c_reg ?_
    refine l_pure rfl (s_move  h0 ?_)
    refine l_pure rfl (s_move  h1 ?_)
    refine l_heavy rfl (s_call Tryz.call103 rfl (rdivide_ok _ _ _ _ _ hx hy (by omega) (by omega)) ?_)
    rintro r w4 ⟨⟨q, s, rfl, hq, hs⟩, hB4⟩
    refine l_pure rfl (s_move  rfl ?_)
    refine l_pure rfl (s_ext  rfl rfl ?_)
    refine l_pure rfl (s_ext  rfl rfl ?_)
    refine l_pure rfl (s_asg  rfl ?_)
    refine l_pure rfl (s_asg  rfl ?_)
    refine l_nil ?_
    repeat (with_reducible first | refine c_seq ?_ | refine c_block ?_ | refine c_skip ?_ | refine x_then ?_ | refine x_block ?_)
    refine c_reg ?_
    refine l_pure rfl (s_move  h1 ?_)
    refine l_pure rfl (s_asg  rfl ?_)
    refine l_nil ?_
    repeat (with_reducible first | refine c_seq ?_ | refine c_block ?_ | refine c_skip ?_ | refine x_then ?_ | refine x_block ?_)
    refine c_reg ?_
    refine l_pure rfl (s_move  rfl ?_)
    refine l_pure rfl (s_asg  rfl ?_)
    refine l_nil ?_
    repeat (with_reducible first | refine c_seq ?_ | refine c_block ?_ | refine c_skip ?_ | refine x_then ?_ | refine x_block ?_)
    refine ⟨(Y, X % Y), _, rfl, ⟨?_, hY, by simp only; omega, ⟨vy, s, rfl, rfl, hy.below hB4, hs⟩, hS.grow hB4⟩, hlt⟩
    simp only
    rw [← hg, Nat.gcd_comm Y, ← Nat.gcd_rec, Nat.gcd_comm]
end Go.Proofs.YtmghobajmhdbfaaGreatDoor
namespace Go.Proofs.YtmghobajmhdbfaaGreatDoor
open Go Go.RowKit Go.Sx
theorem limb_one : limb 1 = [1] := by unfold limb; rw [digs_pos (by decide) (by decide), show 1 / B32 = 0 from rfl, digs_zero]; rfl
theorem limb_get0 {g : Nat} (h : ¬ 1 < (limb g).length) (hg : 0 < g) : (limb g).length = 1 ∧ (limb g).getD 0 0 = g := by
  have h1 := (top_pos hg).1
  have h2 : (limb g).length = 1 := by omega
  have h3 := limb_lt_pow g
  rw [h2, Nat.pow_one] at h3
  refine ⟨h2, ?_⟩
  rw [limb_getD, dgt, Nat.pow_zero, Nat.div_one, Nat.mod_eq_of_lt h3]
theorem limb_big_ne {g : Nat} (h : 1 < (limb g).length) : g ≠ 1 := by
  rintro rfl
  rw [limb_one] at h; exact absurd h (by decide)
theorem built_Rat2 (b : Bool) (s : ByteArray) : Tryz.prog.built 36 [(0, .bool b), (1, .string s)] = some #[.bool b, .string s, .string ⟨#[]⟩] := by kernel_rfl
set_option maxHeartbeats 1000000 in
theorem rreduced_ok (b : Bool) (vn vd : Value) (n d : Nat) (w : World) (hvn : Sl (uk .u32) 1 w vn (limb n)) (hvd : Sl (uk .u32) 1 w vd (limb d)) (hn : (limb n).length ≤ 4398046511104) (hd : (limb d).length ≤ 4398046511104) (h0 : d ≠ 0) :
    Ret Tryz.prog 79 #[.bool b, vn, vd] w fun v w' => v = aggR (ofQ (mkRat (sg b n) d)) ∧ Below w.heap.size w w' := by
  have hS := St.init w
  refine enter Tryz.func79 rfl Tryz.ntmps79 rfl ?_
  repeat (with_reducible first | refine c_seq ?_ | refine c_block ?_ | refine c_skip ?_ | refine x_then ?_ | refine x_block ?_)
  refine c_reg ?_
  refine l_heavy rfl (s_alloc  vi_36 hS ?_)
  intro b1 wz2 hS hBz2
  refine l_nil ?_
  repeat (with_reducible first | refine c_seq ?_ | refine c_block ?_ | refine c_skip ?_ | refine x_then ?_ | refine x_block ?_)
  refine c_reg ?_
  refine l_pure rfl (s_move  rfl ?_)
  refine l_pure rfl (s_lenr  rfl (hvn.below hS.below) ⟨_, Tryz.underlying91⟩ ?_)
  refine l_pure rfl (s_eql  rfl rfl ?_)
  refine l_nil ?_
  repeat (with_reducible first | refine c_seq ?_ | refine c_block ?_ | refine c_skip ?_ | refine x_then ?_ | refine x_block ?_)
  have hzn : (limb n).length = 0 ↔ n = 0 := limb_nil_iff
  by_cases hz : n = 0
  · refine c_yes rfl (decide_eq_true (by omega)) ?_
    repeat (with_reducible first | refine c_seq ?_ | refine c_block ?_ | refine c_skip ?_ | refine x_then ?_ | refine x_block ?_)
    refine c_reg ?_
    refine l_pure rfl (s_build  rfl bz_36 ?_)
    refine l_heavy rfl (s_sta (k := 0)  rfl rfl vi_36 hS rfl rfl rfl (Nat.le_of_ble_eq_true rfl) rfl ?_)
    intro wz3 hS
    refine l_nil ?_
    repeat (with_reducible first | refine c_seq ?_ | refine c_block ?_ | refine c_skip ?_ | refine x_then ?_ | refine x_block ?_)
    refine c_ret ?_
    repeat (with_reducible first | refine x_then_ret ?_ | refine x_block_ret ?_)
    refine r_cell (k := 0) rfl rfl vi_36 hS rfl rfl ?_
    refine ⟨?_, hS.below⟩
    have : mkRat (sg b 0) d = 0 := by cases b <;> simp [sg]
    rw [hz, this, ofQ_zero]; rfl
  · refine c_no rfl (decide_eq_false (by omega)) ?_
    repeat (with_reducible first | refine c_seq ?_ | refine c_block ?_ | refine c_skip ?_ | refine x_then ?_ | refine x_block ?_)
    obtain ⟨g, hg⟩ : ∃ g, g = Nat.gcd n d := ⟨_, rfl⟩
    have hgp : 0 < g := by rw [hg]; exact Nat.gcd_pos_of_pos_right _ (by omega)
    have hgn : g ≤ n := by rw [hg]; exact Nat.gcd_le_left _ (by omega)
    have hgd : g ≤ d := by rw [hg]; exact Nat.gcd_le_right _ (by omega)
    have hgl := limb_len_mono hgn
    repeat (with_reducible first | refine c_seq ?_ | refine c_block ?_ | refine c_skip ?_ | refine x_then ?_ | refine x_block ?_)
    refine c_reg ?_
    refine l_pure rfl (s_move  rfl ?_)
    refine l_pure rfl (s_move  rfl ?_)
    refine l_heavy rfl (s_call Tryz.call102 rfl (rcommon_ok _ _ n d _ (hvn.below hS.below) (hvd.below hS.below) (by omega) (by omega)) ?_)
    rintro vg w2 ⟨hvg, hB2⟩
    replace hS := hS.grow hB2
    rw [← hg] at hvg
    refine l_pure rfl (s_asg  rfl ?_)
    refine l_nil ?_
    repeat (with_reducible first | refine c_seq ?_ | refine c_block ?_ | refine c_skip ?_ | refine x_then ?_ | refine x_block ?_)
    refine c_cut1 (fun ρ w' => ρ 0 = .bool b ∧ ρ 1 = vn ∧ ρ 2 = vd ∧ ρ 6 = .pointer (some ⟨b1, 0, none⟩) ∧ ρ 7 = vg ∧ ρ 24 = .bool (decide (g ≠ 1)) ∧ w2 = w') ?_ ?_
    · by_cases hl1 : 1 < (limb g).length
      · repeat (with_reducible first | refine c_seq ?_ | refine c_block ?_ | refine c_skip ?_ | refine x_then ?_ | refine x_block ?_)
        refine c_reg ?_
        refine l_pure rfl (s_move  rfl ?_)
        refine l_pure rfl (s_lenr  rfl hvg ⟨_, Tryz.underlying91⟩ ?_)
        refine l_pure rfl (s_gtr  rfl rfl ?_)
        refine l_pure rfl (s_move  rfl ?_)
        refine l_no (gno_yes 19 (by kernel_rfl) rfl (decide_eq_true (by omega))) ?_
        refine l_no (gno_yes 19 (by kernel_rfl) rfl (decide_eq_true (by omega))) ?_
        refine l_no (gno_yes 19 (by kernel_rfl) rfl (decide_eq_true (by omega))) ?_
        refine l_no (gno_yes 19 (by kernel_rfl) rfl (decide_eq_true (by omega))) ?_
        refine l_pure rfl (s_pick (vb rfl (decide_eq_true (by omega))) rfl ?_)
        refine l_nil ?_
        repeat (with_reducible first | refine c_seq ?_ | refine c_block ?_ | refine c_skip ?_ | refine x_then ?_ | refine x_block ?_)
        exact ⟨_, rfl, rfl, rfl, rfl, rfl, rfl, vb rfl (decide_eq_true (limb_big_ne hl1)).symm, rfl⟩
      · have hl2 := limb_get0 hl1 hgp
        repeat (with_reducible first | refine c_seq ?_ | refine c_block ?_ | refine c_skip ?_ | refine x_then ?_ | refine x_block ?_)
        refine c_reg ?_
        refine l_pure rfl (s_move  rfl ?_)
        refine l_pure rfl (s_lenr  rfl hvg ⟨_, Tryz.underlying91⟩ ?_)
        refine l_pure rfl (s_gtr  rfl rfl ?_)
        refine l_pure rfl (s_move  rfl ?_)
        refine l_pure (gd_yes 19 (by kernel_rfl) rfl (decide_eq_false (by omega))) (s_move  rfl ?_)
        refine l_pure (gd_yes 19 (by kernel_rfl) rfl (decide_eq_false (by omega))) (s_ixr (i := 0)  rfl rfl hvg (by omega) (by first | omega | (simp; done) | (simp; omega)) si_91 ?_)
        refine l_read (gd_yes 19 (by kernel_rfl) rfl (decide_eq_false (by omega))) (s_lde (i := 0) 0  rfl vi_94 hvg (by first | omega | (simp; done) | (simp; omega)) rfl rfl (.inr rfl) ?_)
        refine l_pure (gd_yes 19 (by kernel_rfl) rfl (decide_eq_false (by omega))) (s_gtr  rfl rfl ?_)
        refine l_pure rfl (s_pick (vb rfl (decide_eq_false (by omega))) rfl ?_)
        refine l_nil ?_
        repeat (with_reducible first | refine c_seq ?_ | refine c_block ?_ | refine c_skip ?_ | refine x_then ?_ | refine x_block ?_)
        exact ⟨_, rfl, rfl, rfl, rfl, rfl, rfl, vb rfl (by rw [hl2.2, decide_eq_decide]; omega), rfl⟩
    rintro ρ w' ⟨k0, k1, k2, k6, k7, k24, rfl⟩
    repeat (with_reducible first | refine c_seq ?_ | refine c_block ?_ | refine c_skip ?_ | refine x_then ?_ | refine x_block ?_)
    refine c_cut1 (fun ρ w' => ∃ (n' d' : Nat) (v1 v2 : Value), 0 < n' ∧ d' ≠ 0 ∧ Nat.gcd n' d' = 1 ∧ mkRat (sg b n) d = mkRat (sg b n') d' ∧ (limb n').length ≤ 4398046511104 ∧ (limb d').length ≤ 4398046511104 ∧ ρ 0 = .bool b ∧ ρ 1 = v1 ∧ ρ 2 = v2 ∧ ρ 6 = .pointer (some ⟨b1, 0, none⟩) ∧
      Sl (uk .u32) 1 w' v1 (limb n') ∧ Sl (uk .u32) 1 w' v2 (limb d') ∧ St w w' [(b1, 36, encR ⟨false, ⟨#[]⟩, ⟨#[]⟩⟩)]) ?_ ?_
    · repeat (with_reducible first | refine c_seq ?_ | refine c_block ?_ | refine c_skip ?_ | refine x_then ?_ | refine x_block ?_)
      by_cases hg1 : g = 1
      · refine c_no k24 (decide_eq_false (not_not_intro hg1)) ?_
        repeat (with_reducible first | refine c_seq ?_ | refine c_block ?_ | refine c_skip ?_ | refine x_then ?_ | refine x_block ?_)
        exact ⟨_, rfl, n, d, _, _, by omega, h0, by rw [← hg, hg1], rfl, by omega, by omega, k0, k1, k2, k6, hvn.below hS.below, hvd.below hS.below, hS⟩
      · refine c_yes k24 (decide_eq_true hg1) ?_
        repeat (with_reducible first | refine c_seq ?_ | refine c_block ?_ | refine c_skip ?_ | refine x_then ?_ | refine x_block ?_)
        have hnp : 0 < n / g := Nat.div_pos hgn hgp
        have hdp : 0 < d / g := Nat.div_pos hgd hgp
        have hln := limb_len_mono (Nat.div_le_self n g)
        have hld := limb_len_mono (Nat.div_le_self d g)
        repeat (with_reducible first | refine c_seq ?_ | refine c_block ?_ | refine c_skip ?_ | refine x_then ?_ | refine x_block ?_)
        refine c_reg ?_
        refine l_pure rfl (s_move  k1 ?_)
        refine l_pure rfl (s_move  k7 ?_)
        refine l_heavy rfl (s_call Tryz.call103 rfl (rdivide_ok _ _ n g _ (hvn.below hS.below) hvg hgp (by omega)) ?_)
        rintro r w3 ⟨⟨q1, s1, rfl, hq1, _⟩, hB3⟩
        replace hS := hS.grow hB3
        refine l_pure rfl (s_move  rfl ?_)
        refine l_pure rfl (s_ext  rfl rfl ?_)
        refine l_pure rfl (s_ext  rfl rfl ?_)
        refine l_pure rfl (s_asg  rfl ?_)
        refine l_nil ?_
        repeat (with_reducible first | refine c_seq ?_ | refine c_block ?_ | refine c_skip ?_ | refine x_then ?_ | refine x_block ?_)
        refine c_reg ?_
        refine l_pure rfl (s_move  k2 ?_)
        refine l_pure rfl (s_move  k7 ?_)
        refine l_heavy rfl (s_call Tryz.call103 rfl (rdivide_ok _ _ d g _ (hvd.below hS.below) (hvg.below hB3) hgp (by omega)) ?_)
        rintro r w4 ⟨⟨q2, s2, rfl, hq2, _⟩, hB4⟩
        replace hS := hS.grow hB4
        refine l_pure rfl (s_move  rfl ?_)
        refine l_pure rfl (s_ext  rfl rfl ?_)
        refine l_pure rfl (s_ext  rfl rfl ?_)
        refine l_pure rfl (s_asg  rfl ?_)
        refine l_nil ?_
        repeat (with_reducible first | refine c_seq ?_ | refine c_block ?_ | refine c_skip ?_ | refine x_then ?_ | refine x_block ?_)
        exact ⟨_, rfl, n / g, d / g, q1, q2, hnp, by omega, by rw [hg, Nat.gcd_div (Nat.gcd_dvd_left _ _) (Nat.gcd_dvd_right _ _), ← hg, Nat.div_self hgp], mkRat_red h0 hg, by omega, by omega, k0, rfl, rfl, k6, hq1.below hB4, hq2, hS⟩
    clear k0 k1 k2 k6 k7 k24
    clear hS hvn hvd
    rintro ρ w' ⟨n', d', v1, v2, hn', hd', hc, he, hln', hld', k0, k1, k2, k6, hvn, hvd, hS⟩
    rw [he, ofQ_mk hn' hd' hc]
    repeat (with_reducible first | refine c_seq ?_ | refine c_block ?_ | refine c_skip ?_ | refine x_then ?_ | refine x_block ?_)
    refine c_reg ?_
    refine l_pure rfl (s_move  k0 ?_)
    refine l_pure rfl (s_move  k1 ?_)
    refine l_heavy rfl (s_call Tryz.call104 rfl (rtext_ok _ _ _ hvn (limb_lt _) (by omega)) ?_)
    rintro r w5 ⟨rfl, hB5⟩
    replace hS := hS.grow hB5
    rw [ofDigs_limb]
    have hvd5 := hvd.below hB5
    have hS0 := hS
    replace hS := St.init w5
    refine l_pure rfl (s_build  rfl (built_Rat2 _ _) ?_)
    refine l_heavy rfl (s_alloc  vi_36 hS ?_)
    intro b4 wz5 hS hBz5
    refine l_heavy rfl (s_sta (k := 0)  rfl rfl vi_36 hS rfl rfl rfl (Nat.le_of_ble_eq_true rfl) rfl ?_)
    intro wz6 hS
    refine l_nil ?_
    repeat (with_reducible first | refine c_seq ?_ | refine c_block ?_ | refine c_skip ?_ | refine x_then ?_ | refine x_block ?_)
    replace hS : St w5 _ [(_, 36, encR ⟨b, natS n', ⟨#[]⟩⟩)] := hS
    repeat (with_reducible first | refine c_seq ?_ | refine c_block ?_ | refine c_skip ?_ | refine x_then ?_ | refine x_block ?_)
    refine c_cut1 (fun ρ w' => ρ 2 = v2 ∧ ρ 6 = .pointer (some ⟨b1, 0, none⟩) ∧ ρ 8 = .pointer (some ⟨b4, 0, none⟩) ∧ ρ 49 = .bool (decide (d' ≠ 1)) ∧ wz6 = w') ?_ ?_
    · by_cases hl1 : 1 < (limb d').length
      · repeat (with_reducible first | refine c_seq ?_ | refine c_block ?_ | refine c_skip ?_ | refine x_then ?_ | refine x_block ?_)
        refine c_reg ?_
        refine l_pure rfl (s_move  k2 ?_)
        refine l_pure rfl (s_lenr  rfl (hvd5.below hS.below) ⟨_, Tryz.underlying91⟩ ?_)
        refine l_pure rfl (s_gtr  rfl rfl ?_)
        refine l_pure rfl (s_move  rfl ?_)
        refine l_no (gno_yes 44 (by kernel_rfl) rfl (decide_eq_true (by omega))) ?_
        refine l_no (gno_yes 44 (by kernel_rfl) rfl (decide_eq_true (by omega))) ?_
        refine l_no (gno_yes 44 (by kernel_rfl) rfl (decide_eq_true (by omega))) ?_
        refine l_no (gno_yes 44 (by kernel_rfl) rfl (decide_eq_true (by omega))) ?_
        refine l_pure rfl (s_pick (vb rfl (decide_eq_true (by omega))) rfl ?_)
        refine l_nil ?_
        repeat (with_reducible first | refine c_seq ?_ | refine c_block ?_ | refine c_skip ?_ | refine x_then ?_ | refine x_block ?_)
        exact ⟨_, rfl, k2, k6, rfl, vb rfl (decide_eq_true (limb_big_ne hl1)).symm, rfl⟩
      · have hl2 := limb_get0 hl1 (by omega)
        repeat (with_reducible first | refine c_seq ?_ | refine c_block ?_ | refine c_skip ?_ | refine x_then ?_ | refine x_block ?_)
        refine c_reg ?_
        refine l_pure rfl (s_move  k2 ?_)
        refine l_pure rfl (s_lenr  rfl (hvd5.below hS.below) ⟨_, Tryz.underlying91⟩ ?_)
        refine l_pure rfl (s_gtr  rfl rfl ?_)
        refine l_pure rfl (s_move  rfl ?_)
        refine l_pure (gd_yes 44 (by kernel_rfl) rfl (decide_eq_false (by omega))) (s_move  k2 ?_)
        refine l_pure (gd_yes 44 (by kernel_rfl) rfl (decide_eq_false (by omega))) (s_ixr (i := 0)  rfl rfl (hvd5.below hS.below) (by omega) (by first | omega | (simp; done) | (simp; omega)) si_91 ?_)
        refine l_read (gd_yes 44 (by kernel_rfl) rfl (decide_eq_false (by omega))) (s_lde (i := 0) 0  rfl vi_94 (hvd5.below hS.below) (by first | omega | (simp; done) | (simp; omega)) rfl rfl (.inr rfl) ?_)
        refine l_pure (gd_yes 44 (by kernel_rfl) rfl (decide_eq_false (by omega))) (s_gtr  rfl rfl ?_)
        refine l_pure rfl (s_pick (vb rfl (decide_eq_false (by omega))) rfl ?_)
        refine l_nil ?_
        repeat (with_reducible first | refine c_seq ?_ | refine c_block ?_ | refine c_skip ?_ | refine x_then ?_ | refine x_block ?_)
        exact ⟨_, rfl, k2, k6, rfl, vb rfl (by rw [hl2.2, decide_eq_decide]; omega), rfl⟩
    clear k0 k1 k2 k6
    rintro ρ w' ⟨k2, k6, k8, k49, rfl⟩
    repeat (with_reducible first | refine c_seq ?_ | refine c_block ?_ | refine c_skip ?_ | refine x_then ?_ | refine x_block ?_)
    refine c_cut1 (fun ρ w' => ∃ b8, ρ 6 = .pointer (some ⟨b1, 0, none⟩) ∧ ρ 8 = .pointer (some ⟨b8, 0, none⟩) ∧ St w w' [(b8, 36, encR ⟨b, natS n', if d' = 1 then ⟨#[]⟩ else natS d'⟩), (b1, 36, encR ⟨false, ⟨#[]⟩, ⟨#[]⟩⟩)]) ?_ ?_
    · repeat (with_reducible first | refine c_seq ?_ | refine c_block ?_ | refine c_skip ?_ | refine x_then ?_ | refine x_block ?_)
      by_cases hd1 : d' = 1
      · refine c_no k49 (decide_eq_false (not_not_intro hd1)) ?_
        repeat (with_reducible first | refine c_seq ?_ | refine c_block ?_ | refine c_skip ?_ | refine x_then ?_ | refine x_block ?_)
        exact ⟨_, rfl, _, k6, k8, by rw [if_pos hd1]; exact hS0.join hS⟩
      · refine c_yes k49 (decide_eq_true hd1) ?_
        repeat (with_reducible first | refine c_seq ?_ | refine c_block ?_ | refine c_skip ?_ | refine x_then ?_ | refine x_block ?_)
        refine c_reg ?_
        refine l_pure rfl (s_move  k2 ?_)
        refine l_heavy rfl (s_call Tryz.call104 rfl (rtext_ok _ _ _ (hvd5.below hS.below) (limb_lt _) (by omega)) ?_)
        rintro r w6 ⟨rfl, hB6⟩
        replace hS := hS.grow hB6
        rw [ofDigs_limb]
        refine l_pure rfl (s_fld  k8 fo_36_2 ?_)
        refine l_heavy rfl (s_stc (k := 0)  rfl rfl vi_9 hS rfl (Nat.le_of_ble_eq_true rfl) rfl ?_)
        intro wz7 hS
        refine l_nil ?_
        repeat (with_reducible first | refine c_seq ?_ | refine c_block ?_ | refine c_skip ?_ | refine x_then ?_ | refine x_block ?_)
        exact ⟨_, rfl, _, k6, k8, by rw [if_neg hd1]; exact hS0.join hS⟩
    clear hS hS0 hvd5 hvn hvd
    rintro ρ w' ⟨b8, k6, k8, hS⟩
    repeat (with_reducible first | refine c_seq ?_ | refine c_block ?_ | refine c_skip ?_ | refine x_then ?_ | refine x_block ?_)
    refine c_reg ?_
    refine l_read rfl (s_ldo (k := 0)  k8 vi_36 hS rfl rfl rfl (.inl rfl) ?_)
    refine l_heavy rfl (s_sta (k := 1)  k6 rfl vi_36 hS rfl rfl rfl (Nat.le_of_ble_eq_true rfl) rfl ?_)
    intro wz8 hS
    refine l_nil ?_
    repeat (with_reducible first | refine c_seq ?_ | refine c_block ?_ | refine c_skip ?_ | refine x_then ?_ | refine x_block ?_)
    refine c_ret ?_
    repeat (with_reducible first | refine x_then_ret ?_ | refine x_block_ret ?_)
    refine r_cell (k := 1) rfl k6 vi_36 hS rfl rfl ?_
    exact ⟨rfl, hS.below⟩
end Go.Proofs.YtmghobajmhdbfaaGreatDoor
namespace Go.Proofs.YtmghobajmhdbfaaGreatDoor
open Go Go.RowKit Go.Sx
theorem rsize_ok (n : Int) (w : World) (h1 : -9223372036854775808 ≤ n) (h2 : n ≤ 9223372036854775807) :
    Ret Tryz.prog 85 #[.int .i64 n] w fun v w' => v = .int .u64 (n.natAbs : Nat) ∧ w' = w := by
  refine enter Tryz.func85 rfl Tryz.ntmps85 rfl ?_
  repeat (with_reducible first | refine c_seq ?_ | refine c_block ?_ | refine c_skip ?_ | refine x_then ?_ | refine x_block ?_)
  refine c_reg ?_
  refine l_pure rfl (s_asg  rfl ?_)
  refine l_nil ?_
  repeat (with_reducible first | refine c_seq ?_ | refine c_block ?_ | refine c_skip ?_ | refine x_then ?_ | refine x_block ?_)
  refine c_reg ?_
  refine l_pure rfl (s_move  rfl ?_)
  refine l_pure rfl (s_lss  rfl rfl ?_)
  refine l_nil ?_
  repeat (with_reducible first | refine c_seq ?_ | refine c_block ?_ | refine c_skip ?_ | refine x_then ?_ | refine x_block ?_)
  by_cases h : n < 0
  · refine c_yes rfl (decide_eq_true h) ?_
    repeat (with_reducible first | refine c_seq ?_ | refine c_block ?_ | refine c_skip ?_ | refine x_then ?_ | refine x_block ?_)
    refine c_reg ?_
    refine l_pure rfl (s_move  rfl ?_)
    refine l_pure rfl (s_add  rfl rfl (IntWalk.i64_in _ (by omega)) ?_)
    refine l_pure rfl (s_neg  rfl (r := (-(n + 1))) (by exact wr_i64 _ ⟨by omega, by omega, by omega⟩) ?_)
    refine l_pure rfl (s_conv  rfl Tryz.underlying95 ⟨_, Tryz.underlying2⟩ (r := (-(n + 1))) (by exact IntWalk.u64_in _ (by omega)) ?_)
    refine l_pure rfl (s_add  rfl rfl (r := ((n.natAbs : Nat) : Int)) (by exact wr_u64 _ ⟨by omega, by omega, by omega⟩) ?_)
    refine l_pure rfl (s_asg  rfl ?_)
    refine l_nil ?_
    repeat (with_reducible first | refine c_seq ?_ | refine c_block ?_ | refine c_skip ?_ | refine x_then ?_ | refine x_block ?_)
    refine c_ret ?_
    repeat (with_reducible first | refine x_then_ret ?_ | refine x_block_ret ?_)
    refine r_one rfl rfl ?_
    exact ⟨rfl, rfl⟩
  · refine c_no rfl (decide_eq_false h) ?_
    repeat (with_reducible first | refine c_seq ?_ | refine c_block ?_ | refine c_skip ?_ | refine x_then ?_ | refine x_block ?_)
    refine c_reg ?_
    refine l_pure rfl (s_move  rfl ?_)
    refine l_pure rfl (s_conv  rfl Tryz.underlying95 ⟨_, Tryz.underlying2⟩ (r := ((n.natAbs : Nat) : Int)) (by exact wr_u64 _ ⟨by omega, by omega, by omega⟩) ?_)
    refine l_pure rfl (s_asg  rfl ?_)
    refine l_nil ?_
    repeat (with_reducible first | refine c_seq ?_ | refine c_block ?_ | refine c_skip ?_ | refine x_then ?_ | refine x_block ?_)
    refine c_ret ?_
    repeat (with_reducible first | refine x_then_ret ?_ | refine x_block_ret ?_)
    refine r_one rfl rfl ?_
    exact ⟨rfl, rfl⟩
theorem rInt_ok (n : Int) (w : World) (h1 : -9223372036854775808 ≤ n) (h2 : n ≤ 9223372036854775807) :
    Ret Tryz.prog 53 #[.int .i64 n] w fun v w' => v = aggR (ofQ (n : Rat)) ∧ Below w.heap.size w w' := by
  have hS := St.init w
  refine enter Tryz.func53 rfl Tryz.ntmps53 rfl ?_
  repeat (with_reducible first | refine c_seq ?_ | refine c_block ?_ | refine c_skip ?_ | refine x_then ?_ | refine x_block ?_)
  refine c_reg ?_
  refine l_heavy rfl (s_alloc  vi_36 hS ?_)
  intro b1 wz2 hS hBz2
  refine l_nil ?_
  repeat (with_reducible first | refine c_seq ?_ | refine c_block ?_ | refine c_skip ?_ | refine x_then ?_ | refine x_block ?_)
  refine c_reg ?_
  refine l_pure rfl (s_move  rfl ?_)
  refine l_pure rfl (s_lss  rfl rfl ?_)
  refine l_pure rfl (s_move  rfl ?_)
  refine l_heavy rfl (s_call Tryz.call85 rfl (rsize_ok n _ h1 h2) ?_)
  rintro _ wq3 ⟨rfl, hq3⟩
  replace hq3 := hq3.symm
  subst hq3
  refine l_heavy rfl (s_call Tryz.call84 rfl (rFromUint_ok n.natAbs _ (by omega)) ?_)
  rintro _ wc4 ⟨rfl, hBc4⟩
  replace hS := hS.grow hBc4
  refine l_pure rfl (s_build  rfl (built_Rat2 _ _) ?_)
  refine l_heavy rfl (s_sta (k := 0)  rfl rfl vi_36 hS rfl rfl rfl (Nat.le_of_ble_eq_true rfl) rfl ?_)
  intro wz5 hS
  refine l_nil ?_
  repeat (with_reducible first | refine c_seq ?_ | refine c_block ?_ | refine c_skip ?_ | refine x_then ?_ | refine x_block ?_)
  refine c_ret ?_
  repeat (with_reducible first | refine x_then_ret ?_ | refine x_block_ret ?_)
  refine r_cell (k := 0) rfl rfl vi_36 hS rfl rfl ?_
  exact ⟨rfl, hS.below⟩
theorem rMake_ok (b : Bool) (num den : ByteArray) (w : World) (hn : num.size ≤ 4398046511104) (hd : den.size ≤ 4398046511104) (h0 : val den ≠ 0) :
    Ret Tryz.prog 105 #[.bool b, .string num, .string den] w fun v w' => v = .tuple #[aggR (ofQ (mkRat (sg b (val num)) (val den))), .bool true] ∧ Below w.heap.size w w' := by
  have hla := limb_val_len num
  have hlb := limb_val_len den
  have hne : (limb (val den)).length ≠ 0 := fun h => h0 (limb_nil_iff.1 h)
  have hS := St.init w
  refine enter Tryz.func105 rfl Tryz.ntmps105 rfl ?_
  repeat (with_reducible first | refine c_seq ?_ | refine c_block ?_ | refine c_skip ?_ | refine x_then ?_ | refine x_block ?_)
  refine c_reg ?_
  refine l_heavy rfl (s_alloc  vi_36 hS ?_)
  intro b1 wz2 hS hBz2
  refine l_pure rfl (s_asg  rfl ?_)
  refine l_nil ?_
  repeat (with_reducible first | refine c_seq ?_ | refine c_block ?_ | refine c_skip ?_ | refine x_then ?_ | refine x_block ?_)
  refine c_reg ?_
  refine l_pure rfl (s_move  rfl ?_)
  refine l_heavy rfl (s_call Tryz.call78 rfl (rlimbs_ok _ _ (by omega)) ?_)
  rintro vd w2 ⟨hvd, hB2⟩
  replace hS := hS.grow hB2
  refine l_pure rfl (s_asg  rfl ?_)
  refine l_nil ?_
  repeat (with_reducible first | refine c_seq ?_ | refine c_block ?_ | refine c_skip ?_ | refine x_then ?_ | refine x_block ?_)
  refine c_reg ?_
  refine l_pure rfl (s_move  rfl ?_)
  refine l_pure rfl (s_lenr  rfl hvd ⟨_, Tryz.underlying91⟩ ?_)
  refine l_pure rfl (s_eql  rfl rfl ?_)
  refine l_nil ?_
  repeat (with_reducible first | refine c_seq ?_ | refine c_block ?_ | refine c_skip ?_ | refine x_then ?_ | refine x_block ?_)
  refine c_no rfl (decide_eq_false (by omega)) ?_
  repeat (with_reducible first | refine c_seq ?_ | refine c_block ?_ | refine c_skip ?_ | refine x_then ?_ | refine x_block ?_)
  refine c_reg ?_
  refine l_pure rfl (s_move  rfl ?_)
  refine l_pure rfl (s_move  rfl ?_)
  refine l_heavy rfl (s_call Tryz.call78 rfl (rlimbs_ok _ _ (by omega)) ?_)
  rintro vn w3 ⟨hvn, hB3⟩
  replace hS := hS.grow hB3
  refine l_pure rfl (s_move  rfl ?_)
  refine l_heavy rfl (s_call Tryz.call79 rfl (rreduced_ok b vn vd _ _ _ hvn (hvd.below hB3) (by omega) (by omega) h0) ?_)
  rintro r w4 ⟨rfl, hB4⟩
  replace hS := hS.grow hB4
  refine l_heavy rfl (s_sta (k := 0)  rfl rfl vi_36 hS rfl rfl rfl (Nat.le_of_ble_eq_true rfl) rfl ?_)
  intro wz3 hS
  refine l_pure rfl (s_asg  rfl ?_)
  refine l_nil ?_
  repeat (with_reducible first | refine c_seq ?_ | refine c_block ?_ | refine c_skip ?_ | refine x_then ?_ | refine x_block ?_)
  refine c_ret ?_
  repeat (with_reducible first | refine x_then_ret ?_ | refine x_block_ret ?_)
  refine r_cell_tmp (k := 0) rfl rfl rfl vi_36 hS rfl rfl ?_
  exact ⟨rfl, hS.below⟩
theorem frac_sg (a : Int) (n : Nat) : sg (decide (a < 0) != decide (((n : Nat) : Int) < 0)) a.natAbs = a := by
  have h : decide (((n : Nat) : Int) < 0) = false := by simp
  rw [h]
  unfold sg
  by_cases ha : a < 0 <;> simp [ha] <;> omega
theorem rFraction_ok (a : Int) (n : Nat) (w : World) (h1 : -9223372036854775808 ≤ a) (h2 : a ≤ 9223372036854775807) (hn0 : 0 < n) (hn : n ≤ 9223372036854775807) :
    Ret Tryz.prog 83 #[.int .i64 a, .int .i64 n] w fun v w' => v = .tuple #[aggR (ofQ (mkRat a n)), .bool true] ∧ Below w.heap.size w w' := by
  have hS := St.init w
  have hs1 := natS_u64 (n := a.natAbs) (by omega)
  have hs2 := natS_u64 (n := n) (by omega)
  have hmk := fun w => rMake_ok (decide (a < 0) != decide (((n : Nat) : Int) < 0)) (natS a.natAbs) (natS n) w (by omega) (by omega) (by rw [val_natS]; omega)
  rw [val_natS, val_natS, frac_sg] at hmk
  refine enter Tryz.func83 rfl Tryz.ntmps83 rfl ?_
  repeat (with_reducible first | refine c_seq ?_ | refine c_block ?_ | refine c_skip ?_ | refine x_then ?_ | refine x_block ?_)
  refine c_reg ?_
  refine l_heavy rfl (s_alloc  vi_36 hS ?_)
  intro b1 wz2 hS hBz2
  refine l_pure rfl (s_asg  rfl ?_)
  refine l_nil ?_
  repeat (with_reducible first | refine c_seq ?_ | refine c_block ?_ | refine c_skip ?_ | refine x_then ?_ | refine x_block ?_)
  refine c_reg ?_
  refine l_pure rfl (s_move  rfl ?_)
  refine l_pure rfl (s_lss  rfl rfl ?_)
  refine l_pure rfl (s_move  rfl ?_)
  refine l_pure rfl (s_lss  rfl rfl ?_)
  refine l_pure rfl (s_neb  rfl rfl Tryz.underlying4 ?_)
  refine l_pure rfl (s_move  rfl ?_)
  refine l_heavy rfl (s_call Tryz.call85 rfl (rsize_ok a _ h1 h2) ?_)
  rintro _ wq3 ⟨rfl, hq3⟩
  replace hq3 := hq3.symm
  subst hq3
  refine l_heavy rfl (s_call Tryz.call84 rfl (rFromUint_ok a.natAbs _ (by omega)) ?_)
  rintro _ wc4 ⟨rfl, hBc4⟩
  replace hS := hS.grow hBc4
  refine l_pure rfl (s_move  rfl ?_)
  refine l_heavy rfl (s_call Tryz.call85 rfl (rsize_ok n _ (by omega) (by omega)) ?_)
  rintro _ wq5 ⟨rfl, hq5⟩
  replace hq5 := hq5.symm
  subst hq5
  rw [Int.natAbs_natCast]
  refine l_heavy rfl (s_call Tryz.call84 rfl (rFromUint_ok n _ (by omega)) ?_)
  rintro _ wc6 ⟨rfl, hBc6⟩
  replace hS := hS.grow hBc6
  refine l_heavy rfl (s_call Tryz.call105 rfl (hmk _) ?_)
  rintro _ wc7 ⟨rfl, hBc7⟩
  replace hS := hS.grow hBc7
  refine l_pure rfl (s_ext  rfl rfl ?_)
  refine l_pure rfl (s_ext  rfl rfl ?_)
  refine l_heavy rfl (s_sta (k := 0)  rfl rfl vi_36 hS rfl rfl rfl (Nat.le_of_ble_eq_true rfl) rfl ?_)
  intro wz8 hS
  refine l_pure rfl (s_asg  rfl ?_)
  refine l_nil ?_
  repeat (with_reducible first | refine c_seq ?_ | refine c_block ?_ | refine c_skip ?_ | refine x_then ?_ | refine x_block ?_)
  refine c_ret ?_
  repeat (with_reducible first | refine x_then_ret ?_ | refine x_block_ret ?_)
  refine r_cell_tmp (k := 0) rfl rfl rfl vi_36 hS rfl rfl ?_
  exact ⟨rfl, hS.below⟩
end Go.Proofs.YtmghobajmhdbfaaGreatDoor
namespace Go.Proofs.YtmghobajmhdbfaaGreatDoor
open Go Go.RowKit Go.Sx
theorem tl_iff (a b : ByteArray) : a.toList = b.toList ↔ a = b := by
  have := tl_eq a b
  rw [Bool.eq_iff_iff] at this
  simpa using this
theorem equalIn_Rat (d : Nat) (r s : RR) (w : World) : (Op.equalIn (d + 2) 36 (aggR r) (aggR s)).run Tryz.prog w = .ok (decide (r = s)) w := by
  unfold aggR
  rw [run_equalIn_agg (P := Tryz.prog) w (d + 1) 36 _ _ (by kernel_rfl) (by kernel_rfl)]
  have hb : Tryz.prog.underlying 4 = some .bool := by kernel_rfl
  have hs : Tryz.prog.underlying 9 = some .string := by kernel_rfl
  simp only [Program.fieldsOf, Tryz.underlying36]
  simp [Op.eqFields, part, run_equalIn_bool' (P := Tryz.prog) w _ _ _ _ hb, run_equalIn_string (P := Tryz.prog) w _ _ _ _ hs, tl_iff]
  cases r; cases s
  rename_i a b c a' b' c'
  simp only [RR.mk.injEq]
  by_cases h1 : a = a' <;> by_cases h2 : b = b' <;> by_cases h3 : c = c' <;> simp [h1, h2, h3]
section
variable {N : Nat} {ρ : Nat → Value} {d : Option Tmp} {ty : TypeId} {pos : String} {aft : Array Edge} {g : Option (Nat × Bool)} {x y : Operand} {t' : TypeId} {K : Value → Prop}
theorem s_eqR {r s : RR} (hx : ev N ρ x = aggR r) (hy : ev N ρ y = aggR s) (h : K (.bool (decide (r = s)))) : Pure1 Tryz.prog N ρ ⟨d, .binOp .eql 36 x y t', ty, pos, aft, g⟩ K := by
  refine ⟨_, fun w => ?_, h⟩
  have h1 : (eqGuard .eql 36 x y (aggR r) (aggR s)).run Tryz.prog w = .ok () w := run_eqGuard_agg (P := Tryz.prog) w .eql 36 x y _ _ (by kernel_rfl)
  have h2 : (binOp .eql 36 (aggR r) (aggR s)).run Tryz.prog w = .ok (.bool (decide (r = s))) w := by
    have := run_eql_struct (P := Tryz.prog) w 36 #[.bool r.neg, .string r.num, .string r.den] #[.bool s.neg, .string s.num, .string s.den]
    have h3 := equalIn_Rat 9998 r s w
    unfold aggR at *
    rw [this, h3]; rfl
  simp only [execOp, hx, hy, Sem.run_bind, h1, h2, Result.andThen_ok]
  rfl
theorem s_neR {r s : RR} (hx : ev N ρ x = aggR r) (hy : ev N ρ y = aggR s) (h : K (.bool (decide (r ≠ s)))) : Pure1 Tryz.prog N ρ ⟨d, .binOp .neq 36 x y t', ty, pos, aft, g⟩ K := by
  refine ⟨_, fun w => ?_, h⟩
  have h1 : (eqGuard .neq 36 x y (aggR r) (aggR s)).run Tryz.prog w = .ok () w := run_eqGuard_agg (P := Tryz.prog) w .neq 36 x y _ _ (by kernel_rfl)
  have h2 : (binOp .neq 36 (aggR r) (aggR s)).run Tryz.prog w = .ok (.bool (decide (r ≠ s))) w := by
    have := run_neq_struct (P := Tryz.prog) w 36 #[.bool r.neg, .string r.num, .string r.den] #[.bool s.neg, .string s.num, .string s.den]
    have h3 := equalIn_Rat 9998 r s w
    unfold aggR at *
    rw [this, h3]
    simp [Result.andThen]
  simp only [execOp, hx, hy, Sem.run_bind, h1, h2, Result.andThen_ok]
  rfl
end
end Go.Proofs.YtmghobajmhdbfaaGreatDoor
namespace Go.Sx
open Go Go.RowKit
structure Ch where
  claim : Int
  prio : Int
  lim : Bool
  limit : RR
structure It where
  price : RR
  costs : RR
  charges : List Ch
def encCh (c : Ch) : List Value := [.int .i64 c.claim, .int .i64 c.prio, .bool c.lim, .bool c.limit.neg, .string c.limit.num, .string c.limit.den]
def encIt (x : It × Value) : List Value := [.bool x.1.price.neg, .string x.1.price.num, .string x.1.price.den, .bool x.1.costs.neg, .string x.1.costs.num, .string x.1.costs.den, x.2]
def aggIt (x : It) (cv : Value) : Value := .agg #[.bool x.price.neg, .string x.price.num, .string x.price.den, .bool x.costs.neg, .string x.costs.num, .string x.costs.den, cv]
def zCh : Ch := ⟨0, 0, false, ⟨false, ⟨#[]⟩, ⟨#[]⟩⟩⟩
def zIt : It := ⟨⟨false, ⟨#[]⟩, ⟨#[]⟩⟩, ⟨false, ⟨#[]⟩, ⟨#[]⟩⟩, []⟩
/-- A slice of items: each with its own slice of charges. -/
structure Its (w : World) (v : Value) (X : List It) (cvs : List Value) : Prop where
  len : cvs.length = X.length
  sl : Sl encIt 7 w v (X.zip cvs)
  ch : ∀ i, i < X.length → Sl encCh 6 w (cvs.getD i undef) (X.getD i zIt).charges
theorem Its.below {w w' : World} {v : Value} {X : List It} {cvs : List Value} (h : Its w v X cvs) (hb : Below w.heap.size w w') : Its w' v X cvs := ⟨h.len, h.sl.below hb, fun i hi => (h.ch i hi).below hb⟩
theorem Its.zlen {w : World} {v : Value} {X : List It} {cvs : List Value} (h : Its w v X cvs) : (X.zip cvs).length = X.length := by rw [List.length_zip, h.len]; omega
theorem Its.zget {w : World} {v : Value} {X : List It} {cvs : List Value} (h : Its w v X cvs) {i : Nat} (hi : i < X.length) : (X.zip cvs).getD i (zIt, undef) = (X.getD i zIt, cvs.getD i undef) := by
  have h1 : i < cvs.length := by rw [h.len]; exact hi
  have h2 : i < (X.zip cvs).length := by rw [h.zlen]; exact hi
  rw [List.getD_eq_getElem?_getD, List.getElem?_eq_getElem h2, List.getElem_zip, List.getD_eq_getElem?_getD, List.getElem?_eq_getElem hi, List.getD_eq_getElem?_getD, List.getElem?_eq_getElem h1]; rfl
/-- The first error of a list's members, or 0. -/
def firstE {α : Type} (f : α → Int) : List α → Int
  | [] => 0
  | x :: l => if f x = 0 then firstE f l else f x
theorem firstE_append {α : Type} (f : α → Int) (l m : List α) : firstE f (l ++ m) = if firstE f l = 0 then firstE f m else firstE f l := by
  induction l with
  | nil => simp [firstE]
  | cons x l ih =>
    simp only [List.cons_append, firstE, ih]
    by_cases h : f x = 0 <;> simp [h]
theorem firstE_step {α : Type} (f : α → Int) (l : List α) (d : α) {i : Nat} (hi : i < l.length) (h : firstE f (l.take i) = 0) :
    (f (l.getD i d) = 0 → firstE f (l.take (i + 1)) = 0) ∧ (f (l.getD i d) ≠ 0 → firstE f l = f (l.getD i d)) := by
  have ht : l.take (i + 1) = l.take i ++ [l.getD i d] := by
    rw [List.take_succ_eq_append_getElem hi, List.getD_eq_getElem?_getD, List.getElem?_eq_getElem hi]; rfl
  constructor
  · intro h1
    rw [ht, firstE_append, h, if_pos rfl, firstE, if_pos h1]; rfl
  · intro h1
    have hl : l = l.take i ++ (l.getD i d :: l.drop (i + 1)) := by
      conv => lhs; rw [← List.take_append_drop (i + 1) l, ht, List.append_assoc]
      rfl
    conv => lhs; rw [hl]
    rw [firstE_append, h, if_pos rfl, firstE, if_neg h1]
def chErr (m : Nat) (c : Ch) : Int := if c.claim < 0 ∨ (m : Int) ≤ c.claim then 1 else if c.lim = true ∧ toQ c.limit < 0 then 7 else 0
def itErr (m : Nat) (x : It) : Int := if 8 < x.charges.length then 2 else if toQ x.price < 0 ∨ toQ x.costs < 0 then 7 else firstE (chErr m) x.charges
def negs (l : List RR) : Bool := l.any fun r => decide (toQ r < 0)
def checkE (X : List It) (owed : List RR) : Int := if 8 < X.length ∨ 24 < owed.length then 2 else if negs owed = true then 7 else firstE (itErr owed.length) X
/-- How long the numbers of items are. -/
def ItB (k : Nat) (X : List It) : Prop := ∀ x ∈ X, Lr x.price ≤ k ∧ Lr x.costs ≤ k ∧ ∀ c ∈ x.charges, Lr c.limit ≤ k
def RB (k : Nat) (l : List RR) : Prop := ∀ r ∈ l, Lr r ≤ k
end Go.Sx
namespace Go.Proofs.YtmghobajmhdbfaaGreatDoor
open Go Go.RowKit Go.Sx
theorem lam_ok (r : RR) (w : World) (hr : Lr r ≤ MX) :
    Ret Tryz.prog 55 #[aggR r] w fun v w' => v = .bool (decide (toQ r < 0)) ∧ Below w.heap.size w w' := by
  have hS := St.init w
  refine enter Tryz.func55 rfl Tryz.ntmps55 rfl ?_
  repeat (with_reducible first | refine c_seq ?_ | refine c_block ?_ | refine c_skip ?_ | refine x_then ?_ | refine x_block ?_)
  refine c_reg ?_
  refine l_heavy rfl (s_box (new := encR r)  rfl rfl hS ?_)
  intro b1 wz2 hS hBz2
  refine l_pure rfl (s_asg  rfl ?_)
  refine l_nil ?_
  repeat (with_reducible first | refine c_seq ?_ | refine c_block ?_ | refine c_skip ?_ | refine x_then ?_ | refine x_block ?_)
  refine c_reg ?_
  refine l_read rfl (s_ldo (k := 0)  rfl vi_36 hS rfl rfl rfl (.inl rfl) ?_)
  refine l_heavy rfl (s_call Tryz.call12 rfl (Sign_ok r _ hr) ?_)
  rintro _ wc3 ⟨rfl, hBc3⟩
  replace hS := hS.grow hBc3
  refine l_pure rfl (s_lss  rfl rfl ?_)
  refine l_pure rfl (s_asg  rfl ?_)
  refine l_nil ?_
  repeat (with_reducible first | refine c_seq ?_ | refine c_block ?_ | refine c_skip ?_ | refine x_then ?_ | refine x_block ?_)
  refine c_ret ?_
  repeat (with_reducible first | refine x_then_ret ?_ | refine x_block_ret ?_)
  refine r_one rfl rfl ?_
  exact ⟨congrArg Value.bool (decide_eq_decide.2 sgnQ_neg), hS.below⟩
theorem negs_take (l : List RR) {i : Nat} (hi : i < l.length) (h : negs (l.take i) = false) : (¬ toQ (l.getD i zRR) < 0 → negs (l.take (i + 1)) = false) ∧ (toQ (l.getD i zRR) < 0 → negs l = true) := by
  have ht := take_succ' l i zRR hi
  constructor
  · intro h1
    unfold negs at *
    rw [ht, List.any_append, h]
    simpa using h1
  · intro h1
    unfold negs
    rw [List.any_eq_true]
    exact ⟨_, getD_mem l i zRR hi, decide_eq_true h1⟩
theorem IndexFunc_ok (v : Value) (l : List RR) (w : World) (hv : Sl encR 3 w v l) (hl : RB MX l) :
    Ret Tryz.prog 86 #[v, .func (.func 55) #[] #[]] w fun r w' => (∃ k : Int, r = .int .i64 k ∧ (0 ≤ k ↔ negs l = true)) ∧ Below w.heap.size w w' := by
  have hmax := hv.maxLen
  have hS := St.init w
  refine enter Tryz.func86 rfl Tryz.ntmps86 rfl ?_
  repeat (with_reducible first | refine c_seq ?_ | refine c_block ?_ | refine c_skip ?_ | refine x_then ?_ | refine x_block ?_)
  refine c_reg ?_
  refine l_pure rfl (s_asg  rfl ?_)
  refine l_nil ?_
  repeat (with_reducible first | refine c_seq ?_ | refine c_block ?_ | refine c_skip ?_ | refine x_then ?_ | refine x_block ?_)
  refine c_reg ?_
  refine l_pure rfl (s_move  rfl ?_)
  refine l_pure rfl (s_lenr  rfl (hv.below hS.below) ⟨_, Tryz.underlying24⟩ ?_)
  refine l_pure rfl (s_move  rfl ?_)
  refine l_nil ?_
  repeat (with_reducible first | refine c_seq ?_ | refine c_block ?_ | refine c_skip ?_ | refine x_then ?_ | refine x_block ?_)
  refine c_loop (σ := Nat) (fun i ρ w' => i ≤ l.length ∧ negs (l.take i) = false ∧ ρ 0 = v ∧ ρ 1 = .func (.func 55) #[] #[] ∧ ρ 7 = .int .i64 l.length ∧ ρ 8 = .int .i64 i ∧ St w w' []) (fun i => l.length - i) 0
    ⟨Nat.zero_le _, rfl, rfl, rfl, rfl, rfl, hS⟩ ?_
  clear hS
  rintro i ρ w2 ⟨hi, hn, h0, h1, h7, h8, hS⟩
  repeat (with_reducible first | refine c_seq ?_ | refine c_block ?_ | refine c_skip ?_ | refine x_then ?_ | refine x_block ?_)
  refine c_reg ?_
  refine l_pure rfl (s_lss  h8 h7 ?_)
  refine l_nil ?_
  repeat (with_reducible first | refine c_seq ?_ | refine c_block ?_ | refine c_skip ?_ | refine x_then ?_ | refine x_block ?_)
  by_cases hlt : i < l.length
  · refine c_yes rfl (decide_eq_true (by omega)) ?_
    repeat (with_reducible first | refine c_seq ?_ | refine c_block ?_ | refine c_skip ?_ | refine x_then ?_ | refine x_block ?_)
    obtain ⟨t1, t2⟩ := negs_take l hlt hn
    repeat (with_reducible first | refine c_seq ?_ | refine c_block ?_ | refine c_skip ?_ | refine x_then ?_ | refine x_block ?_)
    refine c_reg ?_
    refine l_pure rfl (s_move  h8 ?_)
    refine l_pure rfl (s_asg  rfl ?_)
    refine l_nil ?_
    repeat (with_reducible first | refine c_seq ?_ | refine c_block ?_ | refine c_skip ?_ | refine x_then ?_ | refine x_block ?_)
    refine c_reg ?_
    refine l_pure rfl (s_move  h1 ?_)
    refine l_pure rfl (s_move  h0 ?_)
    refine l_pure rfl (s_move  rfl ?_)
    refine l_pure rfl (s_ixr (i := i)  rfl rfl (hv.below hS.below) (by omega) (by first | omega | (simp; done) | (simp; omega)) si_24 ?_)
    refine l_read rfl (s_lde (i := i) zRR  rfl vi_36 (hv.below hS.below) (by first | omega | (simp; done) | (simp; omega)) rfl rfl (.inl rfl) ?_)
    refine l_heavy rfl (s_callv Tryz.call55 rfl rfl (lam_ok (l.getD i zRR) _ (hl _ (getD_mem l i zRR hlt))) ?_)
    rintro r w3 ⟨rfl, hB3⟩
    replace hS := hS.grow hB3
    refine l_nil ?_
    repeat (with_reducible first | refine c_seq ?_ | refine c_block ?_ | refine c_skip ?_ | refine x_then ?_ | refine x_block ?_)
    by_cases hneg : toQ (l.getD i zRR) < 0
    · refine c_yes rfl (decide_eq_true hneg) ?_
      repeat (with_reducible first | refine c_seq ?_ | refine c_block ?_ | refine c_skip ?_ | refine x_then ?_ | refine x_block ?_)
      refine c_reg ?_
      refine l_pure rfl (s_move  rfl ?_)
      refine l_pure rfl (s_asg  rfl ?_)
      refine l_nil ?_
      repeat (with_reducible first | refine c_seq ?_ | refine c_block ?_ | refine c_skip ?_ | refine x_then ?_ | refine x_block ?_)
      refine c_ret ?_
      repeat (with_reducible first | refine x_then_ret ?_ | refine x_block_ret ?_)
      refine r_one rfl rfl ?_
      exact ⟨⟨_, rfl, ⟨fun _ => t2 hneg, fun _ => by omega⟩⟩, hS.below⟩
    · refine c_no rfl (decide_eq_false hneg) ?_
      repeat (with_reducible first | refine c_seq ?_ | refine c_block ?_ | refine c_skip ?_ | refine x_then ?_ | refine x_block ?_)
      refine c_reg ?_
      refine l_pure rfl (s_add  h8 rfl (IntWalk.i64_in _ (by omega)) ?_)
      refine l_pure rfl (s_move  rfl ?_)
      refine l_nil ?_
      repeat (with_reducible first | refine c_seq ?_ | refine c_block ?_ | refine c_skip ?_ | refine x_then ?_ | refine x_block ?_)
      exact ⟨i + 1, _, rfl, ⟨hlt, t1 hneg, h0, h1, h7, vi rfl (by omega), hS⟩, by omega⟩
  · refine c_no rfl (decide_eq_false (by omega)) ?_
    repeat (with_reducible first | refine c_seq ?_ | refine c_block ?_ | refine c_skip ?_ | refine x_then ?_ | refine x_block ?_)
    refine c_exit ?_
    repeat (with_reducible first | refine x_then_exit ?_ | refine x_block_exit ?_ | refine x_block_pass rfl ?_)
    repeat (with_reducible first | refine c_seq ?_ | refine c_block ?_ | refine c_skip ?_ | refine x_then ?_ | refine x_block ?_)
    obtain rfl : i = l.length := by omega
    rw [List.take_length] at hn
    repeat (with_reducible first | refine c_seq ?_ | refine c_block ?_ | refine c_skip ?_ | refine x_then ?_ | refine x_block ?_)
    refine c_reg ?_
    refine l_pure rfl (s_asg  rfl ?_)
    refine l_nil ?_
    repeat (with_reducible first | refine c_seq ?_ | refine c_block ?_ | refine c_skip ?_ | refine x_then ?_ | refine x_block ?_)
    refine c_ret ?_
    repeat (with_reducible first | refine x_then_ret ?_ | refine x_block_ret ?_)
    refine r_one rfl rfl ?_
    exact ⟨⟨_, rfl, ⟨fun h => by omega, fun h => by rw [hn] at h; cases h⟩⟩, hS.below⟩
theorem ContainsFunc_ok (v : Value) (l : List RR) (w : World) (hv : Sl encR 3 w v l) (hl : RB MX l) :
    Ret Tryz.prog 54 #[v, .func (.func 55) #[] #[]] w fun r w' => r = .bool (negs l) ∧ Below w.heap.size w w' := by
  have hS := St.init w
  refine enter Tryz.func54 rfl Tryz.ntmps54 rfl ?_
  repeat (with_reducible first | refine c_seq ?_ | refine c_block ?_ | refine c_skip ?_ | refine x_then ?_ | refine x_block ?_)
  refine c_reg ?_
  refine l_pure rfl (s_asg  rfl ?_)
  refine l_nil ?_
  repeat (with_reducible first | refine c_seq ?_ | refine c_block ?_ | refine c_skip ?_ | refine x_then ?_ | refine x_block ?_)
  refine c_reg ?_
  refine l_pure rfl (s_move  rfl ?_)
  refine l_pure rfl (s_move  rfl ?_)
  refine l_heavy rfl (s_call Tryz.call86 rfl (IndexFunc_ok v l _ hv hl) ?_)
  rintro r w3 ⟨⟨k, rfl, hk⟩, hB3⟩
  replace hS := hS.grow hB3
  refine l_pure rfl (s_geq  rfl rfl ?_)
  refine l_pure rfl (s_asg  rfl ?_)
  refine l_nil ?_
  repeat (with_reducible first | refine c_seq ?_ | refine c_block ?_ | refine c_skip ?_ | refine x_then ?_ | refine x_block ?_)
  refine c_ret ?_
  repeat (with_reducible first | refine x_then_ret ?_ | refine x_block_ret ?_)
  refine r_one rfl rfl ?_
  refine ⟨congrArg Value.bool ?_, hS.below⟩
  rw [Bool.eq_iff_iff, decide_eq_true_iff]; exact hk
set_option maxHeartbeats 1000000 in
theorem Check_ok (vi_ vo : Value) (X : List It) (cvs : List Value) (owed : List RR) (w : World) (hX : Its w vi_ X cvs) (ho : Sl encR 3 w vo owed) (hXB : ItB MX X) (hoB : RB MX owed) :
    Ret Tryz.prog 25 #[vi_, vo] w fun r w' => r = .int .i64 (checkE X owed) ∧ Below w.heap.size w w' := by
  have hmo := ho.maxLen
  have hmX := hX.sl.maxLen
  rw [hX.zlen] at hmX
  have hzl := hX.zlen
  have hS := St.init w
  obtain ⟨m, hm⟩ : ∃ m, m = owed.length := ⟨_, rfl⟩
  refine enter Tryz.func25 rfl Tryz.ntmps25 rfl ?_
  repeat (with_reducible first | refine c_seq ?_ | refine c_block ?_ | refine c_skip ?_ | refine x_then ?_ | refine x_block ?_)
  refine c_reg ?_
  refine l_pure rfl (s_asg  rfl ?_)
  refine l_nil ?_
  repeat (with_reducible first | refine c_seq ?_ | refine c_block ?_ | refine c_skip ?_ | refine x_then ?_ | refine x_block ?_)
  refine c_cut1 (fun ρ w' => ρ 0 = vi_ ∧ ρ 1 = vo ∧ ρ 16 = .bool (decide (8 < X.length ∨ 24 < owed.length)) ∧ w = w') ?_ ?_
  · by_cases h1 : 8 < X.length
    · repeat (with_reducible first | refine c_seq ?_ | refine c_block ?_ | refine c_skip ?_ | refine x_then ?_ | refine x_block ?_)
      refine c_reg ?_
      refine l_pure rfl (s_move  rfl ?_)
      refine l_pure rfl (s_lenr  rfl (hX.sl.below hS.below) ⟨_, Tryz.underlying26⟩ ?_)
      refine l_pure rfl (s_gtr  rfl rfl ?_)
      refine l_pure rfl (s_move  rfl ?_)
      refine l_no (gno_yes 12 (by kernel_rfl) rfl (decide_eq_true (by omega))) ?_
      refine l_no (gno_yes 12 (by kernel_rfl) rfl (decide_eq_true (by omega))) ?_
      refine l_no (gno_yes 12 (by kernel_rfl) rfl (decide_eq_true (by omega))) ?_
      refine l_pure rfl (s_pick (vb rfl (decide_eq_true (by omega))) rfl ?_)
      refine l_nil ?_
      repeat (with_reducible first | refine c_seq ?_ | refine c_block ?_ | refine c_skip ?_ | refine x_then ?_ | refine x_block ?_)
      exact ⟨_, rfl, rfl, rfl, vb rfl (decide_eq_true (.inl h1)).symm, rfl⟩
    · repeat (with_reducible first | refine c_seq ?_ | refine c_block ?_ | refine c_skip ?_ | refine x_then ?_ | refine x_block ?_)
      refine c_reg ?_
      refine l_pure rfl (s_move  rfl ?_)
      refine l_pure rfl (s_lenr  rfl (hX.sl.below hS.below) ⟨_, Tryz.underlying26⟩ ?_)
      refine l_pure rfl (s_gtr  rfl rfl ?_)
      refine l_pure rfl (s_move  rfl ?_)
      refine l_pure (gd_yes 12 (by kernel_rfl) rfl (decide_eq_false (by omega))) (s_move  rfl ?_)
      refine l_pure (gd_yes 12 (by kernel_rfl) rfl (decide_eq_false (by omega))) (s_lenr  rfl (ho.below hS.below) ⟨_, Tryz.underlying24⟩ ?_)
      refine l_pure (gd_yes 12 (by kernel_rfl) rfl (decide_eq_false (by omega))) (s_gtr  rfl rfl ?_)
      refine l_pure rfl (s_pick (vb rfl (decide_eq_false (by omega))) rfl ?_)
      refine l_nil ?_
      repeat (with_reducible first | refine c_seq ?_ | refine c_block ?_ | refine c_skip ?_ | refine x_then ?_ | refine x_block ?_)
      exact ⟨_, rfl, rfl, rfl, vb rfl (by rw [decide_eq_decide]; omega), rfl⟩
  rintro ρ w' ⟨h0, h1, h16, rfl⟩
  repeat (with_reducible first | refine c_seq ?_ | refine c_block ?_ | refine c_skip ?_ | refine x_then ?_ | refine x_block ?_)
  by_cases hlong : 8 < X.length ∨ 24 < owed.length
  · refine c_yes h16 (decide_eq_true hlong) ?_
    repeat (with_reducible first | refine c_seq ?_ | refine c_block ?_ | refine c_skip ?_ | refine x_then ?_ | refine x_block ?_)
    refine c_reg ?_
    refine l_pure rfl (s_asg  rfl ?_)
    refine l_nil ?_
    repeat (with_reducible first | refine c_seq ?_ | refine c_block ?_ | refine c_skip ?_ | refine x_then ?_ | refine x_block ?_)
    refine c_ret ?_
    repeat (with_reducible first | refine x_then_ret ?_ | refine x_block_ret ?_)
    refine r_one rfl rfl ?_
    exact ⟨vi rfl (by unfold checkE; rw [if_pos hlong]), hS.below⟩
  refine c_no h16 (decide_eq_false hlong) ?_
  repeat (with_reducible first | refine c_seq ?_ | refine c_block ?_ | refine c_skip ?_ | refine x_then ?_ | refine x_block ?_)
  refine c_reg ?_
  refine l_pure rfl (s_move  h1 ?_)
  refine l_heavy rfl (s_call Tryz.call54 rfl (ContainsFunc_ok vo owed _ ho hoB) ?_)
  rintro _ wc1 ⟨rfl, hBc1⟩
  replace hS := hS.grow hBc1
  refine l_nil ?_
  repeat (with_reducible first | refine c_seq ?_ | refine c_block ?_ | refine c_skip ?_ | refine x_then ?_ | refine x_block ?_)
  by_cases hneg : negs owed = true
  · refine c_yes rfl (hneg) ?_
    repeat (with_reducible first | refine c_seq ?_ | refine c_block ?_ | refine c_skip ?_ | refine x_then ?_ | refine x_block ?_)
    refine c_reg ?_
    refine l_pure rfl (s_asg  rfl ?_)
    refine l_nil ?_
    repeat (with_reducible first | refine c_seq ?_ | refine c_block ?_ | refine c_skip ?_ | refine x_then ?_ | refine x_block ?_)
    refine c_ret ?_
    repeat (with_reducible first | refine x_then_ret ?_ | refine x_block_ret ?_)
    refine r_one rfl rfl ?_
    exact ⟨vi rfl (by unfold checkE; rw [if_neg hlong, if_pos hneg]), hS.below⟩
  refine c_no rfl (by rw [← Bool.not_eq_true]; exact hneg) ?_
  repeat (with_reducible first | refine c_seq ?_ | refine c_block ?_ | refine c_skip ?_ | refine x_then ?_ | refine x_block ?_)
  have hfin : checkE X owed = firstE (itErr m) X := by unfold checkE; rw [if_neg hlong, if_neg hneg, hm]
  rw [hfin]
  repeat (with_reducible first | refine c_seq ?_ | refine c_block ?_ | refine c_skip ?_ | refine x_then ?_ | refine x_block ?_)
  refine c_reg ?_
  refine l_pure rfl (s_move  h0 ?_)
  refine l_pure rfl (s_lenr  rfl (hX.sl.below hS.below) ⟨_, Tryz.underlying26⟩ ?_)
  refine l_pure rfl (s_move  rfl ?_)
  refine l_nil ?_
  repeat (with_reducible first | refine c_seq ?_ | refine c_block ?_ | refine c_skip ?_ | refine x_then ?_ | refine x_block ?_)
  refine c_loop (σ := Nat) (fun i ρ w' => i ≤ X.length ∧ firstE (itErr m) (X.take i) = 0 ∧ ρ 1 = vo ∧ ρ 19 = vi_ ∧ ρ 20 = .int .i64 X.length ∧ ρ 21 = .int .i64 i ∧ St w w' []) (fun i => X.length - i) 0
    ⟨Nat.zero_le _, rfl, h1, rfl, vi rfl (by rw [hzl]), rfl, hS⟩ ?_
  clear hS h0 h1 h16
  rintro i ρ w2 ⟨hi, hok1, h1, h19, h20, h21, hS⟩
  repeat (with_reducible first | refine c_seq ?_ | refine c_block ?_ | refine c_skip ?_ | refine x_then ?_ | refine x_block ?_)
  refine c_reg ?_
  refine l_pure rfl (s_lss  h21 h20 ?_)
  refine l_nil ?_
  repeat (with_reducible first | refine c_seq ?_ | refine c_block ?_ | refine c_skip ?_ | refine x_then ?_ | refine x_block ?_)
  by_cases hlt : i < X.length
  · refine c_yes rfl (decide_eq_true (by omega)) ?_
    repeat (with_reducible first | refine c_seq ?_ | refine c_block ?_ | refine c_skip ?_ | refine x_then ?_ | refine x_block ?_)
    obtain ⟨x, hx⟩ : ∃ x, x = X.getD i zIt := ⟨_, rfl⟩
    obtain ⟨cv, hcv⟩ : ∃ cv, cv = cvs.getD i undef := ⟨_, rfl⟩
    have hmem : x ∈ X := by rw [hx]; exact getD_mem X i zIt hlt
    have hxB := hXB x hmem
    have hch := hX.ch i hlt
    rw [← hx, ← hcv] at hch
    have hmc := hch.maxLen
    obtain ⟨ca, ccap, hcve, _⟩ := hch.form
    subst hcve
    have hzg := hX.zget hlt
    rw [← hx, ← hcv] at hzg
    obtain ⟨f1, f2⟩ := firstE_step (itErr m) X zIt hlt hok1
    rw [← hx] at f1 f2
    repeat (with_reducible first | refine c_seq ?_ | refine c_block ?_ | refine c_skip ?_ | refine x_then ?_ | refine x_block ?_)
    refine c_reg ?_
    refine l_pure rfl (s_ixr (i := i)  h19 h21 (hX.sl.below hS.below) (by omega) (by first | omega | (simp; done) | (simp; omega)) si_26 ?_)
    refine l_read rfl (s_lde (v := aggIt x (.slice ca x.charges.length ccap)) (i := i) (zIt, undef)  rfl vi_41 (hX.sl.below hS.below) (by omega) rfl (by rw [hzg]; rfl) (.inl rfl) ?_)
    refine l_heavy rfl (s_alloc  vi_41 hS ?_)
    intro b2 wz3 hS hBz3
    refine l_heavy rfl (s_sta (k := 0)  rfl rfl vi_41 hS rfl rfl rfl (Nat.le_of_ble_eq_true rfl) rfl ?_)
    intro wz4 hS
    refine l_nil ?_
    repeat (with_reducible first | refine c_seq ?_ | refine c_block ?_ | refine c_skip ?_ | refine x_then ?_ | refine x_block ?_)
    replace hS : St w _ [(b2, 41, encIt (x, .slice ca x.charges.length ccap))] := hS
    repeat (with_reducible first | refine c_seq ?_ | refine c_block ?_ | refine c_skip ?_ | refine x_then ?_ | refine x_block ?_)
    refine c_reg ?_
    refine l_pure rfl (s_fld  rfl fo_41_2 ?_)
    refine l_read rfl (s_ldo (k := 0)  rfl vi_39 hS rfl rfl rfl (.inr rfl) ?_)
    refine l_pure rfl (s_lenr  rfl (hch.below hS.below) ⟨_, Tryz.underlying39⟩ ?_)
    refine l_pure rfl (s_gtr  rfl rfl ?_)
    refine l_nil ?_
    repeat (with_reducible first | refine c_seq ?_ | refine c_block ?_ | refine c_skip ?_ | refine x_then ?_ | refine x_block ?_)
    by_cases hl8 : 8 < x.charges.length
    · refine c_yes rfl (decide_eq_true (by omega)) ?_
      repeat (with_reducible first | refine c_seq ?_ | refine c_block ?_ | refine c_skip ?_ | refine x_then ?_ | refine x_block ?_)
      have he : itErr m x = 2 := by unfold itErr; rw [if_pos hl8]
      repeat (with_reducible first | refine c_seq ?_ | refine c_block ?_ | refine c_skip ?_ | refine x_then ?_ | refine x_block ?_)
      refine c_reg ?_
      refine l_pure rfl (s_asg  rfl ?_)
      refine l_nil ?_
      repeat (with_reducible first | refine c_seq ?_ | refine c_block ?_ | refine c_skip ?_ | refine x_then ?_ | refine x_block ?_)
      refine c_ret ?_
      repeat (with_reducible first | refine x_then_ret ?_ | refine x_block_ret ?_)
      refine r_one rfl rfl ?_
      exact ⟨vi rfl (by rw [f2 (by rw [he]; decide), he]), hS.below⟩
    refine c_no rfl (decide_eq_false (by omega)) ?_
    repeat (with_reducible first | refine c_seq ?_ | refine c_block ?_ | refine c_skip ?_ | refine x_then ?_ | refine x_block ?_)
    refine c_cut1 (fun ρ w' => ρ 1 = vo ∧ ρ 6 = .pointer (some ⟨b2, 0, none⟩) ∧ ρ 19 = vi_ ∧ ρ 20 = .int .i64 X.length ∧ ρ 21 = .int .i64 i ∧ ρ 38 = .bool (decide (toQ x.price < 0 ∨ toQ x.costs < 0)) ∧ St w w' [(b2, 41, encIt (x, .slice ca x.charges.length ccap))]) ?_ ?_
    · repeat (with_reducible first | refine c_seq ?_ | refine c_block ?_ | refine c_skip ?_ | refine x_then ?_ | refine x_block ?_)
      by_cases hp : toQ x.price < 0
      · repeat (with_reducible first | refine c_seq ?_ | refine c_block ?_ | refine c_skip ?_ | refine x_then ?_ | refine x_block ?_)
        refine c_reg ?_
        refine l_pure rfl (s_fld  rfl fo_41_0 ?_)
        refine l_read rfl (s_ldo (k := 0)  rfl vi_36 hS rfl rfl rfl (.inl rfl) ?_)
        refine l_heavy rfl (s_call Tryz.call12 rfl (Sign_ok x.price _ hxB.1) ?_)
        rintro _ wc5 ⟨rfl, hBc5⟩
        replace hS := hS.grow hBc5
        refine l_pure rfl (s_lss  rfl rfl ?_)
        refine l_pure rfl (s_move  rfl ?_)
        refine l_no (gno_yes 33 (by kernel_rfl) rfl (decide_eq_true (sgnQ_neg.2 hp))) ?_
        refine l_no (gno_yes 33 (by kernel_rfl) rfl (decide_eq_true (sgnQ_neg.2 hp))) ?_
        refine l_no (gno_yes 33 (by kernel_rfl) rfl (decide_eq_true (sgnQ_neg.2 hp))) ?_
        refine l_no (gno_yes 33 (by kernel_rfl) rfl (decide_eq_true (sgnQ_neg.2 hp))) ?_
        refine l_pure rfl (s_pick (vb rfl (decide_eq_true (sgnQ_neg.2 hp))) rfl ?_)
        refine l_nil ?_
        repeat (with_reducible first | refine c_seq ?_ | refine c_block ?_ | refine c_skip ?_ | refine x_then ?_ | refine x_block ?_)
        exact ⟨_, rfl, h1, rfl, h19, h20, h21, vb rfl (decide_eq_true (.inl hp)).symm, hS⟩
      · repeat (with_reducible first | refine c_seq ?_ | refine c_block ?_ | refine c_skip ?_ | refine x_then ?_ | refine x_block ?_)
        refine c_reg ?_
        refine l_pure rfl (s_fld  rfl fo_41_0 ?_)
        refine l_read rfl (s_ldo (k := 0)  rfl vi_36 hS rfl rfl rfl (.inl rfl) ?_)
        refine l_heavy rfl (s_call Tryz.call12 rfl (Sign_ok x.price _ hxB.1) ?_)
        rintro _ wc6 ⟨rfl, hBc6⟩
        replace hS := hS.grow hBc6
        refine l_pure rfl (s_lss  rfl rfl ?_)
        refine l_pure rfl (s_move  rfl ?_)
        refine l_pure (gd_yes 33 (by kernel_rfl) rfl (decide_eq_false (fun g => hp (sgnQ_neg.1 g)))) (s_fld  rfl fo_41_1 ?_)
        refine l_read (gd_yes 33 (by kernel_rfl) rfl (decide_eq_false (fun g => hp (sgnQ_neg.1 g)))) (s_ldo (k := 0)  rfl vi_36 hS rfl rfl rfl (.inl rfl) ?_)
        refine l_heavy (gd_yes 33 (by kernel_rfl) rfl (decide_eq_false (fun g => hp (sgnQ_neg.1 g)))) (s_call Tryz.call12 rfl (Sign_ok x.costs _ hxB.2.1) ?_)
        rintro _ wc7 ⟨rfl, hBc7⟩
        replace hS := hS.grow hBc7
        refine l_pure (gd_yes 33 (by kernel_rfl) rfl (decide_eq_false (fun g => hp (sgnQ_neg.1 g)))) (s_lss  rfl rfl ?_)
        refine l_pure rfl (s_pick (vb rfl (decide_eq_false (fun g => hp (sgnQ_neg.1 g)))) rfl ?_)
        refine l_nil ?_
        repeat (with_reducible first | refine c_seq ?_ | refine c_block ?_ | refine c_skip ?_ | refine x_then ?_ | refine x_block ?_)
        exact ⟨_, rfl, h1, rfl, h19, h20, h21, vb rfl (by rw [decide_eq_decide, sgnQ_neg]; exact ⟨.inr, fun g => g.resolve_left hp⟩), hS⟩
    clear hS h1 h19 h20 h21
    rintro ρ w3 ⟨h1, h6, h19, h20, h21, h38, hS⟩
    repeat (with_reducible first | refine c_seq ?_ | refine c_block ?_ | refine c_skip ?_ | refine x_then ?_ | refine x_block ?_)
    by_cases hneg2 : toQ x.price < 0 ∨ toQ x.costs < 0
    · refine c_yes h38 (decide_eq_true hneg2) ?_
      repeat (with_reducible first | refine c_seq ?_ | refine c_block ?_ | refine c_skip ?_ | refine x_then ?_ | refine x_block ?_)
      have he : itErr m x = 7 := by unfold itErr; rw [if_neg hl8, if_pos hneg2]
      repeat (with_reducible first | refine c_seq ?_ | refine c_block ?_ | refine c_skip ?_ | refine x_then ?_ | refine x_block ?_)
      refine c_reg ?_
      refine l_pure rfl (s_asg  rfl ?_)
      refine l_nil ?_
      repeat (with_reducible first | refine c_seq ?_ | refine c_block ?_ | refine c_skip ?_ | refine x_then ?_ | refine x_block ?_)
      refine c_ret ?_
      repeat (with_reducible first | refine x_then_ret ?_ | refine x_block_ret ?_)
      refine r_one rfl rfl ?_
      exact ⟨vi rfl (by rw [f2 (by rw [he]; decide), he]), hS.below⟩
    refine c_no h38 (decide_eq_false hneg2) ?_
    repeat (with_reducible first | refine c_seq ?_ | refine c_block ?_ | refine c_skip ?_ | refine x_then ?_ | refine x_block ?_)
    have he : itErr m x = firstE (chErr m) x.charges := by unfold itErr; rw [if_neg hl8, if_neg hneg2]
    rw [he] at f1 f2
    repeat (with_reducible first | refine c_seq ?_ | refine c_block ?_ | refine c_skip ?_ | refine x_then ?_ | refine x_block ?_)
    refine c_reg ?_
    refine l_pure rfl (s_fld  h6 fo_41_2 ?_)
    refine l_read rfl (s_ldo (k := 0)  rfl vi_39 hS rfl rfl rfl (.inr rfl) ?_)
    refine l_pure rfl (s_lenr  rfl (hch.below hS.below) ⟨_, Tryz.underlying39⟩ ?_)
    refine l_pure rfl (s_move  rfl ?_)
    refine l_nil ?_
    repeat (with_reducible first | refine c_seq ?_ | refine c_skip ?_ | refine x_then ?_ | refine x_block ?_)
    refine c_cut1 (fun ρ w' => firstE (chErr m) x.charges = 0 ∧ ρ 1 = vo ∧ ρ 19 = vi_ ∧ ρ 20 = .int .i64 X.length ∧ ρ 21 = .int .i64 i ∧ St w w' []) ?_ ?_
    · repeat (with_reducible first | refine c_seq ?_ | refine c_block ?_ | refine c_skip ?_ | refine x_then ?_ | refine x_block ?_)
      refine c_loop (σ := Nat) (fun k ρ w' => k ≤ x.charges.length ∧ firstE (chErr m) (x.charges.take k) = 0 ∧ ρ 1 = vo ∧ ρ 19 = vi_ ∧ ρ 20 = .int .i64 X.length ∧ ρ 21 = .int .i64 i ∧ ρ 40 = .slice ca x.charges.length ccap ∧ ρ 41 = .int .i64 x.charges.length ∧ ρ 42 = .int .i64 k ∧ St w w' []) (fun k => x.charges.length - k) 0
        ⟨Nat.zero_le _, rfl, h1, h19, h20, h21, rfl, rfl, rfl, hS.drop (List.nil_sublist _)⟩ ?_
      clear hS h1 h6 h19 h20 h21 h38
      rintro k ρ w4 ⟨hk1, hok, h1, h19, h20, h21, h40, h41, h42, hS⟩
      repeat (with_reducible first | refine c_seq ?_ | refine c_block ?_ | refine c_skip ?_ | refine x_then ?_ | refine x_block ?_)
      refine c_reg ?_
      refine l_pure rfl (s_lss  h42 h41 ?_)
      refine l_nil ?_
      repeat (with_reducible first | refine c_seq ?_ | refine c_block ?_ | refine c_skip ?_ | refine x_then ?_ | refine x_block ?_)
      by_cases hk : k < x.charges.length
      · refine c_yes rfl (decide_eq_true (by omega)) ?_
        repeat (with_reducible first | refine c_seq ?_ | refine c_block ?_ | refine c_skip ?_ | refine x_then ?_ | refine x_block ?_)
        obtain ⟨c, hc⟩ : ∃ c, c = x.charges.getD k zCh := ⟨_, rfl⟩
        have hm2 : c ∈ x.charges := by rw [hc]; exact getD_mem x.charges k zCh hk
        have hcl : Lr c.limit ≤ MX := hxB.2.2 c hm2
        obtain ⟨e1, e2⟩ := firstE_step (chErr m) x.charges zCh hk hok
        rw [← hc] at e1 e2
        repeat (with_reducible first | refine c_seq ?_ | refine c_block ?_ | refine c_skip ?_ | refine x_then ?_ | refine x_block ?_)
        refine c_reg ?_
        refine l_pure rfl (s_ixr (i := k)  h40 h42 (hch.below hS.below) (by omega) (by first | omega | (simp; done) | (simp; omega)) si_39 ?_)
        refine l_read rfl (s_lde (i := k) zCh  rfl vi_62 (hch.below hS.below) (by first | omega | (simp; done) | (simp; omega)) rfl rfl (.inl rfl) ?_)
        refine l_heavy rfl (s_alloc  vi_62 hS ?_)
        intro b8 wz9 hS hBz9
        refine l_heavy rfl (s_sta (k := 0)  rfl rfl vi_62 hS rfl rfl rfl (Nat.le_of_ble_eq_true rfl) rfl ?_)
        intro wz10 hS
        refine l_nil ?_
        repeat (with_reducible first | refine c_seq ?_ | refine c_block ?_ | refine c_skip ?_ | refine x_then ?_ | refine x_block ?_)
        rw [← hc] at hS
        replace hS : St w _ [(_, 62, encCh c)] := hS
        refine c_cut1 (fun ρ w' => ρ 1 = vo ∧ ρ 8 = .pointer (some ⟨b8, 0, none⟩) ∧ ρ 19 = vi_ ∧ ρ 20 = .int .i64 X.length ∧ ρ 21 = .int .i64 i ∧ ρ 40 = .slice ca x.charges.length ccap ∧ ρ 41 = .int .i64 x.charges.length ∧ ρ 42 = .int .i64 k ∧ ρ 55 = .bool (decide (c.claim < 0 ∨ (m : Int) ≤ c.claim)) ∧ St w w' [(b8, 62, encCh c)]) ?_ ?_
        · repeat (with_reducible first | refine c_seq ?_ | refine c_block ?_ | refine c_skip ?_ | refine x_then ?_ | refine x_block ?_)
          by_cases hp : c.claim < 0
          · repeat (with_reducible first | refine c_seq ?_ | refine c_block ?_ | refine c_skip ?_ | refine x_then ?_ | refine x_block ?_)
            refine c_reg ?_
            refine l_pure rfl (s_fld  rfl fo_62_0 ?_)
            refine l_read rfl (s_ldo (k := 0)  rfl vi_3 hS rfl rfl rfl (.inr rfl) ?_)
            refine l_pure rfl (s_lss  rfl rfl ?_)
            refine l_pure rfl (s_move  rfl ?_)
            refine l_no (gno_yes 49 (by kernel_rfl) rfl (decide_eq_true hp)) ?_
            refine l_no (gno_yes 49 (by kernel_rfl) rfl (decide_eq_true hp)) ?_
            refine l_no (gno_yes 49 (by kernel_rfl) rfl (decide_eq_true hp)) ?_
            refine l_no (gno_yes 49 (by kernel_rfl) rfl (decide_eq_true hp)) ?_
            refine l_no (gno_yes 49 (by kernel_rfl) rfl (decide_eq_true hp)) ?_
            refine l_pure rfl (s_pick (vb rfl (decide_eq_true hp)) rfl ?_)
            refine l_nil ?_
            repeat (with_reducible first | refine c_seq ?_ | refine c_block ?_ | refine c_skip ?_ | refine x_then ?_ | refine x_block ?_)
            exact ⟨_, rfl, h1, rfl, h19, h20, h21, h40, h41, h42, vb rfl (decide_eq_true (.inl hp)).symm, hS⟩
          · repeat (with_reducible first | refine c_seq ?_ | refine c_block ?_ | refine c_skip ?_ | refine x_then ?_ | refine x_block ?_)
            refine c_reg ?_
            refine l_pure rfl (s_fld  rfl fo_62_0 ?_)
            refine l_read rfl (s_ldo (k := 0)  rfl vi_3 hS rfl rfl rfl (.inr rfl) ?_)
            refine l_pure rfl (s_lss  rfl rfl ?_)
            refine l_pure rfl (s_move  rfl ?_)
            refine l_pure (gd_yes 49 (by kernel_rfl) rfl (decide_eq_false hp)) (s_fld  rfl fo_62_0 ?_)
            refine l_read (gd_yes 49 (by kernel_rfl) rfl (decide_eq_false hp)) (s_ldo (k := 0)  rfl vi_3 hS rfl rfl rfl (.inr rfl) ?_)
            refine l_pure (gd_yes 49 (by kernel_rfl) rfl (decide_eq_false hp)) (s_move  h1 ?_)
            refine l_pure (gd_yes 49 (by kernel_rfl) rfl (decide_eq_false hp)) (s_lenr  rfl (ho.below hS.below) ⟨_, Tryz.underlying24⟩ ?_)
            refine l_pure (gd_yes 49 (by kernel_rfl) rfl (decide_eq_false hp)) (s_geq  rfl rfl ?_)
            refine l_pure rfl (s_pick (vb rfl (decide_eq_false hp)) rfl ?_)
            refine l_nil ?_
            repeat (with_reducible first | refine c_seq ?_ | refine c_block ?_ | refine c_skip ?_ | refine x_then ?_ | refine x_block ?_)
            exact ⟨_, rfl, h1, rfl, h19, h20, h21, h40, h41, h42, vb rfl (by rw [decide_eq_decide]; omega), hS⟩
        clear hS h1 h19 h20 h21 h40 h41 h42
        rintro ρ w5 ⟨h1, h8, h19, h20, h21, h40, h41, h42, h55, hS⟩
        repeat (with_reducible first | refine c_seq ?_ | refine c_block ?_ | refine c_skip ?_ | refine x_then ?_ | refine x_block ?_)
        by_cases hr : c.claim < 0 ∨ (m : Int) ≤ c.claim
        · refine c_yes h55 (decide_eq_true hr) ?_
          repeat (with_reducible first | refine c_seq ?_ | refine c_block ?_ | refine c_skip ?_ | refine x_then ?_ | refine x_block ?_)
          have he1 : chErr m c = 1 := by unfold chErr; rw [if_pos hr]
          repeat (with_reducible first | refine c_seq ?_ | refine c_block ?_ | refine c_skip ?_ | refine x_then ?_ | refine x_block ?_)
          refine c_reg ?_
          refine l_pure rfl (s_asg  rfl ?_)
          refine l_nil ?_
          repeat (with_reducible first | refine c_seq ?_ | refine c_block ?_ | refine c_skip ?_ | refine x_then ?_ | refine x_block ?_)
          refine c_ret ?_
          repeat (with_reducible first | refine x_then_ret ?_ | refine x_block_ret ?_)
          refine r_one rfl rfl ?_
          exact ⟨vi rfl (by rw [f2 (by rw [e2 (by rw [he1]; decide), he1]; decide), e2 (by rw [he1]; decide), he1]), hS.below⟩
        refine c_no h55 (decide_eq_false hr) ?_
        repeat (with_reducible first | refine c_seq ?_ | refine c_block ?_ | refine c_skip ?_ | refine x_then ?_ | refine x_block ?_)
        refine c_cut1 (fun ρ w' => ρ 1 = vo ∧ ρ 19 = vi_ ∧ ρ 20 = .int .i64 X.length ∧ ρ 21 = .int .i64 i ∧ ρ 40 = .slice ca x.charges.length ccap ∧ ρ 41 = .int .i64 x.charges.length ∧ ρ 42 = .int .i64 k ∧ ρ 63 = .bool (decide (c.lim = true ∧ toQ c.limit < 0)) ∧ St w w' [(b8, 62, encCh c)]) ?_ ?_
        · repeat (with_reducible first | refine c_seq ?_ | refine c_block ?_ | refine c_skip ?_ | refine x_then ?_ | refine x_block ?_)
          by_cases hp : c.lim = true
          · repeat (with_reducible first | refine c_seq ?_ | refine c_block ?_ | refine c_skip ?_ | refine x_then ?_ | refine x_block ?_)
            refine c_reg ?_
            refine l_pure rfl (s_fld  h8 fo_62_2 ?_)
            refine l_read rfl (s_ldo (k := 0)  rfl vi_4 hS rfl rfl rfl (.inr rfl) ?_)
            refine l_pure rfl (s_move  rfl ?_)
            refine l_pure (gd_yes 58 (by kernel_rfl) rfl hp) (s_fld  h8 fo_62_3 ?_)
            refine l_read (gd_yes 58 (by kernel_rfl) rfl hp) (s_ldo (k := 0)  rfl vi_36 hS rfl rfl rfl (.inl rfl) ?_)
            refine l_heavy (gd_yes 58 (by kernel_rfl) rfl hp) (s_call Tryz.call12 rfl (Sign_ok c.limit _ hcl) ?_)
            rintro _ wc11 ⟨rfl, hBc11⟩
            replace hS := hS.grow hBc11
            refine l_pure (gd_yes 58 (by kernel_rfl) rfl hp) (s_lss  rfl rfl ?_)
            refine l_pure rfl (s_pick (vb rfl hp) rfl ?_)
            refine l_nil ?_
            repeat (with_reducible first | refine c_seq ?_ | refine c_block ?_ | refine c_skip ?_ | refine x_then ?_ | refine x_block ?_)
            exact ⟨_, rfl, h1, h19, h20, h21, h40, h41, h42, vb rfl (by rw [decide_eq_decide, sgnQ_neg]; exact ⟨fun g => ⟨hp, g⟩, fun g => g.2⟩), hS⟩
          · repeat (with_reducible first | refine c_seq ?_ | refine c_block ?_ | refine c_skip ?_ | refine x_then ?_ | refine x_block ?_)
            refine c_reg ?_
            refine l_pure rfl (s_fld  h8 fo_62_2 ?_)
            refine l_read rfl (s_ldo (k := 0)  rfl vi_4 hS rfl rfl rfl (.inr rfl) ?_)
            refine l_pure rfl (s_move  rfl ?_)
            refine l_no (gno_yes 58 (by kernel_rfl) rfl (show c.lim = false from Bool.eq_false_iff.2 hp)) ?_
            refine l_no (gno_yes 58 (by kernel_rfl) rfl (show c.lim = false from Bool.eq_false_iff.2 hp)) ?_
            refine l_no (gno_yes 58 (by kernel_rfl) rfl (show c.lim = false from Bool.eq_false_iff.2 hp)) ?_
            refine l_no (gno_yes 58 (by kernel_rfl) rfl (show c.lim = false from Bool.eq_false_iff.2 hp)) ?_
            refine l_pure rfl (s_pick (vb rfl (show c.lim = false from Bool.eq_false_iff.2 hp)) rfl ?_)
            refine l_nil ?_
            repeat (with_reducible first | refine c_seq ?_ | refine c_block ?_ | refine c_skip ?_ | refine x_then ?_ | refine x_block ?_)
            exact ⟨_, rfl, h1, h19, h20, h21, h40, h41, h42, vb rfl (decide_eq_false (fun g => hp g.1)).symm, hS⟩
        clear hS h1 h8 h19 h20 h21 h40 h41 h42 h55
        rintro ρ w6 ⟨h1, h19, h20, h21, h40, h41, h42, h63, hS⟩
        repeat (with_reducible first | refine c_seq ?_ | refine c_block ?_ | refine c_skip ?_ | refine x_then ?_ | refine x_block ?_)
        by_cases hlm : c.lim = true ∧ toQ c.limit < 0
        · refine c_yes h63 (decide_eq_true hlm) ?_
          repeat (with_reducible first | refine c_seq ?_ | refine c_block ?_ | refine c_skip ?_ | refine x_then ?_ | refine x_block ?_)
          have he1 : chErr m c = 7 := by unfold chErr; rw [if_neg hr, if_pos hlm]
          repeat (with_reducible first | refine c_seq ?_ | refine c_block ?_ | refine c_skip ?_ | refine x_then ?_ | refine x_block ?_)
          refine c_reg ?_
          refine l_pure rfl (s_asg  rfl ?_)
          refine l_nil ?_
          repeat (with_reducible first | refine c_seq ?_ | refine c_block ?_ | refine c_skip ?_ | refine x_then ?_ | refine x_block ?_)
          refine c_ret ?_
          repeat (with_reducible first | refine x_then_ret ?_ | refine x_block_ret ?_)
          refine r_one rfl rfl ?_
          exact ⟨vi rfl (by rw [f2 (by rw [e2 (by rw [he1]; decide), he1]; decide), e2 (by rw [he1]; decide), he1]), hS.below⟩
        refine c_no h63 (decide_eq_false hlm) ?_
        repeat (with_reducible first | refine c_seq ?_ | refine c_block ?_ | refine c_skip ?_ | refine x_then ?_ | refine x_block ?_)
        have he1 : chErr m c = 0 := by unfold chErr; rw [if_neg hr, if_neg hlm]
        repeat (with_reducible first | refine c_seq ?_ | refine c_block ?_ | refine c_skip ?_ | refine x_then ?_ | refine x_block ?_)
        refine c_reg ?_
        refine l_pure rfl (s_add  h42 rfl (IntWalk.i64_in _ (by omega)) ?_)
        refine l_pure rfl (s_move  rfl ?_)
        refine l_nil ?_
        repeat (with_reducible first | refine c_seq ?_ | refine c_block ?_ | refine c_skip ?_ | refine x_then ?_ | refine x_block ?_)
        exact ⟨k + 1, _, rfl, ⟨hk, e1 he1, h1, h19, h20, h21, h40, h41, vi rfl (by omega), hS.drop (List.nil_sublist _)⟩, by omega⟩
      · refine c_no rfl (decide_eq_false (by omega)) ?_
        repeat (with_reducible first | refine c_seq ?_ | refine c_block ?_ | refine c_skip ?_ | refine x_then ?_ | refine x_block ?_)
        refine c_exit ?_
        repeat (with_reducible first | refine x_then_exit ?_ | refine x_block_exit ?_ | refine x_block_pass rfl ?_)
        repeat (with_reducible first | refine c_seq ?_ | refine c_block ?_ | refine c_skip ?_ | refine x_then ?_ | refine x_block ?_)
        obtain rfl : k = x.charges.length := by omega
        rw [List.take_length] at hok
        exact ⟨_, rfl, hok, h1, h19, h20, h21, hS⟩
    clear hS h1 h6 h19 h20 h21 h38
    rintro ρ w7 ⟨hok2, h1, h19, h20, h21, hS⟩
    repeat (with_reducible first | refine c_seq ?_ | refine c_block ?_ | refine c_skip ?_ | refine x_then ?_ | refine x_block ?_)
    refine c_reg ?_
    refine l_pure rfl (s_add  h21 rfl (IntWalk.i64_in _ (by omega)) ?_)
    refine l_pure rfl (s_move  rfl ?_)
    refine l_nil ?_
    repeat (with_reducible first | refine c_seq ?_ | refine c_block ?_ | refine c_skip ?_ | refine x_then ?_ | refine x_block ?_)
    exact ⟨i + 1, _, rfl, ⟨hlt, f1 hok2, h1, h19, h20, vi rfl (by omega), hS⟩, by omega⟩
  · refine c_no rfl (decide_eq_false (by omega)) ?_
    repeat (with_reducible first | refine c_seq ?_ | refine c_block ?_ | refine c_skip ?_ | refine x_then ?_ | refine x_block ?_)
    refine c_exit ?_
    repeat (with_reducible first | refine x_then_exit ?_ | refine x_block_exit ?_ | refine x_block_pass rfl ?_)
    repeat (with_reducible first | refine c_seq ?_ | refine c_block ?_ | refine c_skip ?_ | refine x_then ?_ | refine x_block ?_)
    obtain rfl : i = X.length := by omega
    rw [List.take_length] at hok1
    repeat (with_reducible first | refine c_seq ?_ | refine c_block ?_ | refine c_skip ?_ | refine x_then ?_ | refine x_block ?_)
    refine c_reg ?_
    refine l_pure rfl (s_asg  rfl ?_)
    refine l_nil ?_
    repeat (with_reducible first | refine c_seq ?_ | refine c_block ?_ | refine c_skip ?_ | refine x_then ?_ | refine x_block ?_)
    refine c_ret ?_
    repeat (with_reducible first | refine x_then_ret ?_ | refine x_block_ret ?_)
    refine r_one rfl rfl ?_
    exact ⟨vi rfl hok1.symm, hS.below⟩
end Go.Proofs.YtmghobajmhdbfaaGreatDoor
namespace Go.Proofs.YtmghobajmhdbfaaGreatDoor
open Go Go.RowKit Go.Sx
theorem positive_ok (r : RR) (w : World) (hr : Lr r + 1 ≤ MX) :
    Ret Tryz.prog 37 #[aggR r] w fun v w' => v = aggR (ofQ (maxQ (toQ r) 0)) ∧ Below w.heap.size w w' := by
  have hz : toQ zRR = 0 := by rw [← toQ_ofQ 0, ofQ_zero]; rfl
  have hzl : Lr zRR = 1 := by decide
  have hS := St.init w
  refine enter Tryz.func37 rfl Tryz.ntmps37 rfl ?_
  repeat (with_reducible first | refine c_seq ?_ | refine c_block ?_ | refine c_skip ?_ | refine x_then ?_ | refine x_block ?_)
  refine c_reg ?_
  refine l_heavy rfl (s_box (new := encR r)  rfl rfl hS ?_)
  intro b1 wz2 hS hBz2
  refine l_heavy rfl (s_alloc  vi_36 hS ?_)
  intro b3 wz4 hS hBz4
  refine l_nil ?_
  repeat (with_reducible first | refine c_seq ?_ | refine c_block ?_ | refine c_skip ?_ | refine x_then ?_ | refine x_block ?_)
  refine c_reg ?_
  refine l_read rfl (s_ldo (k := 1)  rfl vi_36 hS rfl rfl rfl (.inl rfl) ?_)
  refine l_pure rfl (s_build  rfl bz_36 ?_)
  refine l_heavy rfl (s_call Tryz.call67 rfl (QMax_ok r zRR _ (by omega)) ?_)
  rintro _ wc5 ⟨rfl, hBc5⟩
  replace hS := hS.grow hBc5
  refine l_heavy rfl (s_sta (k := 0)  rfl rfl vi_36 hS rfl rfl rfl (Nat.le_of_ble_eq_true rfl) rfl ?_)
  intro wz6 hS
  refine l_nil ?_
  repeat (with_reducible first | refine c_seq ?_ | refine c_block ?_ | refine c_skip ?_ | refine x_then ?_ | refine x_block ?_)
  refine c_ret ?_
  repeat (with_reducible first | refine x_then_ret ?_ | refine x_block_ret ?_)
  refine r_cell (k := 0) rfl rfl vi_36 hS rfl rfl ?_
  rw [hz]
  exact ⟨rfl, hS.below⟩
theorem L_max (p q : Rat) : L (maxQ p q) ≤ max (L p) (L q) := by unfold maxQ; split <;> omega
theorem L_min (p q : Rat) : L (minQ p q) ≤ max (L p) (L q) := by unfold minQ; split <;> omega
theorem L_max0 (p : Rat) : L (maxQ p 0) ≤ L p := by
  have h1 := L_max p 0
  have h2 := L_pos p
  rw [L_zero] at h1
  omega
/-- The proceeds of an item. -/
def procQ (x : It) : Rat := maxQ (maxQ (toQ x.price) 0 - maxQ (toQ x.costs) 0) 0
theorem L_proc (x : It) : L (procQ x) ≤ Lr x.price + Lr x.costs + 1 := by
  unfold procQ
  have h1 := L_max0 (maxQ (toQ x.price) 0 - maxQ (toQ x.costs) 0)
  have h2 := L_sub (maxQ (toQ x.price) 0) (maxQ (toQ x.costs) 0)
  have h3 := L_max0 (toQ x.price)
  have h4 := L_max0 (toQ x.costs)
  have h5 := L_toQ x.price
  have h6 := L_toQ x.costs
  omega
theorem Proceeds_ok (x : It) (ca : Option Addr) (n cap : Nat) (w : World) (hr : Lr x.price + Lr x.costs + 2 ≤ MX) :
    Ret Tryz.prog 11 #[aggIt x (.slice ca n cap)] w fun v w' => v = aggR (ofQ (procQ x)) ∧ Below w.heap.size w w' := by
  have h1 := L_max0 (toQ x.price)
  have h2 := L_max0 (toQ x.costs)
  have h3 := L_toQ x.price
  have h4 := L_toQ x.costs
  have h5 := L_sub (maxQ (toQ x.price) 0) (maxQ (toQ x.costs) 0)
  have hS := St.init w
  refine enter Tryz.func11 rfl Tryz.ntmps11 rfl ?_
  repeat (with_reducible first | refine c_seq ?_ | refine c_block ?_ | refine c_skip ?_ | refine x_then ?_ | refine x_block ?_)
  refine c_reg ?_
  refine l_heavy rfl (s_box (new := encIt (x, .slice ca n cap))  rfl rfl hS ?_)
  intro b1 wz2 hS hBz2
  refine l_heavy rfl (s_alloc  vi_36 hS ?_)
  intro b3 wz4 hS hBz4
  refine l_nil ?_
  repeat (with_reducible first | refine c_seq ?_ | refine c_block ?_ | refine c_skip ?_ | refine x_then ?_ | refine x_block ?_)
  refine c_draw [(0, .pure), (1, .read), (3, .pure), (4, .read), (2, .grow), (5, .grow), (6, .grow), (7, .grow), (8, .free)] (by kernel_rfl) (by kernel_rfl) hS ?_
  intro wz5 hS hBz5
  refine w_pure rfl rfl (s_fld  rfl fo_41_0 ?_)
  refine w_read rfl rfl (s_ldo (k := 1)  rfl vi_36 hS rfl rfl rfl (.inl rfl) ?_)
  refine w_pure rfl rfl (s_fld  rfl fo_41_1 ?_)
  refine w_read rfl rfl (s_ldo (k := 1)  rfl vi_36 hS rfl rfl rfl (.inl rfl) ?_)
  refine w_grow rfl rfl (s_call Tryz.call37 rfl (positive_ok x.price _ (by omega)) ?_)
  rintro _ wc6 ⟨rfl, hBc6⟩
  replace hS := hS.grow hBc6
  refine ⟨hBc6, ?_⟩
  refine w_grow rfl rfl (s_call Tryz.call37 rfl (positive_ok x.costs _ (by omega)) ?_)
  rintro _ wc7 ⟨rfl, hBc7⟩
  replace hS := hS.grow hBc7
  refine ⟨hBc7, ?_⟩
  refine w_grow rfl rfl (s_call Tryz.call29 rfl (QSubtract_ok (ofQ (maxQ (toQ x.price) 0)) (ofQ (maxQ (toQ x.costs) 0)) _ (by rw [Lr_ofQ, Lr_ofQ]; omega)) ?_)
  rintro _ wc8 ⟨rfl, hBc8⟩
  replace hS := hS.grow hBc8
  refine ⟨hBc8, ?_⟩
  rw [toQ_ofQ, toQ_ofQ]
  refine w_grow rfl rfl (s_call Tryz.call37 rfl (positive_ok (ofQ (maxQ (toQ x.price) 0 - maxQ (toQ x.costs) 0)) _ (by rw [Lr_ofQ]; omega)) ?_)
  rintro _ wc9 ⟨rfl, hBc9⟩
  replace hS := hS.grow hBc9
  refine ⟨hBc9, ?_⟩
  refine w_free rfl rfl (s_sta (k := 0)  rfl rfl vi_36 hS rfl rfl rfl (Nat.le_of_ble_eq_true rfl) rfl ?_)
  intro wz10 hS
  refine w_end ?_
  repeat (with_reducible first | refine c_seq ?_ | refine c_block ?_ | refine c_skip ?_ | refine x_then ?_ | refine x_block ?_)
  refine c_ret ?_
  repeat (with_reducible first | refine x_then_ret ?_ | refine x_block_ret ?_)
  refine r_cell (k := 0) rfl rfl vi_36 hS rfl rfl ?_
  rw [toQ_ofQ]
  exact ⟨rfl, hS.below⟩
/-- Has a claim a charge on an item? -/
def secures (x : It) (c : Int) : Bool := x.charges.any fun k => decide (k.claim = c)
theorem secures_take (l : List Ch) (c : Int) {i : Nat} (hi : i < l.length) (h : (l.take i).any (fun k => decide (k.claim = c)) = false) :
    ((l.getD i zCh).claim ≠ c → (l.take (i + 1)).any (fun k => decide (k.claim = c)) = false) ∧ ((l.getD i zCh).claim = c → l.any (fun k => decide (k.claim = c)) = true) := by
  have ht := take_succ' l i zCh hi
  constructor
  · intro h1
    rw [ht, List.any_append, h]
    simpa using h1
  · intro h1
    rw [List.any_eq_true]
    exact ⟨_, getD_mem l i zCh hi, decide_eq_true h1⟩
theorem Secures_ok (x : It) (cv : Value) (c : Int) (w : World) (hch : Sl encCh 6 w cv x.charges) :
    Ret Tryz.prog 13 #[aggIt x cv, .int .i64 c] w fun v w' => v = .bool (secures x c) ∧ Below w.heap.size w w' := by
  have hmc := hch.maxLen
  obtain ⟨ca, ccap, hcve, _⟩ := hch.form
  subst hcve
  have hS := St.init w
  refine enter Tryz.func13 rfl Tryz.ntmps13 rfl ?_
  repeat (with_reducible first | refine c_seq ?_ | refine c_block ?_ | refine c_skip ?_ | refine x_then ?_ | refine x_block ?_)
  refine c_reg ?_
  refine l_heavy rfl (s_box (new := encIt (x, .slice ca x.charges.length ccap))  rfl rfl hS ?_)
  intro b1 wz2 hS hBz2
  refine l_pure rfl (s_asg  rfl ?_)
  refine l_nil ?_
  repeat (with_reducible first | refine c_seq ?_ | refine c_block ?_ | refine c_skip ?_ | refine x_then ?_ | refine x_block ?_)
  refine c_reg ?_
  refine l_pure rfl (s_asg  rfl ?_)
  refine l_nil ?_
  repeat (with_reducible first | refine c_seq ?_ | refine c_block ?_ | refine c_skip ?_ | refine x_then ?_ | refine x_block ?_)
  refine c_loop (σ := Nat) (fun k ρ w' => k ≤ x.charges.length ∧ (x.charges.take k).any (fun k => decide (k.claim = c)) = false ∧ ρ 1 = .int .i64 c ∧ ρ 2 = .pointer (some ⟨b1, 0, none⟩) ∧ ρ 5 = .int .i64 k ∧ St w w' [(b1, 41, encIt (x, .slice ca x.charges.length ccap))]) (fun k => x.charges.length - k) 0
    ⟨Nat.zero_le _, rfl, rfl, rfl, rfl, hS⟩ ?_
  clear hS
  rintro k ρ w2 ⟨hk1, hok, h1, h2, h5, hS⟩
  repeat (with_reducible first | refine c_seq ?_ | refine c_block ?_ | refine c_skip ?_ | refine x_then ?_ | refine x_block ?_)
  refine c_reg ?_
  refine l_pure rfl (s_move  h5 ?_)
  refine l_pure rfl (s_fld  h2 fo_41_2 ?_)
  refine l_read rfl (s_ldo (k := 0)  rfl vi_39 hS rfl rfl rfl (.inr rfl) ?_)
  refine l_pure rfl (s_lenr  rfl (hch.below hS.below) ⟨_, Tryz.underlying39⟩ ?_)
  refine l_pure rfl (s_lss  rfl rfl ?_)
  refine l_nil ?_
  repeat (with_reducible first | refine c_seq ?_ | refine c_block ?_ | refine c_skip ?_ | refine x_then ?_ | refine x_block ?_)
  by_cases hk : k < x.charges.length
  · refine c_yes rfl (decide_eq_true (by omega)) ?_
    repeat (with_reducible first | refine c_seq ?_ | refine c_block ?_ | refine c_skip ?_ | refine x_then ?_ | refine x_block ?_)
    obtain ⟨e1, e2⟩ := secures_take x.charges c hk hok
    repeat (with_reducible first | refine c_seq ?_ | refine c_block ?_ | refine c_skip ?_ | refine x_then ?_ | refine x_block ?_)
    refine c_reg ?_
    refine l_pure rfl (s_fld  h2 fo_41_2 ?_)
    refine l_read rfl (s_ldo (k := 0)  rfl vi_39 hS rfl rfl rfl (.inr rfl) ?_)
    refine l_pure rfl (s_move  h5 ?_)
    refine l_pure rfl (s_ixr (i := k)  rfl rfl (hch.below hS.below) (by omega) (by first | omega | (simp; done) | (simp; omega)) si_39 ?_)
    refine l_pure rfl (s_fldr  rfl (spot_el (hch.below hS.below) (fun _ => rfl) (by decide) (by first | omega | (simp; done) | (simp; omega))) fo_62_0 ?_)
    refine l_read rfl (s_ldfe (i := k) (off := 0) zCh  rfl vi_3 (hch.below hS.below) (fun _ => rfl) (by decide) (by first | omega | (simp; done) | (simp; omega)) rfl rfl (.inr rfl) ?_)
    refine l_pure rfl (s_move  h1 ?_)
    refine l_pure rfl (s_eql  rfl rfl ?_)
    refine l_nil ?_
    repeat (with_reducible first | refine c_seq ?_ | refine c_block ?_ | refine c_skip ?_ | refine x_then ?_ | refine x_block ?_)
    by_cases he : (x.charges.getD k zCh).claim = c
    · refine c_yes rfl (decide_eq_true he) ?_
      repeat (with_reducible first | refine c_seq ?_ | refine c_block ?_ | refine c_skip ?_ | refine x_then ?_ | refine x_block ?_)
      refine c_reg ?_
      refine l_pure rfl (s_asg  rfl ?_)
      refine l_nil ?_
      repeat (with_reducible first | refine c_seq ?_ | refine c_block ?_ | refine c_skip ?_ | refine x_then ?_ | refine x_block ?_)
      refine c_ret ?_
      repeat (with_reducible first | refine x_then_ret ?_ | refine x_block_ret ?_)
      refine r_one rfl rfl ?_
      exact ⟨congrArg Value.bool (e2 he).symm, hS.below⟩
    · refine c_no rfl (decide_eq_false he) ?_
      repeat (with_reducible first | refine c_seq ?_ | refine c_block ?_ | refine c_skip ?_ | refine x_then ?_ | refine x_block ?_)
      refine c_reg ?_
      refine l_pure rfl (s_move  h5 ?_)
      refine l_pure rfl (s_add  rfl rfl (IntWalk.i64_in _ (by omega)) ?_)
      refine l_pure rfl (s_asg  rfl ?_)
      refine l_nil ?_
      repeat (with_reducible first | refine c_seq ?_ | refine c_block ?_ | refine c_skip ?_ | refine x_then ?_ | refine x_block ?_)
      exact ⟨k + 1, _, rfl, ⟨hk, e1 he, h1, h2, vi rfl (by omega), hS⟩, by omega⟩
  · refine c_no rfl (decide_eq_false (by omega)) ?_
    repeat (with_reducible first | refine c_seq ?_ | refine c_block ?_ | refine c_skip ?_ | refine x_then ?_ | refine x_block ?_)
    refine c_exit ?_
    repeat (with_reducible first | refine x_then_exit ?_ | refine x_block_exit ?_ | refine x_block_pass rfl ?_)
    repeat (with_reducible first | refine c_seq ?_ | refine c_block ?_ | refine c_skip ?_ | refine x_then ?_ | refine x_block ?_)
    obtain rfl : k = x.charges.length := by omega
    rw [List.take_length] at hok
    repeat (with_reducible first | refine c_seq ?_ | refine c_block ?_ | refine c_skip ?_ | refine x_then ?_ | refine x_block ?_)
    refine c_reg ?_
    refine l_pure rfl (s_asg  rfl ?_)
    refine l_nil ?_
    repeat (with_reducible first | refine c_seq ?_ | refine c_block ?_ | refine c_skip ?_ | refine x_then ?_ | refine x_block ?_)
    refine c_ret ?_
    repeat (with_reducible first | refine x_then_ret ?_ | refine x_block_ret ?_)
    refine r_one rfl rfl ?_
    exact ⟨congrArg Value.bool hok.symm, hS.below⟩
end Go.Proofs.YtmghobajmhdbfaaGreatDoor
namespace Go.Proofs.YtmghobajmhdbfaaGreatDoor
open Go Go.RowKit Go.Sx
def sumIf (n : Nat) (p : Nat → Bool) (f : Nat → Rat) : Rat :=
  match n with
  | 0 => 0
  | n + 1 => sumIf n p f + (if p n = true then f n else 0)
theorem sumIf_congr {n : Nat} {p q : Nat → Bool} {f g : Nat → Rat} (h : ∀ i, i < n → p i = q i ∧ f i = g i) : sumIf n p f = sumIf n q g := by
  induction n with
  | zero => rfl
  | succ n ih =>
    rw [sumIf, sumIf, ih (fun i hi => h i (by omega)), (h n (by omega)).1, (h n (by omega)).2]
theorem sumIf_none (n : Nat) (f : Nat → Rat) : sumIf n (fun _ => false) f = 0 := by
  induction n with
  | zero => rfl
  | succ n ih => rw [sumIf, ih]; simp [Rat.add_zero]
theorem L_sumIf (n : Nat) (p : Nat → Bool) (f : Nat → Rat) (K : Nat) (h : ∀ i, i < n → L (f i) ≤ K) : L (sumIf n p f) ≤ n * (K + 1) + 1 := by
  induction n with
  | zero => rw [sumIf, L_zero]; omega
  | succ n ih =>
    have h1 := ih (fun i hi => h i (by omega))
    have h2 := h n (by omega)
    rw [sumIf, Nat.add_mul]
    split
    · have := L_add (sumIf n p f) (f n); omega
    · rw [Rat.add_zero]; omega
/-- One more member of the set. -/
theorem sumIf_add {n : Nat} {p q : Nat → Bool} {f : Nat → Rat} {j : Nat} (hj : j < n) (hp : p j = false) (hq : q j = true) (h : ∀ i, i < n → i ≠ j → p i = q i) : sumIf n q f = sumIf n p f + f j := by
  induction n with
  | zero => omega
  | succ n ih =>
    rw [sumIf, sumIf]
    by_cases hjn : j = n
    · subst hjn
      rw [sumIf_congr (p := q) (q := p) (g := f) (fun i hi => ⟨(h i (by omega) (by omega)).symm, rfl⟩), hp, hq]
      simp [Rat.add_zero]
    · rw [ih (by omega) (fun i hi hne => h i (by omega) hne), h n (by omega) (fun e => hjn e.symm)]
      grind
def mins (f : Nat → Rat) : Nat → Rat
  | 0 => f 0
  | k + 1 => minQ (mins f k) (f k)
theorem L_mins (f : Nat → Rat) (K N : Nat) (h : ∀ i, i < N ∨ i = 0 → L (f i) ≤ K) : L (mins f N) ≤ K := by
  induction N with
  | zero => exact h 0 (.inr rfl)
  | succ N ih =>
    have h1 := ih (fun i hi => h i (by omega))
    have h2 := h N (.inl (by omega))
    have := L_min (mins f N) (f N)
    rw [mins]; omega
/-- Does a claim have a charge on an item outside of the cut? -/
def outs (X : List It) (cut c : Nat) : Bool := (List.range X.length).any fun i => !cut.testBit i && secures (X.getD i zIt) c
def prF (X : List It) (i : Nat) : Rat := procQ (X.getD i zIt)
def owF (owed : List RR) (c : Nat) : Rat := toQ (owed.getD c zRR)
def capF (X : List It) (owed : List RR) (set : Nat → Bool) (cut : Nat) : Rat :=
  sumIf X.length (fun i => cut.testBit i) (prF X) + sumIf owed.length (fun c => set c && outs X cut c) (owF owed)
def capQ (X : List It) (owed : List RR) (set : Nat → Bool) : Rat := mins (capF X owed set) (2 ^ X.length)
def preQ (X : List It) (owed : List RR) (k : Nat) : Rat := if k = 0 then 0 else capQ X owed (fun i => decide (i < k))
theorem L_prF {X : List It} {K : Nat} (h : ItB K X) {i : Nat} (hi : i < X.length) : L (prF X i) ≤ 2 * K + 1 := by
  have h1 := h _ (getD_mem X i zIt hi)
  have h2 := L_proc (X.getD i zIt)
  unfold prF; omega
theorem L_owF {owed : List RR} {K : Nat} (h : RB K owed) {c : Nat} (hc : c < owed.length) : L (owF owed c) ≤ K :=
  Nat.le_trans (L_toQ _) (h _ (getD_mem owed c zRR hc))
theorem L_capF {X : List It} {owed : List RR} {K : Nat} (hX : ItB K X) (ho : RB K owed) (hx8 : X.length ≤ 8) (ho24 : owed.length ≤ 24) (set : Nat → Bool) (cut : Nat) : L (capF X owed set cut) ≤ 40 * K + 45 := by
  unfold capF
  have h1 := L_sumIf X.length (fun i => cut.testBit i) (prF X) (2 * K + 1) (fun i hi => L_prF hX hi)
  have h2 := L_sumIf owed.length (fun c => set c && outs X cut c) (owF owed) K (fun c hc => L_owF ho hc)
  have h3 := L_add (sumIf X.length (fun i => cut.testBit i) (prF X)) (sumIf owed.length (fun c => set c && outs X cut c) (owF owed))
  have h4 : X.length * (2 * K + 1 + 1) ≤ 8 * (2 * K + 1 + 1) := Nat.mul_le_mul_right _ hx8
  have h5 : owed.length * (K + 1) ≤ 24 * (K + 1) := Nat.mul_le_mul_right _ ho24
  omega
theorem L_capQ {X : List It} {owed : List RR} {K : Nat} (hX : ItB K X) (ho : RB K owed) (hx8 : X.length ≤ 8) (ho24 : owed.length ≤ 24) (set : Nat → Bool) : L (capQ X owed set) ≤ 40 * K + 45 :=
  L_mins _ _ _ (fun i _ => L_capF hX ho hx8 ho24 set i)
theorem L_preQ {X : List It} {owed : List RR} {K : Nat} (hX : ItB K X) (ho : RB K owed) (hx8 : X.length ≤ 8) (ho24 : owed.length ≤ 24) (k : Nat) : L (preQ X owed k) ≤ 40 * K + 45 := by
  unfold preQ
  split
  · rw [L_zero]; omega
  · exact L_capQ hX ho hx8 ho24 _
/-- The lowest bit that is set. -/
def low (x : Nat) : Nat := ((List.range 8).find? fun i => x.testBit i).getD 0
theorem low_fin : ∀ x : Fin 256, x.val ≠ 0 → low x.val < 8 ∧ x.val.testBit (low x.val) = true ∧ (x.val &&& (x.val - 1)) < x.val ∧ ∀ i : Fin 8, (x.val &&& (x.val - 1)).testBit i.val = (x.val.testBit i.val && decide (i.val ≠ low x.val)) := by decide +kernel
theorem low_spec {x n : Nat} (hx : x ≠ 0) (hn : n ≤ 8) (h : x < 2 ^ n) : low x < n ∧ x.testBit (low x) = true ∧ (x &&& (x - 1)) < x ∧ (∀ i, i < n → (x &&& (x - 1)).testBit i = (x.testBit i && decide (i ≠ low x))) := by
  have h8 : x < 256 := Nat.lt_of_lt_of_le h (show 2 ^ n ≤ 2 ^ 8 from Nat.pow_le_pow_right (by decide) hn)
  obtain ⟨a, b, c, d⟩ := low_fin ⟨x, h8⟩ hx
  refine ⟨?_, b, c, fun i hi => d ⟨i, by omega⟩⟩
  rcases Nat.lt_or_ge (low x) n with g | g
  · exact g
  · exfalso
    have : x.testBit (low x) = false := Nat.testBit_lt_two_pow (Nat.lt_of_lt_of_le h (Nat.pow_le_pow_right (by decide) g))
    rw [this] at b; cases b
/-- What a cut pays: by its lowest item. -/
theorem cut_step (f : Nat → Rat) {n x : Nat} (hx : x ≠ 0) (hn : n ≤ 8) (h : x < 2 ^ n) : sumIf n (fun i => x.testBit i) f = sumIf n (fun i => (x &&& (x - 1)).testBit i) f + f (low x) := by
  obtain ⟨a, b, _, d⟩ := low_spec hx hn h
  refine sumIf_add a ?_ b (fun i hi hne => ?_)
  · rw [d _ a]; simp
  · rw [d i hi]; simp [hne]
end Go.Proofs.YtmghobajmhdbfaaGreatDoor
namespace Go.Proofs.YtmghobajmhdbfaaGreatDoor
open Go Go.RowKit Go.Sx
def tzTab : List Nat := [0, 1, 56, 2, 57, 49, 28, 3, 61, 58, 42, 50, 38, 29, 17, 4, 62, 47, 59, 36, 45, 43, 51, 22, 53, 39, 33, 30, 24, 18, 12, 5, 63, 55, 48, 27, 60, 41, 37, 16, 46, 35, 44, 21, 52, 32, 23, 11, 54, 26, 40, 15, 34, 20, 31, 10, 25, 14, 19, 9, 13, 8, 7, 6]
theorem tz_fin : ∀ x : Fin 256, x.val ≠ 0 → ((x.val &&& (18446744073709551616 - x.val)) * 285870213051353865) % 18446744073709551616 / 2 ^ 58 < 64 ∧
    tzTab.getD (((x.val &&& (18446744073709551616 - x.val)) * 285870213051353865) % 18446744073709551616 / 2 ^ 58) 0 = low x.val ∧ (x.val &&& (18446744073709551616 - x.val)) ≤ 128 := by decide +kernel
section
variable {P : Program} {N : Nat} {ρ : Nat → Value} {w : World}
  {d : Option Tmp} {ty : TypeId} {pos : String} {aft : Array Edge} {g : Option (Nat × Bool)} {x y : Operand} {t e : TypeId} {K : Value → Prop}
/-- A place in an array that is a variable of the program's. -/
theorem s_ixg {b n i sz : Nat} {zz : List Value} {kk : IntKind} {m : Int} (hx : ev N ρ x = .pointer (some ⟨b, 0, none⟩)) (hy : ev N ρ y = .int kk m) (hm : m = (i : Int)) (hi : i < n)
    (ht : P.underlying t = some (.array n e)) (he : vinfo P e = some (sz, false, zz)) (h : K (.pointer (some ⟨b, i * sz, none⟩))) :
    Pure1 P N ρ ⟨d, .indexAddr t x y, ty, pos, aft, g⟩ K := by
  obtain ⟨ii, dd, zv, hi1, hu, _, hsz, _⟩ := vinfo_parts he
  subst hm hsz
  refine ⟨_, fun w => ?_, h⟩
  simp [execOp, hx, hy, Instr.indexAt, asIntOf, run_underlying ht, hi, sizeOf, typeInfo, hi1, add_lit, Instr.sureAddr]
end
theorem TrailingZeros64_ok (x : Nat) (w : World) (h0 : x ≠ 0) (h8 : x < 256) (hT : At w ⟨2, 0, none⟩ (Kr .u8 tzTab)) :
    Ret Tryz.prog 97 #[.int .u64 x] w fun v w' => v = .int .i64 (low x) ∧ w' = w := by
  obtain ⟨a, b, c⟩ := tz_fin ⟨x, h8⟩ h0
  simp only at a b c
  obtain ⟨y, hy⟩ : ∃ y, y = x &&& (18446744073709551616 - x) := ⟨_, rfl⟩
  rw [← hy] at a b c
  obtain ⟨i, hi⟩ : ∃ i, i = y * 285870213051353865 % 18446744073709551616 / 2 ^ 58 := ⟨_, rfl⟩
  rw [← hi] at a b
  have hl : low x < 8 := (low_fin ⟨x, h8⟩ h0).1
  have hge : (Kr .u8 tzTab)[i]? = some (.int .u8 (low x : Nat)) := by rw [Kr_get _ _ (by show i < 64; exact a), b]
  have hcell := hT i _ hge
  rw [add_lit, Nat.zero_add] at hcell
  refine enter Tryz.func97 rfl Tryz.ntmps97 rfl ?_
  repeat (with_reducible first | refine c_seq ?_ | refine c_block ?_ | refine c_skip ?_ | refine x_then ?_ | refine x_block ?_)
  refine c_reg ?_
  refine l_pure rfl (s_asg  rfl ?_)
  refine l_nil ?_
  repeat (with_reducible first | refine c_seq ?_ | refine c_block ?_ | refine c_skip ?_ | refine x_then ?_ | refine x_block ?_)
  refine c_reg ?_
  refine l_pure rfl (s_move  rfl ?_)
  refine l_pure rfl (s_eql  rfl rfl ?_)
  refine l_nil ?_
  repeat (with_reducible first | refine c_seq ?_ | refine c_block ?_ | refine c_skip ?_ | refine x_then ?_ | refine x_block ?_)
  refine c_no rfl (decide_eq_false (by omega)) ?_
  repeat (with_reducible first | refine c_seq ?_ | refine c_block ?_ | refine c_skip ?_ | refine x_then ?_ | refine x_block ?_)
  refine c_reg ?_
  refine l_pure rfl (s_move  rfl ?_)
  refine l_pure rfl (s_move  rfl ?_)
  refine l_pure rfl (s_neg  rfl (r := ((18446744073709551616 - x : Nat) : Int)) (by rw [wrapm_u64]; omega) ?_)
  refine l_pure rfl (s_and  rfl rfl (r := ((y : Nat) : Int)) (by rw [hy]; exact and_nat rfl _ _ (by show x < 18446744073709551616; omega) (by show _ < 18446744073709551616; omega)) ?_)
  refine l_pure rfl (s_mul  rfl rfl (r := ((y * 285870213051353865 % 18446744073709551616 : Nat) : Int)) (by rw [wrapm_u64]; omega) ?_)
  refine l_pure rfl (s_shr  rfl rfl (by omega) (r := ((i : Nat) : Int)) (by rw [hi]; exact shr_v _ 58 (by decide)) ?_)
  refine l_pure rfl (s_ixg (n := 64) (i := i) rfl rfl rfl a Tryz.underlying138 vi_5 ?_)
  refine l_read rfl (s_ld (v := .int .u8 (low x : Nat))  rfl vi_5 (At.one (by rw [Nat.mul_one]; exact hcell)) rfl rfl (.inr rfl) ?_)
  refine l_pure rfl (s_conv  rfl Tryz.underlying3 ⟨_, Tryz.underlying5⟩ (r := ((low x : Nat) : Int)) (by exact wr_i64 _ ⟨rfl, by omega, by omega⟩) ?_)
  refine l_pure rfl (s_asg  rfl ?_)
  refine l_nil ?_
  repeat (with_reducible first | refine c_seq ?_ | refine c_block ?_ | refine c_skip ?_ | refine x_then ?_ | refine x_block ?_)
  refine c_ret ?_
  repeat (with_reducible first | refine x_then_ret ?_ | refine x_block_ret ?_)
  refine r_one rfl rfl ?_
  exact ⟨rfl, rfl⟩
theorem TrailingZeros_ok (x : Nat) (w : World) (h0 : x ≠ 0) (h8 : x < 256) (hT : At w ⟨2, 0, none⟩ (Kr .u8 tzTab)) :
    Ret Tryz.prog 69 #[.int .u64 x] w fun v w' => v = .int .i64 (low x) ∧ w' = w := by
  refine enter Tryz.func69 rfl Tryz.ntmps69 rfl ?_
  repeat (with_reducible first | refine c_seq ?_ | refine c_block ?_ | refine c_skip ?_ | refine x_then ?_ | refine x_block ?_)
  refine c_reg ?_
  refine l_pure rfl (s_asg  rfl ?_)
  refine l_nil ?_
  repeat (with_reducible first | refine c_seq ?_ | refine c_block ?_ | refine c_skip ?_ | refine x_then ?_ | refine x_block ?_)
  refine c_no rfl (rfl) ?_
  repeat (with_reducible first | refine c_seq ?_ | refine c_block ?_ | refine c_skip ?_ | refine x_then ?_ | refine x_block ?_)
  refine c_reg ?_
  refine l_pure rfl (s_move  rfl ?_)
  refine l_heavy rfl (s_call Tryz.call97 rfl (TrailingZeros64_ok x w h0 h8 hT) ?_)
  rintro v w' ⟨rfl, rfl⟩
  refine l_pure rfl (s_asg  rfl ?_)
  refine l_nil ?_
  repeat (with_reducible first | refine c_seq ?_ | refine c_block ?_ | refine c_skip ?_ | refine x_then ?_ | refine x_block ?_)
  refine c_ret ?_
  repeat (with_reducible first | refine x_then_ret ?_ | refine x_block_ret ?_)
  refine r_one rfl rfl ?_
  exact ⟨rfl, rfl⟩
end Go.Proofs.YtmghobajmhdbfaaGreatDoor
