/-
  Part 4 of the texts that the laws' proofs share: the framework and the walks.
-/
import Derived.Test.YtmapmdldlcfjhaaGreatDoorPart3
namespace Go.Proofs.YtmapmdldlcfjhaaGreatDoor
open Go Go.RowKit Go.Sx

theorem rNormalize_ok (s : ByteArray) (w : World) (hs : s.size ≤ 9223372036854775807) :
    Ret Tryz.prog 120 #[.string s] w fun v w' => v = .string (natS (val s)) ∧ w' = w := by
  refine enter Tryz.func120 rfl Tryz.ntmps120 rfl ?_
  repeat (with_reducible first | refine c_seq ?_ | refine c_block ?_ | refine c_skip ?_ | refine x_then ?_ | refine x_block ?_)
  refine c_reg ?_
  refine l_pure rfl (s_asg  rfl ?_)
  refine l_nil ?_
  repeat (with_reducible first | refine c_seq ?_ | refine c_block ?_ | refine c_skip ?_ | refine x_then ?_ | refine x_block ?_)
  refine c_reg ?_
  refine l_pure rfl (s_asg  rfl ?_)
  refine l_nil ?_
  repeat (with_reducible first | refine c_seq ?_ | refine c_block ?_ | refine c_skip ?_ | refine x_then ?_ | refine x_block ?_)
  refine c_loop (σ := Nat) (fun k ρ w' => k ≤ s.size ∧ (∀ i (_ : i < k) (h : i < s.size), s[i] = 0) ∧ ρ 0 = .string s ∧ ρ 3 = .int .i64 k ∧ w' = w) (fun k => s.size - k) 0
    ⟨by omega, fun i h => by omega, rfl, rfl, rfl⟩ ?_
  rintro k ρ w' ⟨hk, hz, h0, h3, rfl⟩
  by_cases hlt : k < s.size
  · repeat (with_reducible first | refine c_seq ?_ | refine c_block ?_ | refine c_skip ?_ | refine x_then ?_ | refine x_block ?_)
    refine c_reg ?_
    refine l_pure rfl (s_move  h3 ?_)
    refine l_pure rfl (s_move  h0 ?_)
    refine l_pure rfl (s_lens  rfl Tryz.underlying9 ?_)
    refine l_pure rfl (s_lss  rfl rfl ?_)
    refine l_pure rfl (s_move  rfl ?_)
    refine l_pure (gd_yes 8 (by kernel_rfl) rfl (decide_eq_true (by omega))) (s_move  h0 ?_)
    refine l_pure (gd_yes 8 (by kernel_rfl) rfl (decide_eq_true (by omega))) (s_move  h3 ?_)
    refine l_pure (gd_yes 8 (by kernel_rfl) rfl (decide_eq_true (by omega))) (s_ixs (i := k)  rfl rfl (by omega) (by omega) Tryz.underlying9 ?_)
    refine l_pure (gd_yes 8 (by kernel_rfl) rfl (decide_eq_true (by omega))) (s_eql  rfl rfl ?_)
    refine l_pure rfl (s_pick (vb rfl (decide_eq_true (by omega))) rfl ?_)
    refine l_nil ?_
    repeat (with_reducible first | refine c_seq ?_ | refine c_block ?_ | refine c_skip ?_ | refine x_then ?_ | refine x_block ?_)
    by_cases h : s[k] = 0
    · refine c_yes rfl (decide_eq_true (by rw [h]; rfl)) ?_
      repeat (with_reducible first | refine c_seq ?_ | refine c_block ?_ | refine c_skip ?_ | refine x_then ?_ | refine x_block ?_)
      refine c_reg ?_
      refine l_pure rfl (s_move  h3 ?_)
      refine l_pure rfl (s_add  rfl rfl (IntWalk.i64_in _ (by omega)) ?_)
      refine l_pure rfl (s_asg  rfl ?_)
      refine l_nil ?_
      repeat (with_reducible first | refine c_seq ?_ | refine c_block ?_ | refine c_skip ?_ | refine x_then ?_ | refine x_block ?_)
      refine ⟨k + 1, _, rfl, ⟨by omega, fun i hi hi' => ?_, h0, vi rfl (by omega), rfl⟩, by omega⟩
      rcases Nat.lt_or_ge i k with h2 | h2
      · exact hz i h2 hi'
      · obtain rfl : i = k := by omega
        exact h
    · refine c_no rfl (decide_eq_false (fun g => h (UInt8.toNat_inj.1 (by simp at g; exact g)))) ?_
      repeat (with_reducible first | refine c_seq ?_ | refine c_block ?_ | refine c_skip ?_ | refine x_then ?_ | refine x_block ?_)
      refine c_exit ?_
      repeat (with_reducible first | refine x_then_exit ?_ | refine x_block_exit ?_ | refine x_block_pass rfl ?_)
      repeat (with_reducible first | refine c_seq ?_ | refine c_block ?_ | refine c_skip ?_ | refine x_then ?_ | refine x_block ?_)
      refine c_reg ?_
      refine l_pure rfl (s_move  h0 ?_)
      refine l_pure rfl (s_move  h3 ?_)
      refine l_pure rfl (s_slcsl (lo := k)  rfl rfl rfl (by omega) Tryz.underlying9 ?_)
      refine l_pure rfl (s_asg  rfl ?_)
      refine l_nil ?_
      repeat (with_reducible first | refine c_seq ?_ | refine c_block ?_ | refine c_skip ?_ | refine x_then ?_ | refine x_block ?_)
      refine c_ret ?_
      repeat (with_reducible first | refine x_then_ret ?_ | refine x_block_ret ?_)
      refine r_one rfl rfl ?_
      exact ⟨congrArg Value.string (zdrop_val s k hk hz (.inr ⟨hlt, h⟩)), rfl⟩
  · repeat (with_reducible first | refine c_seq ?_ | refine c_block ?_ | refine c_skip ?_ | refine x_then ?_ | refine x_block ?_)
    refine c_reg ?_
    refine l_pure rfl (s_move  h3 ?_)
    refine l_pure rfl (s_move  h0 ?_)
    refine l_pure rfl (s_lens  rfl Tryz.underlying9 ?_)
    refine l_pure rfl (s_lss  rfl rfl ?_)
    refine l_pure rfl (s_move  rfl ?_)
    refine l_no (gno_yes 8 (by kernel_rfl) rfl (decide_eq_false (by omega))) ?_
    refine l_no (gno_yes 8 (by kernel_rfl) rfl (decide_eq_false (by omega))) ?_
    refine l_no (gno_yes 8 (by kernel_rfl) rfl (decide_eq_false (by omega))) ?_
    refine l_no (gno_yes 8 (by kernel_rfl) rfl (decide_eq_false (by omega))) ?_
    refine l_pure rfl (s_pick (vb rfl (decide_eq_false (by omega))) rfl ?_)
    refine l_nil ?_
    repeat (with_reducible first | refine c_seq ?_ | refine c_block ?_ | refine c_skip ?_ | refine x_then ?_ | refine x_block ?_)
    refine c_no rfl (rfl) ?_
    repeat (with_reducible first | refine c_seq ?_ | refine c_block ?_ | refine c_skip ?_ | refine x_then ?_ | refine x_block ?_)
    refine c_exit ?_
    repeat (with_reducible first | refine x_then_exit ?_ | refine x_block_exit ?_ | refine x_block_pass rfl ?_)
    repeat (with_reducible first | refine c_seq ?_ | refine c_block ?_ | refine c_skip ?_ | refine x_then ?_ | refine x_block ?_)
    refine c_reg ?_
    refine l_pure rfl (s_move  h0 ?_)
    refine l_pure rfl (s_move  h3 ?_)
    refine l_pure rfl (s_slcsl (lo := k)  rfl rfl rfl (by omega) Tryz.underlying9 ?_)
    refine l_pure rfl (s_asg  rfl ?_)
    refine l_nil ?_
    repeat (with_reducible first | refine c_seq ?_ | refine c_block ?_ | refine c_skip ?_ | refine x_then ?_ | refine x_block ?_)
    refine c_ret ?_
    repeat (with_reducible first | refine x_then_ret ?_ | refine x_block_ret ?_)
    refine r_one rfl rfl ?_
    exact ⟨congrArg Value.string (zdrop_val s k hk hz (.inl (by omega))), rfl⟩

/-- A number's limbs, by the length of its string. -/
theorem limb_len_natS (V : Nat) : (limb V).length = ((natS V).size + 3) / 4 := by
  obtain ⟨k, hk⟩ : ∃ k, k = (natS V).size := ⟨_, rfl⟩
  rw [← hk]
  rcases Nat.eq_zero_or_pos V with h0 | h0
  · subst h0
    rw [natS_size, digs_zero] at hk
    unfold limb
    rw [digs_zero, hk]; rfl
  · have h1 : V < 256 ^ k := by rw [hk]; exact lt_natS_size V
    have h2 : 256 ^ (k - 1) ≤ V := by
      refine pow_le_of_digs_length (by decide) ?_
      rw [← natS_size, ← hk]
      have : 1 ≤ k := by rw [hk]; exact natS_size_pos h0
      omega
    have h3 : (limb V).length ≤ (k + 3) / 4 := by
      refine limb_len_le (Nat.lt_of_lt_of_le h1 ?_)
      rw [show B32 = 256 ^ 4 from rfl, ← Nat.pow_mul]
      exact Nat.pow_le_pow_right (by decide) (by omega)
    have h4 : (k + 3) / 4 ≤ (limb V).length := by
      rcases Nat.lt_or_ge (limb V).length ((k + 3) / 4) with h | h
      · exfalso
        have h5 := limb_lt_pow V
        have h6 : B32 ^ (limb V).length ≤ 256 ^ (k - 1) := by
          rw [show B32 = 256 ^ 4 from rfl, ← Nat.pow_mul]
          exact Nat.pow_le_pow_right (by decide) (by omega)
        omega
      · exact h
    omega
theorem pad_limb (V : Nat) : pad B32 V (limb V).length = limb V := by
  have h := digs_of_take (b := B32) (by decide) (pad B32 V (limb V).length) (limb V).length (pad_lt (by decide) _ _) (by simp) (fun i h1 h2 => by simp at h2; omega) ?_
  · rw [ofDigs_pad_lt (limb_lt_pow V), List.take_of_length_le (by simp)] at h
    exact h
  · rcases Nat.eq_zero_or_pos (limb V).length with h0 | h0
    · exact .inl h0
    · right
      rw [pad_getD _ _ (by omega)]
      have hV : 0 < V := by
        rcases Nat.eq_zero_or_pos V with g | g
        · rw [g] at h0; unfold limb at h0; rw [digs_zero] at h0; exact absurd h0 (by simp)
        · exact g
      have := (top_pos hV).2
      omega

theorem rlimbs_ok (s : ByteArray) (w : World) (hs : s.size ≤ 70368744177664) :
    Ret Tryz.prog 92 #[.string s] w fun r w' => Sl (uk .u32) 1 w' r (limb (val s)) ∧ Below w.heap.size w w' := by
  have hS := St.init w
  have hsz := natS_val_size_le s
  refine enter Tryz.func92 rfl Tryz.ntmps92 rfl ?_
  repeat (with_reducible first | refine c_seq ?_ | refine c_block ?_ | refine c_skip ?_ | refine x_then ?_ | refine x_block ?_)
  refine c_reg ?_
  refine l_pure rfl (s_asg  rfl ?_)
  refine l_nil ?_
  repeat (with_reducible first | refine c_seq ?_ | refine c_block ?_ | refine c_skip ?_ | refine x_then ?_ | refine x_block ?_)
  refine c_reg ?_
  refine l_pure rfl (s_move  rfl ?_)
  refine l_heavy rfl (s_call Tryz.call120 rfl (rNormalize_ok _ _ (by omega)) ?_)
  rintro _ wq1 ⟨rfl, hq1⟩
  replace hq1 := hq1.symm
  subst hq1
  refine l_pure rfl (s_asg  rfl ?_)
  refine l_nil ?_
  repeat (with_reducible first | refine c_seq ?_ | refine c_block ?_ | refine c_skip ?_ | refine x_then ?_ | refine x_block ?_)
  obtain ⟨V, hV⟩ : ∃ V, V = val s := ⟨_, rfl⟩
  rw [← hV]
  rw [← hV] at hsz
  obtain ⟨S, hSe⟩ : ∃ S, S = natS V := ⟨_, rfl⟩
  have hvS : val S = V := by rw [hSe, val_natS]
  have hlen := limb_len_natS V
  rw [← hSe] at hlen hsz
  rw [← hSe]
  repeat (with_reducible first | refine c_seq ?_ | refine c_block ?_ | refine c_skip ?_ | refine x_then ?_ | refine x_block ?_)
  refine c_reg ?_
  refine l_pure rfl (s_move  rfl ?_)
  refine l_pure rfl (s_lens  rfl Tryz.underlying9 ?_)
  refine l_pure rfl (s_add  rfl rfl (IntWalk.i64_in _ (by omega)) ?_)
  refine l_pure rfl (s_quo  rfl rfl (by omega) (r := (((S.size + 3) / 4 : Nat) : Int)) (by exact IntWalk.i64_quo _ _ (by omega)) ?_)
  refine l_heavy rfl (s_makek (n := (S.size + 3) / 4)  rfl rfl si_93 (by omega) (by omega) (by omega) (by omega) hS ?_)
  intro b2 wz3 hS hBz3
  refine l_pure rfl (s_asg  rfl ?_)
  refine l_nil ?_
  repeat (with_reducible first | refine c_seq ?_ | refine c_block ?_ | refine c_skip ?_ | refine x_then ?_ | refine x_block ?_)
  refine c_reg ?_
  refine l_pure rfl (s_asg  rfl ?_)
  refine l_nil ?_
  repeat (with_reducible first | refine c_seq ?_ | refine c_block ?_ | refine c_skip ?_ | refine x_then ?_ | refine x_block ?_)
  obtain ⟨n, hn⟩ : ∃ n, n = (S.size + 3) / 4 := ⟨_, rfl⟩
  rw [← hn, ← pad_zero B32 n, show 0 = V % 256 ^ 0 by rw [Nat.pow_zero, Nat.mod_one]] at hS
  refine c_loop (σ := Nat) (fun i ρ w' => i ≤ S.size ∧ ρ 0 = .string S ∧ ρ 3 = .slice (some ⟨b2, 0, none⟩) n n ∧ ρ 4 = .int .i64 i ∧ St w w' [(b2, 99, Kr .u32 (pad B32 (V % 256 ^ i) n))]) (fun i => S.size - i) 0
    ⟨Nat.zero_le _, rfl, by rw [hn]; rfl, rfl, hS⟩ ?_
  clear hS
  rintro i ρ w2 ⟨hi, h0, h3, h4, hS⟩
  repeat (with_reducible first | refine c_seq ?_ | refine c_block ?_ | refine c_skip ?_ | refine x_then ?_ | refine x_block ?_)
  refine c_reg ?_
  refine l_pure rfl (s_move  h4 ?_)
  refine l_pure rfl (s_move  h0 ?_)
  refine l_pure rfl (s_lens  rfl Tryz.underlying9 ?_)
  refine l_pure rfl (s_lss  rfl rfl ?_)
  refine l_nil ?_
  repeat (with_reducible first | refine c_seq ?_ | refine c_block ?_ | refine c_skip ?_ | refine x_then ?_ | refine x_block ?_)
  by_cases hlt : i < S.size
  · refine c_yes rfl (decide_eq_true (by omega)) ?_
    repeat (with_reducible first | refine c_seq ?_ | refine c_block ?_ | refine c_skip ?_ | refine x_then ?_ | refine x_block ?_)
    have hb := sbytes_rget S i hlt
    rw [hvS] at hb
    have hl := dgt_lt (b := B32) (by decide) (V % 256 ^ i) (i / 4)
    have hd := dgt_lt (b := 256) (by decide) V i
    have hg : (pad B32 (V % 256 ^ i) n).getD (i / 4) 0 = dgt B32 (V % 256 ^ i) (i / 4) := pad_getD _ _ (by omega)
    have hp : 2 ^ (8 * (i % 4)) ≤ 2 ^ 24 := Nat.pow_le_pow_right (by decide) (by omega)
    have hq : dgt 256 V i * 2 ^ (8 * (i % 4)) < 4294967296 := Nat.lt_of_le_of_lt (Nat.mul_le_mul (Nat.le_of_lt_succ hd) hp) (by decide)
    repeat (with_reducible first | refine c_seq ?_ | refine c_block ?_ | refine c_skip ?_ | refine x_then ?_ | refine x_block ?_)
    refine c_draw [(0, .pure), (1, .pure), (2, .pure), (3, .pure), (4, .pure), (5, .pure), (6, .pure), (7, .read), (8, .pure), (9, .pure), (10, .pure), (11, .pure), (12, .pure), (13, .pure), (14, .pure), (15, .pure), (16, .pure), (17, .pure), (18, .pure), (19, .pure), (20, .pure), (21, .pure), (22, .pure), (23, .free)] (by kernel_rfl) (by kernel_rfl) hS ?_
    intro wz4 hS hBz4
    refine w_pure rfl rfl (s_move  h3 ?_)
    refine w_pure rfl rfl (s_move  h4 ?_)
    refine w_pure rfl rfl (s_quo  rfl rfl (by omega) (r := ((i / 4 : Nat) : Int)) (by exact IntWalk.i64_quo _ _ (by omega)) ?_)
    refine w_pure rfl rfl (s_move  h3 ?_)
    refine w_pure rfl rfl (s_move  h4 ?_)
    refine w_pure rfl rfl (s_quo  rfl rfl (by omega) (r := ((i / 4 : Nat) : Int)) (by exact IntWalk.i64_quo _ _ (by omega)) ?_)
    refine w_pure rfl rfl (s_ixo (i := i / 4)  rfl rfl (by omega) (by first | omega | (simp; done) | (simp; omega)) si_93 ?_)
    refine w_read rfl rfl (s_ldk (k := 0) (i := i / 4)  rfl vi_99 hS rfl (by omega) (by first | omega | (simp; done) | (simp; omega)) ?_)
    refine w_pure rfl rfl (s_move  h0 ?_)
    refine w_pure rfl rfl (s_move  h0 ?_)
    refine w_pure rfl rfl (s_lens  rfl Tryz.underlying9 ?_)
    refine w_pure rfl rfl (s_sub  rfl rfl (IntWalk.i64_in _ (by omega)) ?_)
    refine w_pure rfl rfl (s_move  h4 ?_)
    refine w_pure rfl rfl (s_sub  rfl rfl (IntWalk.i64_in _ (by omega)) ?_)
    refine w_pure rfl rfl (s_ixs (i := S.size - 1 - i)  rfl rfl (by omega) (by omega) Tryz.underlying9 ?_)
    refine w_pure rfl rfl (s_conv  rfl Tryz.underlying99 ⟨_, Tryz.underlying5⟩ (r := ((dgt 256 V i : Nat) : Int)) (by rw [hb]; exact IntWalk.u32_in _ (by omega)) ?_)
    refine w_pure rfl rfl (s_move  h4 ?_)
    refine w_pure rfl rfl (s_rem  rfl rfl (by omega) (r := ((i % 4 : Nat) : Int)) (by rfl) ?_)
    refine w_pure rfl rfl (s_mul  rfl rfl (r := ((8 * (i % 4) : Nat) : Int)) (by exact wr_i64 _ (by omega)) ?_)
    refine w_pure rfl rfl (s_conv  rfl Tryz.underlying102 ⟨_, Tryz.underlying3⟩ (r := ((8 * (i % 4) : Nat) : Int)) (by exact IntWalk.u64_in _ (by omega)) ?_)
    refine w_pure rfl rfl (s_shl  rfl rfl (by omega) (shl_v _ _ _ (show _ ≤ 32 by omega) (wr_u32 _ ⟨rfl, by omega, by omega⟩)) ?_)
    refine w_pure rfl rfl (s_or  rfl rfl (or_nat rfl _ _ (by rw [hg]; exact hl) hq) ?_)
    refine w_pure rfl rfl (s_ixo (i := i / 4)  rfl rfl (by omega) (by first | omega | (simp; done) | (simp; omega)) si_93 ?_)
    refine w_free rfl rfl (s_stk (k := 0) (i := i / 4) (a := _)  rfl rfl rfl vi_99 hS rfl (by omega) (by first | omega | (simp; done) | (simp; omega)) ?_)
    intro wz5 hS
    refine w_end ?_
    repeat (with_reducible first | refine c_seq ?_ | refine c_block ?_ | refine c_skip ?_ | refine x_then ?_ | refine x_block ?_)
    rw [hg, pad_byte] at hS
    repeat (with_reducible first | refine c_seq ?_ | refine c_block ?_ | refine c_skip ?_ | refine x_then ?_ | refine x_block ?_)
    refine c_reg ?_
    refine l_pure rfl (s_move  h4 ?_)
    refine l_pure rfl (s_add  rfl rfl (IntWalk.i64_in _ (by omega)) ?_)
    refine l_pure rfl (s_asg  rfl ?_)
    refine l_nil ?_
    repeat (with_reducible first | refine c_seq ?_ | refine c_block ?_ | refine c_skip ?_ | refine x_then ?_ | refine x_block ?_)
    exact ⟨i + 1, _, rfl, ⟨hlt, h0, h3, vi rfl (by omega), hS⟩, by omega⟩
  · refine c_no rfl (decide_eq_false (by omega)) ?_
    repeat (with_reducible first | refine c_seq ?_ | refine c_block ?_ | refine c_skip ?_ | refine x_then ?_ | refine x_block ?_)
    refine c_exit ?_
    repeat (with_reducible first | refine x_then_exit ?_ | refine x_block_exit ?_ | refine x_block_pass rfl ?_)
    repeat (with_reducible first | refine c_seq ?_ | refine c_block ?_ | refine c_skip ?_ | refine x_then ?_ | refine x_block ?_)
    obtain rfl : i = S.size := by omega
    have hval : V < 256 ^ S.size := by rw [← hvS]; exact val_lt S
    rw [Nat.mod_eq_of_lt hval, show n = (limb V).length by omega, pad_limb] at hS
    have hsl := hS.slk (k := 0) rfl (n := n) (cap := n) (by omega) (Nat.le_refl _) (by omega)
    rw [List.take_of_length_le (by omega)] at hsl
    repeat (with_reducible first | refine c_seq ?_ | refine c_block ?_ | refine c_skip ?_ | refine x_then ?_ | refine x_block ?_)
    refine c_reg ?_
    refine l_pure rfl (s_move  h3 ?_)
    refine l_pure rfl (s_asg  rfl ?_)
    refine l_nil ?_
    repeat (with_reducible first | refine c_seq ?_ | refine c_block ?_ | refine c_skip ?_ | refine x_then ?_ | refine x_block ?_)
    refine c_ret ?_
    repeat (with_reducible first | refine x_then_ret ?_ | refine x_block_ret ?_)
    refine r_one rfl rfl ?_
    exact ⟨hsl, hS.below⟩

theorem rstrip_ok (v : Value) (L : List Nat) (w : World) (hv : Sl (uk .u32) 1 w v L) (hL : ∀ d ∈ L, d < B32) :
    Ret Tryz.prog 122 #[v] w fun r w' => Sl (uk .u32) 1 w' r (limb (ofDigs B32 L)) ∧ w' = w := by
  have hmax := hv.maxLen
  refine enter Tryz.func122 rfl Tryz.ntmps122 rfl ?_
  repeat (with_reducible first | refine c_seq ?_ | refine c_block ?_ | refine c_skip ?_ | refine x_then ?_ | refine x_block ?_)
  refine c_reg ?_
  refine l_pure rfl (s_asg  rfl ?_)
  refine l_nil ?_
  repeat (with_reducible first | refine c_seq ?_ | refine c_block ?_ | refine c_skip ?_ | refine x_then ?_ | refine x_block ?_)
  refine c_reg ?_
  refine l_pure rfl (s_move  rfl ?_)
  refine l_pure rfl (s_lenr  rfl hv ⟨_, Tryz.underlying93⟩ ?_)
  refine l_pure rfl (s_asg  rfl ?_)
  refine l_nil ?_
  repeat (with_reducible first | refine c_seq ?_ | refine c_block ?_ | refine c_skip ?_ | refine x_then ?_ | refine x_block ?_)
  refine c_loop (σ := Nat) (fun n ρ w' => n ≤ L.length ∧ (∀ i, n ≤ i → i < L.length → L.getD i 0 = 0) ∧ ρ 0 = v ∧ ρ 3 = .int .i64 n ∧ w' = w) (fun n => n) L.length
    ⟨Nat.le_refl _, fun i h1 h2 => by omega, rfl, rfl, rfl⟩ ?_
  rintro n ρ w' ⟨hn, hz, h0, h3, rfl⟩
  have hdone : (n = 0 ∨ L.getD (n - 1) 0 ≠ 0) → L.take n = limb (ofDigs B32 L) := fun h => digs_of_take (b := B32) (by decide) L n hL hn hz h
  by_cases hpos : 0 < n
  · by_cases hl : L.getD (n - 1) 0 = 0
    · repeat (with_reducible first | refine c_seq ?_ | refine c_block ?_ | refine c_skip ?_ | refine x_then ?_ | refine x_block ?_)
      refine c_reg ?_
      refine l_pure rfl (s_move  h3 ?_)
      refine l_pure rfl (s_gtr  rfl rfl ?_)
      refine l_pure rfl (s_move  rfl ?_)
      refine l_pure (gd_yes 8 (by kernel_rfl) rfl (decide_eq_true (by omega))) (s_move  h0 ?_)
      refine l_pure (gd_yes 8 (by kernel_rfl) rfl (decide_eq_true (by omega))) (s_move  h3 ?_)
      refine l_pure (gd_yes 8 (by kernel_rfl) rfl (decide_eq_true (by omega))) (s_sub  rfl rfl (IntWalk.i64_in _ (by omega)) ?_)
      refine l_pure (gd_yes 8 (by kernel_rfl) rfl (decide_eq_true (by omega))) (s_ixr (i := n - 1)  rfl rfl hv (by omega) (by first | omega | (simp; done) | (simp; omega)) si_93 ?_)
      refine l_read (gd_yes 8 (by kernel_rfl) rfl (decide_eq_true (by omega))) (s_lde (i := n - 1) 0  rfl vi_99 hv (by first | omega | (simp; done) | (simp; omega)) rfl rfl (.inr rfl) ?_)
      refine l_pure (gd_yes 8 (by kernel_rfl) rfl (decide_eq_true (by omega))) (s_eql  rfl rfl ?_)
      refine l_pure rfl (s_pick (vb rfl (decide_eq_true (by omega))) rfl ?_)
      refine l_nil ?_
      repeat (with_reducible first | refine c_seq ?_ | refine c_block ?_ | refine c_skip ?_ | refine x_then ?_ | refine x_block ?_)
      refine c_yes rfl (decide_eq_true (by omega)) ?_
      repeat (with_reducible first | refine c_seq ?_ | refine c_block ?_ | refine c_skip ?_ | refine x_then ?_ | refine x_block ?_)
      refine c_reg ?_
      refine l_pure rfl (s_move  h3 ?_)
      refine l_pure rfl (s_sub  rfl rfl (IntWalk.i64_in _ (by omega)) ?_)
      refine l_pure rfl (s_asg  rfl ?_)
      refine l_nil ?_
      repeat (with_reducible first | refine c_seq ?_ | refine c_block ?_ | refine c_skip ?_ | refine x_then ?_ | refine x_block ?_)
      refine ⟨n - 1, _, rfl, ⟨by omega, fun i h1 h2 => ?_, h0, vi rfl (by omega), rfl⟩, by omega⟩
      rcases Nat.lt_or_ge i n with h4 | h4
      · rw [show i = n - 1 by omega]; exact hl
      · exact hz i h4 h2
    · repeat (with_reducible first | refine c_seq ?_ | refine c_block ?_ | refine c_skip ?_ | refine x_then ?_ | refine x_block ?_)
      refine c_reg ?_
      refine l_pure rfl (s_move  h3 ?_)
      refine l_pure rfl (s_gtr  rfl rfl ?_)
      refine l_pure rfl (s_move  rfl ?_)
      refine l_pure (gd_yes 8 (by kernel_rfl) rfl (decide_eq_true (by omega))) (s_move  h0 ?_)
      refine l_pure (gd_yes 8 (by kernel_rfl) rfl (decide_eq_true (by omega))) (s_move  h3 ?_)
      refine l_pure (gd_yes 8 (by kernel_rfl) rfl (decide_eq_true (by omega))) (s_sub  rfl rfl (IntWalk.i64_in _ (by omega)) ?_)
      refine l_pure (gd_yes 8 (by kernel_rfl) rfl (decide_eq_true (by omega))) (s_ixr (i := n - 1)  rfl rfl hv (by omega) (by first | omega | (simp; done) | (simp; omega)) si_93 ?_)
      refine l_read (gd_yes 8 (by kernel_rfl) rfl (decide_eq_true (by omega))) (s_lde (i := n - 1) 0  rfl vi_99 hv (by first | omega | (simp; done) | (simp; omega)) rfl rfl (.inr rfl) ?_)
      refine l_pure (gd_yes 8 (by kernel_rfl) rfl (decide_eq_true (by omega))) (s_eql  rfl rfl ?_)
      refine l_pure rfl (s_pick (vb rfl (decide_eq_true (by omega))) rfl ?_)
      refine l_nil ?_
      repeat (with_reducible first | refine c_seq ?_ | refine c_block ?_ | refine c_skip ?_ | refine x_then ?_ | refine x_block ?_)
      refine c_no rfl (decide_eq_false (by omega)) ?_
      repeat (with_reducible first | refine c_seq ?_ | refine c_block ?_ | refine c_skip ?_ | refine x_then ?_ | refine x_block ?_)
      refine c_exit ?_
      repeat (with_reducible first | refine x_then_exit ?_ | refine x_block_exit ?_ | refine x_block_pass rfl ?_)
      repeat (with_reducible first | refine c_seq ?_ | refine c_block ?_ | refine c_skip ?_ | refine x_then ?_ | refine x_block ?_)
      refine c_reg ?_
      refine l_pure rfl (s_move  h0 ?_)
      refine l_pure rfl (s_move  h3 ?_)
      refine l_pure rfl (s_subrh (hi := n)  rfl rfl hv rfl hn si_93 ?_)
      refine l_pure rfl (s_asg  rfl ?_)
      refine l_nil ?_
      repeat (with_reducible first | refine c_seq ?_ | refine c_block ?_ | refine c_skip ?_ | refine x_then ?_ | refine x_block ?_)
      refine c_ret ?_
      repeat (with_reducible first | refine x_then_ret ?_ | refine x_block_ret ?_)
      refine r_one rfl rfl ?_
      refine ⟨?_, rfl⟩
      rw [← hdone (.inr hl)]
      exact hv.sub (uk_len _) (by decide) (Nat.zero_le n) hn
  · repeat (with_reducible first | refine c_seq ?_ | refine c_block ?_ | refine c_skip ?_ | refine x_then ?_ | refine x_block ?_)
    refine c_reg ?_
    refine l_pure rfl (s_move  h3 ?_)
    refine l_pure rfl (s_gtr  rfl rfl ?_)
    refine l_pure rfl (s_move  rfl ?_)
    refine l_no (gno_yes 8 (by kernel_rfl) rfl (decide_eq_false (by omega))) ?_
    refine l_no (gno_yes 8 (by kernel_rfl) rfl (decide_eq_false (by omega))) ?_
    refine l_no (gno_yes 8 (by kernel_rfl) rfl (decide_eq_false (by omega))) ?_
    refine l_no (gno_yes 8 (by kernel_rfl) rfl (decide_eq_false (by omega))) ?_
    refine l_no (gno_yes 8 (by kernel_rfl) rfl (decide_eq_false (by omega))) ?_
    refine l_no (gno_yes 8 (by kernel_rfl) rfl (decide_eq_false (by omega))) ?_
    refine l_pure rfl (s_pick (vb rfl (decide_eq_false (by omega))) rfl ?_)
    refine l_nil ?_
    repeat (with_reducible first | refine c_seq ?_ | refine c_block ?_ | refine c_skip ?_ | refine x_then ?_ | refine x_block ?_)
    refine c_no rfl (rfl) ?_
    repeat (with_reducible first | refine c_seq ?_ | refine c_block ?_ | refine c_skip ?_ | refine x_then ?_ | refine x_block ?_)
    refine c_exit ?_
    repeat (with_reducible first | refine x_then_exit ?_ | refine x_block_exit ?_ | refine x_block_pass rfl ?_)
    repeat (with_reducible first | refine c_seq ?_ | refine c_block ?_ | refine c_skip ?_ | refine x_then ?_ | refine x_block ?_)
    refine c_reg ?_
    refine l_pure rfl (s_move  h0 ?_)
    refine l_pure rfl (s_move  h3 ?_)
    refine l_pure rfl (s_subrh (hi := n)  rfl rfl hv rfl hn si_93 ?_)
    refine l_pure rfl (s_asg  rfl ?_)
    refine l_nil ?_
    repeat (with_reducible first | refine c_seq ?_ | refine c_block ?_ | refine c_skip ?_ | refine x_then ?_ | refine x_block ?_)
    refine c_ret ?_
    repeat (with_reducible first | refine x_then_ret ?_ | refine x_block_ret ?_)
    refine r_one rfl rfl ?_
    refine ⟨?_, rfl⟩
    rw [← hdone (.inl (by omega))]
    exact hv.sub (uk_len _) (by decide) (Nat.zero_le n) hn

theorem four_bytes (V k q x : Nat) (hk : 0 < k) (hx : x = dgt B32 V (k - 1)) :
    (pad 256 (V / B32 ^ (k - 1)) (q + 4)).reverse = (pad 256 (V / B32 ^ k) q).reverse ++ [x / 16777216 % 256, x / 65536 % 256, x / 256 % 256, x % 256] := by
  have h := div_step B32 V (k - 1)
  rw [show k - 1 + 1 = k by omega, ← hx] at h
  have hlt : x < B32 := by rw [hx]; exact dgt_lt (by decide) _ _
  rw [h]
  generalize V / B32 ^ k = U
  have hB : B32 = 4294967296 := rfl
  rw [show q + 4 = q + 1 + 1 + 1 + 1 from rfl, pad_succ, pad_succ, pad_succ, pad_succ]
  simp only [List.reverse_cons, List.append_assoc, List.cons_append, List.nil_append]
  rw [hB] at hlt ⊢
  have e1 : (4294967296 * U + x) / 256 / 256 / 256 / 256 = U := by omega
  have e2 : (4294967296 * U + x) / 256 / 256 / 256 % 256 = x / 16777216 % 256 := by omega
  have e3 : (4294967296 * U + x) / 256 / 256 % 256 = x / 65536 % 256 := by omega
  have e4 : (4294967296 * U + x) / 256 % 256 = x / 256 % 256 := by omega
  have e5 : (4294967296 * U + x) % 256 = x % 256 := by omega
  rw [e1, e2, e3, e4, e5]

theorem rtext_ok (v : Value) (L : List Nat) (w : World) (hv : Sl (uk .u32) 1 w v L) (hL : ∀ d ∈ L, d < B32) (hs : L.length ≤ 17592186044416) :
    Ret Tryz.prog 99 #[v] w fun r w' => r = .string (natS (ofDigs B32 L)) ∧ Below w.heap.size w w' := by
  have hS := St.init w
  obtain ⟨V, hV⟩ : ∃ V, V = ofDigs B32 L := ⟨_, rfl⟩
  refine enter Tryz.func99 rfl Tryz.ntmps99 rfl ?_
  repeat (with_reducible first | refine c_seq ?_ | refine c_block ?_ | refine c_skip ?_ | refine x_then ?_ | refine x_block ?_)
  refine c_reg ?_
  refine l_pure rfl (s_asg  rfl ?_)
  refine l_nil ?_
  repeat (with_reducible first | refine c_seq ?_ | refine c_block ?_ | refine c_skip ?_ | refine x_then ?_ | refine x_block ?_)
  refine c_reg ?_
  refine l_pure rfl (s_move  rfl ?_)
  refine l_heavy rfl (s_call Tryz.call122 rfl (rstrip_ok v L _ hv hL) ?_)
  rintro _ wq1 ⟨hl, hq1⟩
  replace hq1 := hq1.symm
  subst hq1
  refine l_pure rfl (s_asg  rfl ?_)
  refine l_nil ?_
  repeat (with_reducible first | refine c_seq ?_ | refine c_block ?_ | refine c_skip ?_ | refine x_then ?_ | refine x_block ?_)
  rename_i vl
  rw [← hV] at hl ⊢
  obtain ⟨m, hm⟩ : ∃ m, m = (limb V).length := ⟨_, rfl⟩
  have hVm : V < B32 ^ m := by rw [hm]; exact limb_lt_pow V
  have hmL : m ≤ L.length := by
    rw [hm]; refine limb_len_le ?_
    rw [hV]; exact ofDigs_lt L hL
  repeat (with_reducible first | refine c_seq ?_ | refine c_block ?_ | refine c_skip ?_ | refine x_then ?_ | refine x_block ?_)
  refine c_reg ?_
  refine l_pure rfl (s_move  rfl ?_)
  refine l_pure rfl (s_lenr  rfl hl ⟨_, Tryz.underlying93⟩ ?_)
  refine l_pure rfl (s_mul  rfl rfl (IntWalk.i64_in _ (by omega)) ?_)
  refine l_heavy rfl (s_make0l (enc := uk .u8) (n := 4 * m)  rfl rfl si_60 (by omega) (by omega) (by omega) (by omega) hS ?_)
  intro va2 La2 wa2 hG hS hBa2
  refine l_pure rfl (s_asg  rfl ?_)
  refine l_nil ?_
  repeat (with_reducible first | refine c_seq ?_ | refine c_block ?_ | refine c_skip ?_ | refine x_then ?_ | refine x_block ?_)
  refine c_reg ?_
  refine l_pure rfl (s_move  rfl ?_)
  refine l_pure rfl (s_lenr  rfl (hl.below hS.below) ⟨_, Tryz.underlying93⟩ ?_)
  refine l_pure rfl (s_sub  rfl rfl (IntWalk.i64_in _ (by omega)) ?_)
  refine l_pure rfl (s_asg  rfl ?_)
  refine l_nil ?_
  repeat (with_reducible first | refine c_seq ?_ | refine c_block ?_ | refine c_skip ?_ | refine x_then ?_ | refine x_block ?_)
  refine c_loop (σ := Nat) (fun k ρ w' => k ≤ m ∧ ρ 0 = vl ∧ ρ 4 = .int .i64 ((k : Int) - 1) ∧ ∃ vb Lb, ρ 3 = vb ∧ Gl (uk .u8) 5 1 vb ((pad 256 (V / B32 ^ k) (4 * (m - k))).reverse) Lb ∧ St w w' ([] ++ Lb)) (fun k => k) m
    ⟨Nat.le_refl _, rfl, vi rfl (by omega), ⟨_, _, rfl, by rw [Nat.sub_self]; exact hG, hS⟩⟩ ?_
  clear hS
  rintro k ρ w3 ⟨hk, h0, h4, vb, Lb, h3, hG, hS⟩
  repeat (with_reducible first | refine c_seq ?_ | refine c_block ?_ | refine c_skip ?_ | refine x_then ?_ | refine x_block ?_)
  refine c_reg ?_
  refine l_pure rfl (s_move  h4 ?_)
  refine l_pure rfl (s_geq  rfl rfl ?_)
  refine l_nil ?_
  repeat (with_reducible first | refine c_seq ?_ | refine c_block ?_ | refine c_skip ?_ | refine x_then ?_ | refine x_block ?_)
  have hlenG : ((pad 256 (V / B32 ^ k) (4 * (m - k))).reverse).length = 4 * (m - k) := by simp
  by_cases hk0 : 0 < k
  · refine c_yes rfl (decide_eq_true (by omega)) ?_
    repeat (with_reducible first | refine c_seq ?_ | refine c_block ?_ | refine c_skip ?_ | refine x_then ?_ | refine x_block ?_)
    refine c_reg ?_
    refine l_pure rfl (s_move  h0 ?_)
    refine l_pure rfl (s_move  h4 ?_)
    refine l_pure rfl (s_ixr (i := k - 1)  rfl rfl (hl.below hS.below) (by omega) (by first | omega | (simp; done) | (simp; omega)) si_93 ?_)
    refine l_read rfl (s_lde (i := k - 1) 0  rfl vi_99 (hl.below hS.below) (by first | omega | (simp; done) | (simp; omega)) rfl rfl (.inr rfl) ?_)
    refine l_pure rfl (s_asg  rfl ?_)
    refine l_nil ?_
    repeat (with_reducible first | refine c_seq ?_ | refine c_block ?_ | refine c_skip ?_ | refine x_then ?_ | refine x_block ?_)
    have hx := limb_getD V (k - 1)
    have hxl := limb_le V (k - 1)
    rw [hx]
    obtain ⟨x, hxe⟩ : ∃ x, x = dgt B32 V (k - 1) := ⟨_, rfl⟩
    rw [← hxe] at hxl ⊢
    have h4b := four_bytes V k (4 * (m - k)) x hk0 hxe
    repeat (with_reducible first | refine c_seq ?_ | refine c_block ?_ | refine c_skip ?_ | refine x_then ?_ | refine x_block ?_)
    refine c_reg ?_
    refine l_pure rfl (s_move  h3 ?_)
    refine l_pure rfl (s_move  rfl ?_)
    refine l_pure rfl (s_shr  rfl rfl (by omega) (r := ((x / 16777216 : Nat) : Int)) (by exact shr_v (k := .u32) x 24 (by decide)) ?_)
    refine l_pure rfl (s_conv  rfl Tryz.underlying5 ⟨_, Tryz.underlying99⟩ (u8_mod _) ?_)
    refine l_pure rfl (s_move  rfl ?_)
    refine l_pure rfl (s_shr  rfl rfl (by omega) (r := ((x / 65536 : Nat) : Int)) (by exact shr_v (k := .u32) x 16 (by decide)) ?_)
    refine l_pure rfl (s_conv  rfl Tryz.underlying5 ⟨_, Tryz.underlying99⟩ (u8_mod _) ?_)
    refine l_pure rfl (s_move  rfl ?_)
    refine l_pure rfl (s_shr  rfl rfl (by omega) (r := ((x / 256 : Nat) : Int)) (by exact shr_v (k := .u32) x 8 (by decide)) ?_)
    refine l_pure rfl (s_conv  rfl Tryz.underlying5 ⟨_, Tryz.underlying99⟩ (u8_mod _) ?_)
    refine l_pure rfl (s_move  rfl ?_)
    refine l_pure rfl (s_conv  rfl Tryz.underlying5 ⟨_, Tryz.underlying99⟩ (u8_mod _) ?_)
    refine l_heavy rfl (s_bsl (vs := [_, _, _, _])  rfl si_60 rfl (by decide) (by decide) (by decide) (by simp [Value.cells]) rfl hS ?_)
    intro b3 wz4 hS hBz4
    refine l_heavy rfl (s_appl [x / 16777216 % 256, x / 65536 % 256, x / 256 % 256, x % 256]  rfl rfl si_60 (by decide) hG hS rfl rfl (uk_len _) (uk_one _ [x / 16777216 % 256, x / 65536 % 256, x / 256 % 256, x % 256]) (by first | omega | (simp only [List.length_cons, List.length_nil]; omega)) (by first | omega | (simp only [List.length_cons, List.length_nil]; omega)) ?_)
    intro va5 La5 wa5 hG hS hga5
    refine l_pure rfl (s_asg  rfl ?_)
    refine l_nil ?_
    repeat (with_reducible first | refine c_seq ?_ | refine c_block ?_ | refine c_skip ?_ | refine x_then ?_ | refine x_block ?_)
    rw [← h4b, show 4 * (m - k) + 4 = 4 * (m - (k - 1)) by omega] at hG
    repeat (with_reducible first | refine c_seq ?_ | refine c_block ?_ | refine c_skip ?_ | refine x_then ?_ | refine x_block ?_)
    refine c_reg ?_
    refine l_pure rfl (s_move  h4 ?_)
    refine l_pure rfl (s_sub  rfl rfl (IntWalk.i64_in _ (by omega)) ?_)
    refine l_pure rfl (s_asg  rfl ?_)
    refine l_nil ?_
    repeat (with_reducible first | refine c_seq ?_ | refine c_block ?_ | refine c_skip ?_ | refine x_then ?_ | refine x_block ?_)
    exact ⟨k - 1, _, rfl, ⟨by omega, h0, vi rfl (by omega), ⟨_, _, rfl, hG, hS⟩⟩, by omega⟩
  · refine c_no rfl (decide_eq_false (by omega)) ?_
    repeat (with_reducible first | refine c_seq ?_ | refine c_block ?_ | refine c_skip ?_ | refine x_then ?_ | refine x_block ?_)
    refine c_exit ?_
    repeat (with_reducible first | refine x_then_exit ?_ | refine x_block_exit ?_ | refine x_block_pass rfl ?_)
    repeat (with_reducible first | refine c_seq ?_ | refine c_block ?_ | refine c_skip ?_ | refine x_then ?_ | refine x_block ?_)
    obtain rfl : k = 0 := by omega
    rw [Nat.pow_zero, Nat.div_one, Nat.sub_zero] at hG
    have hVlt : V < 256 ^ (4 * m) := by rw [Nat.pow_mul]; exact hVm
    have hsz : (bstr (pad 256 V (4 * m)).reverse).size ≤ 9223372036854775807 := by rw [bstr_size]; simp; omega
    repeat (with_reducible first | refine c_seq ?_ | refine c_block ?_ | refine c_skip ?_ | refine x_then ?_ | refine x_block ?_)
    refine c_reg ?_
    refine l_pure rfl (s_move  h3 ?_)
    refine l_read rfl (s_b2sg  rfl ⟨Tryz.underlying60, Tryz.underlying5, Tryz.underlying9⟩ hG hS ?_)
    refine l_heavy rfl (s_call Tryz.call120 rfl (rNormalize_ok _ _ hsz) ?_)
    rintro _ wq6 ⟨rfl, hq6⟩
    replace hq6 := hq6.symm
    subst hq6
    refine l_pure rfl (s_asg  rfl ?_)
    refine l_nil ?_
    repeat (with_reducible first | refine c_seq ?_ | refine c_block ?_ | refine c_skip ?_ | refine x_then ?_ | refine x_block ?_)
    refine c_ret ?_
    repeat (with_reducible first | refine x_then_ret ?_ | refine x_block_ret ?_)
    refine r_one rfl rfl ?_
    rw [val_rpad, Nat.mod_eq_of_lt hVlt]
    exact ⟨rfl, hS.below⟩

theorem rFromUint_ok (u : Nat) (w : World) (hu : u < 18446744073709551616) :
    Ret Tryz.prog 64 #[.int .u64 u] w fun r w' => r = .string (natS u) ∧ Below w.heap.size w w' := by
  have hS := St.init w
  refine enter Tryz.func64 rfl Tryz.ntmps64 rfl ?_
  repeat (with_reducible first | refine c_seq ?_ | refine c_block ?_ | refine c_skip ?_ | refine x_then ?_ | refine x_block ?_)
  refine c_reg ?_
  refine l_pure rfl (s_asg  rfl ?_)
  refine l_nil ?_
  repeat (with_reducible first | refine c_seq ?_ | refine c_block ?_ | refine c_skip ?_ | refine x_then ?_ | refine x_block ?_)
  refine c_reg ?_
  refine l_pure rfl (s_move  rfl ?_)
  refine l_pure rfl (s_conv  rfl Tryz.underlying99 ⟨_, Tryz.underlying76⟩ (u32_mod _) ?_)
  refine l_pure rfl (s_move  rfl ?_)
  refine l_pure rfl (s_shr  rfl rfl (by omega) (r := ((u / 4294967296 : Nat) : Int)) (by exact shr_v _ 32 (by decide)) ?_)
  refine l_pure rfl (s_conv  rfl Tryz.underlying99 ⟨_, Tryz.underlying76⟩ (r := ((u / 4294967296 : Nat) : Int)) (by exact wr_u32 _ (by omega)) ?_)
  refine l_heavy rfl (s_bsl (vs := [_, _])  rfl si_93 rfl (by decide) (by decide) (by decide) (by simp [Value.cells]) rfl hS ?_)
  intro b1 wz2 hS hBz2
  have hsl := St.slk (L := [u % 4294967296, u / 4294967296]) hS (k := 0) rfl (n := 2) (cap := 2) (by simp) (by omega) (by omega)
  have hd : ∀ d ∈ [u % 4294967296, u / 4294967296], d < B32 := by
    intro d hd
    simp only [List.mem_cons, List.not_mem_nil, or_false] at hd
    unfold B32; omega
  refine l_heavy rfl (s_call Tryz.call99 rfl (rtext_ok _ _ _ hsl hd (by simp)) ?_)
  rintro _ wc3 ⟨rfl, hBc3⟩
  replace hS := hS.grow hBc3
  refine l_pure rfl (s_asg  rfl ?_)
  refine l_nil ?_
  repeat (with_reducible first | refine c_seq ?_ | refine c_block ?_ | refine c_skip ?_ | refine x_then ?_ | refine x_block ?_)
  refine c_ret ?_
  repeat (with_reducible first | refine x_then_ret ?_ | refine x_block_ret ?_)
  refine r_one rfl rfl ?_
  exact ⟨vs rfl (congrArg natS (ofDigs_two u)), hS.below⟩
end Go.Proofs.YtmapmdldlcfjhaaGreatDoor
namespace Go.Proofs.YtmapmdldlcfjhaaGreatDoor
open Go Go.RowKit Go.Sx

theorem rorder_ok (u v : Value) (m n : Nat) (w : World) (hu : Sl (uk .u32) 1 w u (limb m)) (hv : Sl (uk .u32) 1 w v (limb n)) :
    Ret Tryz.prog 102 #[u, v] w fun r w' => r = .int .i64 (cmpI m n) ∧ Below w.heap.size w w' := by
  have hlu := hu.maxLen
  have hlv := hv.maxLen
  have hS := St.init w
  refine enter Tryz.func102 rfl Tryz.ntmps102 rfl ?_
  repeat (with_reducible first | refine c_seq ?_ | refine c_block ?_ | refine c_skip ?_ | refine x_then ?_ | refine x_block ?_)
  refine c_reg ?_
  refine l_pure rfl (s_asg  rfl ?_)
  refine l_nil ?_
  repeat (with_reducible first | refine c_seq ?_ | refine c_block ?_ | refine c_skip ?_ | refine x_then ?_ | refine x_block ?_)
  refine c_reg ?_
  refine l_pure rfl (s_move  rfl ?_)
  refine l_pure rfl (s_lenr  rfl (hu.below hS.below) ⟨_, Tryz.underlying93⟩ ?_)
  refine l_pure rfl (s_move  rfl ?_)
  refine l_pure rfl (s_lenr  rfl (hv.below hS.below) ⟨_, Tryz.underlying93⟩ ?_)
  refine l_pure rfl (s_neq  rfl rfl ?_)
  refine l_nil ?_
  repeat (with_reducible first | refine c_seq ?_ | refine c_block ?_ | refine c_skip ?_ | refine x_then ?_ | refine x_block ?_)
  by_cases hl : (limb m).length = (limb n).length
  · refine c_no rfl (decide_eq_false (by simp [hl])) ?_
    repeat (with_reducible first | refine c_seq ?_ | refine c_block ?_ | refine c_skip ?_ | refine x_then ?_ | refine x_block ?_)
    refine c_reg ?_
    refine l_pure rfl (s_move  rfl ?_)
    refine l_pure rfl (s_lenr  rfl (hu.below hS.below) ⟨_, Tryz.underlying93⟩ ?_)
    refine l_pure rfl (s_sub  rfl rfl (IntWalk.i64_in _ (by omega)) ?_)
    refine l_pure rfl (s_asg  rfl ?_)
    refine l_nil ?_
    repeat (with_reducible first | refine c_seq ?_ | refine c_block ?_ | refine c_skip ?_ | refine x_then ?_ | refine x_block ?_)
    refine c_loop (σ := Nat) (fun i ρ w' => i ≤ (limb m).length ∧ m / B32 ^ i = n / B32 ^ i ∧ ρ 0 = u ∧ ρ 1 = v ∧ ρ 5 = .int .i64 ((i : Int) - 1) ∧ St w w' []) (fun i => i) (limb m).length
      ⟨Nat.le_refl _, ?_, rfl, rfl, rfl, hS⟩ ?_
    · have h1 : m < B32 ^ (limb m).length := lt_pow_digs_length (by decide) m
      have h2 : n < B32 ^ (limb n).length := lt_pow_digs_length (by decide) n
      rw [Nat.div_eq_of_lt h1, hl, Nat.div_eq_of_lt h2]
    clear hS
    rintro i ρ w' ⟨hi, hq, h0, h1, h5, hS⟩
    repeat (with_reducible first | refine c_seq ?_ | refine c_block ?_ | refine c_skip ?_ | refine x_then ?_ | refine x_block ?_)
    refine c_reg ?_
    refine l_pure rfl (s_move  h5 ?_)
    refine l_pure rfl (s_geq  rfl rfl ?_)
    refine l_nil ?_
    repeat (with_reducible first | refine c_seq ?_ | refine c_block ?_ | refine c_skip ?_ | refine x_then ?_ | refine x_block ?_)
    by_cases hpos : 0 < i
    · refine c_yes rfl (decide_eq_true (by omega)) ?_
      repeat (with_reducible first | refine c_seq ?_ | refine c_block ?_ | refine c_skip ?_ | refine x_then ?_ | refine x_block ?_)
      have hlen : i - 1 < (limb m).length := by omega
      repeat (with_reducible first | refine c_seq ?_ | refine c_block ?_ | refine c_skip ?_ | refine x_then ?_ | refine x_block ?_)
      refine c_draw [(0, .pure), (1, .pure), (2, .pure), (3, .read), (4, .pure), (5, .pure), (6, .pure), (7, .read), (8, .pure)] (by kernel_rfl) (by kernel_rfl) hS ?_
      intro wz1 hS hBz1
      refine w_pure rfl rfl (s_move  h0 ?_)
      refine w_pure rfl rfl (s_move  h5 ?_)
      refine w_pure rfl rfl (s_ixr (i := i - 1)  rfl rfl (hu.below hS.below) (by omega) (by first | omega | (simp; done) | (simp; omega)) si_93 ?_)
      refine w_read rfl rfl (s_lde (i := i - 1) 0  rfl vi_99 (hu.below hS.below) (by first | omega | (simp; done) | (simp; omega)) rfl rfl (.inr rfl) ?_)
      refine w_pure rfl rfl (s_move  h1 ?_)
      refine w_pure rfl rfl (s_move  h5 ?_)
      refine w_pure rfl rfl (s_ixr (i := i - 1)  rfl rfl (hv.below hS.below) (by omega) (by first | omega | (simp; done) | (simp; omega)) si_93 ?_)
      refine w_read rfl rfl (s_lde (i := i - 1) 0  rfl vi_99 (hv.below hS.below) (by first | omega | (simp; done) | (simp; omega)) rfl rfl (.inr rfl) ?_)
      refine w_pure rfl rfl (s_neq  rfl rfl ?_)
      refine w_end ?_
      repeat (with_reducible first | refine c_seq ?_ | refine c_block ?_ | refine c_skip ?_ | refine x_then ?_ | refine x_block ?_)
      rw [limb_getD, limb_getD]
      have hs1 := div_step B32 m (i - 1)
      have hs2 := div_step B32 n (i - 1)
      rw [show i - 1 + 1 = i by omega] at hs1 hs2
      by_cases hne : dgt B32 m (i - 1) = dgt B32 n (i - 1)
      · refine c_no rfl (decide_eq_false (by omega)) ?_
        repeat (with_reducible first | refine c_seq ?_ | refine c_block ?_ | refine c_skip ?_ | refine x_then ?_ | refine x_block ?_)
        refine c_reg ?_
        refine l_pure rfl (s_move  h5 ?_)
        refine l_pure rfl (s_sub  rfl rfl (IntWalk.i64_in _ (by omega)) ?_)
        refine l_pure rfl (s_asg  rfl ?_)
        refine l_nil ?_
        repeat (with_reducible first | refine c_seq ?_ | refine c_block ?_ | refine c_skip ?_ | refine x_then ?_ | refine x_block ?_)
        exact ⟨i - 1, _, rfl, ⟨by omega, by rw [hs1, hs2, hq, hne], h0, h1, vi rfl (by omega), hS⟩, by omega⟩
      · refine c_yes rfl (decide_eq_true (by omega)) ?_
        repeat (with_reducible first | refine c_seq ?_ | refine c_block ?_ | refine c_skip ?_ | refine x_then ?_ | refine x_block ?_)
        refine c_draw [(0, .pure), (1, .pure), (2, .pure), (3, .read), (4, .pure), (5, .pure), (6, .pure), (7, .read), (8, .pure)] (by kernel_rfl) (by kernel_rfl) hS ?_
        intro wz2 hS hBz2
        refine w_pure rfl rfl (s_move  h0 ?_)
        refine w_pure rfl rfl (s_move  h5 ?_)
        refine w_pure rfl rfl (s_ixr (i := i - 1)  rfl rfl (hu.below hS.below) (by omega) (by first | omega | (simp; done) | (simp; omega)) si_93 ?_)
        refine w_read rfl rfl (s_lde (i := i - 1) 0  rfl vi_99 (hu.below hS.below) (by first | omega | (simp; done) | (simp; omega)) rfl rfl (.inr rfl) ?_)
        refine w_pure rfl rfl (s_move  h1 ?_)
        refine w_pure rfl rfl (s_move  h5 ?_)
        refine w_pure rfl rfl (s_ixr (i := i - 1)  rfl rfl (hv.below hS.below) (by omega) (by first | omega | (simp; done) | (simp; omega)) si_93 ?_)
        refine w_read rfl rfl (s_lde (i := i - 1) 0  rfl vi_99 (hv.below hS.below) (by first | omega | (simp; done) | (simp; omega)) rfl rfl (.inr rfl) ?_)
        refine w_pure rfl rfl (s_lss  rfl rfl ?_)
        refine w_end ?_
        repeat (with_reducible first | refine c_seq ?_ | refine c_block ?_ | refine c_skip ?_ | refine x_then ?_ | refine x_block ?_)
        rw [limb_getD, limb_getD]
        by_cases hlt : dgt B32 m (i - 1) < dgt B32 n (i - 1)
        · refine c_yes rfl (decide_eq_true (by omega)) ?_
          repeat (with_reducible first | refine c_seq ?_ | refine c_block ?_ | refine c_skip ?_ | refine x_then ?_ | refine x_block ?_)
          refine c_reg ?_
          refine l_pure rfl (s_asg  rfl ?_)
          refine l_nil ?_
          repeat (with_reducible first | refine c_seq ?_ | refine c_block ?_ | refine c_skip ?_ | refine x_then ?_ | refine x_block ?_)
          refine c_ret ?_
          repeat (with_reducible first | refine x_then_ret ?_ | refine x_block_ret ?_)
          refine r_one rfl rfl ?_
          refine ⟨vi rfl (cmpI_lt (lt_of_div_lt' (b := B32) (i := i - 1) ?_)).symm, hS.below⟩
          rw [hs1, hs2, hq]; omega
        · refine c_no rfl (decide_eq_false (by omega)) ?_
          repeat (with_reducible first | refine c_seq ?_ | refine c_block ?_ | refine c_skip ?_ | refine x_then ?_ | refine x_block ?_)
          refine c_reg ?_
          refine l_pure rfl (s_asg  rfl ?_)
          refine l_nil ?_
          repeat (with_reducible first | refine c_seq ?_ | refine c_block ?_ | refine c_skip ?_ | refine x_then ?_ | refine x_block ?_)
          refine c_ret ?_
          repeat (with_reducible first | refine x_then_ret ?_ | refine x_block_ret ?_)
          refine r_one rfl rfl ?_
          refine ⟨vi rfl (cmpI_gt (lt_of_div_lt' (b := B32) (i := i - 1) ?_)).symm, hS.below⟩
          rw [hs1, hs2, hq]; omega
    · refine c_no rfl (decide_eq_false (by omega)) ?_
      repeat (with_reducible first | refine c_seq ?_ | refine c_block ?_ | refine c_skip ?_ | refine x_then ?_ | refine x_block ?_)
      refine c_exit ?_
      repeat (with_reducible first | refine x_then_exit ?_ | refine x_block_exit ?_ | refine x_block_pass rfl ?_)
      repeat (with_reducible first | refine c_seq ?_ | refine c_block ?_ | refine c_skip ?_ | refine x_then ?_ | refine x_block ?_)
      refine c_reg ?_
      refine l_pure rfl (s_asg  rfl ?_)
      refine l_nil ?_
      repeat (with_reducible first | refine c_seq ?_ | refine c_block ?_ | refine c_skip ?_ | refine x_then ?_ | refine x_block ?_)
      refine c_ret ?_
      repeat (with_reducible first | refine x_then_ret ?_ | refine x_block_ret ?_)
      refine r_one rfl rfl ?_
      obtain rfl : i = 0 := by omega
      rw [Nat.pow_zero, Nat.div_one, Nat.div_one] at hq
      rw [hq]
      exact ⟨vi rfl (by rw [cmpI_self]), hS.below⟩
  · refine c_yes rfl (decide_eq_true (by omega)) ?_
    repeat (with_reducible first | refine c_seq ?_ | refine c_block ?_ | refine c_skip ?_ | refine x_then ?_ | refine x_block ?_)
    refine c_reg ?_
    refine l_pure rfl (s_move  rfl ?_)
    refine l_pure rfl (s_lenr  rfl (hu.below hS.below) ⟨_, Tryz.underlying93⟩ ?_)
    refine l_pure rfl (s_move  rfl ?_)
    refine l_pure rfl (s_lenr  rfl (hv.below hS.below) ⟨_, Tryz.underlying93⟩ ?_)
    refine l_pure rfl (s_lss  rfl rfl ?_)
    refine l_nil ?_
    repeat (with_reducible first | refine c_seq ?_ | refine c_block ?_ | refine c_skip ?_ | refine x_then ?_ | refine x_block ?_)
    by_cases hlt : (limb m).length < (limb n).length
    · refine c_yes rfl (decide_eq_true (by omega)) ?_
      repeat (with_reducible first | refine c_seq ?_ | refine c_block ?_ | refine c_skip ?_ | refine x_then ?_ | refine x_block ?_)
      refine c_reg ?_
      refine l_pure rfl (s_asg  rfl ?_)
      refine l_nil ?_
      repeat (with_reducible first | refine c_seq ?_ | refine c_block ?_ | refine c_skip ?_ | refine x_then ?_ | refine x_block ?_)
      refine c_ret ?_
      repeat (with_reducible first | refine x_then_ret ?_ | refine x_block_ret ?_)
      refine r_one rfl rfl ?_
      exact ⟨vi rfl (cmpI_lt (limb_len_lt hlt)).symm, hS.below⟩
    · refine c_no rfl (decide_eq_false (by omega)) ?_
      repeat (with_reducible first | refine c_seq ?_ | refine c_block ?_ | refine c_skip ?_ | refine x_then ?_ | refine x_block ?_)
      refine c_reg ?_
      refine l_pure rfl (s_asg  rfl ?_)
      refine l_nil ?_
      repeat (with_reducible first | refine c_seq ?_ | refine c_block ?_ | refine c_skip ?_ | refine x_then ?_ | refine x_block ?_)
      refine c_ret ?_
      repeat (with_reducible first | refine x_then_ret ?_ | refine x_block_ret ?_)
      refine r_one rfl rfl ?_
      exact ⟨vi rfl (cmpI_gt (limb_len_lt (by omega))).symm, hS.below⟩

theorem pad_snoc (b v n : Nat) : pad b v (n + 1) = pad b v n ++ [dgt b v n] := by
  unfold pad
  rw [List.range_succ, List.map_append, List.map_singleton]
def acar (X Y i : Nat) : Nat := (X % B32 ^ i + Y % B32 ^ i) / B32 ^ i
theorem acar_le (X Y i : Nat) : acar X Y i ≤ 1 := by
  have hp : 0 < B32 ^ i := Nat.pow_pos (by decide)
  have h1 := Nat.mod_lt X hp
  have h2 := Nat.mod_lt Y hp
  unfold acar
  have : X % B32 ^ i + Y % B32 ^ i < B32 ^ i * 2 := by omega
  have := Nat.div_lt_of_lt_mul this
  omega
theorem acar_dig (X Y i : Nat) : dgt B32 (X + Y) i = (acar X Y i + dgt B32 X i + dgt B32 Y i) % B32 := by
  have hp : 0 < B32 ^ i := Nat.pow_pos (by decide)
  have h1 := Nat.div_add_mod X (B32 ^ i)
  have h2 := Nat.div_add_mod Y (B32 ^ i)
  have h3 : (X + Y) / B32 ^ i = X / B32 ^ i + Y / B32 ^ i + acar X Y i := by
    unfold acar
    have : X + Y = X % B32 ^ i + Y % B32 ^ i + B32 ^ i * (X / B32 ^ i + Y / B32 ^ i) := by rw [Nat.mul_add]; omega
    rw [this, Nat.add_mul_div_left _ _ hp]
    omega
  unfold dgt
  rw [h3]
  generalize X / B32 ^ i = a
  generalize Y / B32 ^ i = b
  generalize acar X Y i = c
  show (a + b + c) % 4294967296 = (c + a % 4294967296 + b % 4294967296) % 4294967296
  omega
theorem acar_next (X Y i : Nat) : acar X Y (i + 1) = (acar X Y i + dgt B32 X i + dgt B32 Y i) / B32 := by
  have hp : 0 < B32 ^ i := Nat.pow_pos (by decide)
  have h1 := mod_pow_succ B32 X i
  have h2 := mod_pow_succ B32 Y i
  unfold acar
  rw [Nat.pow_succ, ← Nat.div_div_eq_div_mul, ← Nat.pow_succ, h1, h2]
  have : X % B32 ^ i + B32 ^ i * dgt B32 X i + (Y % B32 ^ i + B32 ^ i * dgt B32 Y i) = X % B32 ^ i + Y % B32 ^ i + B32 ^ i * (dgt B32 X i + dgt B32 Y i) := by rw [Nat.mul_add]; omega
  rw [this, Nat.add_mul_div_left _ _ hp, Nat.add_assoc]
theorem acar_end {X Y i : Nat} (hX : X < B32 ^ i) (hY : Y < B32 ^ i) (h : acar X Y i = 0) : X + Y < B32 ^ i := by
  unfold acar at h
  rw [Nat.mod_eq_of_lt hX, Nat.mod_eq_of_lt hY] at h
  have hp : 0 < B32 ^ i := Nat.pow_pos (by decide)
  rcases Nat.lt_or_ge (X + Y) (B32 ^ i) with g | g
  · exact g
  · have := Nat.div_pos g hp; omega
theorem acar_pos {X Y i : Nat} (h : 0 < acar X Y i) : B32 ^ i ≤ X + Y := by
  unfold acar at h
  rcases Nat.lt_or_ge (X % B32 ^ i + Y % B32 ^ i) (B32 ^ i) with g | g
  · rw [Nat.div_eq_of_lt g] at h; omega
  · have := Nat.mod_le X (B32 ^ i)
    have := Nat.mod_le Y (B32 ^ i)
    omega
theorem limb_big {X i : Nat} (h : (limb X).length ≤ i) : dgt B32 X i = 0 := dgt_big (Nat.lt_of_lt_of_le (limb_lt_pow X) (Nat.pow_le_pow_right (by decide) h))
theorem limb_low {X i : Nat} (h : i < (limb X).length) : B32 ^ i ≤ X := pow_le_of_digs_length (by decide) h


set_option maxHeartbeats 1000000 in
theorem rplus_ok (vx vy : Value) (X Y : Nat) (w : World) (hx : Sl (uk .u32) 1 w vx (limb X)) (hy : Sl (uk .u32) 1 w vy (limb Y)) (hmx : (limb X).length ≤ 4398046511104) (hmy : (limb Y).length ≤ 4398046511104) :
    Ret Tryz.prog 94 #[vx, vy] w fun r w' => Sl (uk .u32) 1 w' r (limb (X + Y)) ∧ Below w.heap.size w w' := by
  have hS := St.init w
  have hXl := limb_lt_pow X
  have hYl := limb_lt_pow Y
  refine enter Tryz.func94 rfl Tryz.ntmps94 rfl ?_
  repeat (with_reducible first | refine c_seq ?_ | refine c_block ?_ | refine c_skip ?_ | refine x_then ?_ | refine x_block ?_)
  refine c_reg ?_
  refine l_pure rfl (s_asg  rfl ?_)
  refine l_nil ?_
  repeat (with_reducible first | refine c_seq ?_ | refine c_block ?_ | refine c_skip ?_ | refine x_then ?_ | refine x_block ?_)
  refine c_reg ?_
  refine l_pure rfl (s_asg  rfl ?_)
  refine l_nil ?_
  repeat (with_reducible first | refine c_seq ?_ | refine c_block ?_ | refine c_skip ?_ | refine x_then ?_ | refine x_block ?_)
  refine c_reg ?_
  refine l_pure rfl (s_asg  rfl ?_)
  refine l_nil ?_
  repeat (with_reducible first | refine c_seq ?_ | refine c_block ?_ | refine c_skip ?_ | refine x_then ?_ | refine x_block ?_)
  refine c_reg ?_
  refine l_pure rfl (s_asg  rfl ?_)
  refine l_nil ?_
  repeat (with_reducible first | refine c_seq ?_ | refine c_block ?_ | refine c_skip ?_ | refine x_then ?_ | refine x_block ?_)
  refine c_loop (σ := Nat) (fun i ρ w' => (i = 0 ∨ B32 ^ (i - 1) ≤ X + Y) ∧ i ≤ (limb X).length + (limb Y).length + 1 ∧ ρ 0 = vx ∧ ρ 1 = vy ∧ ρ 6 = .int .u64 (acar X Y i) ∧ ρ 7 = .int .i64 i ∧ ∃ vo Lo, ρ 5 = vo ∧ Gl (uk .u32) 99 1 vo (pad B32 (X + Y) i) Lo ∧ St w w' ([] ++ Lo)) (fun i => 2 * ((limb X).length + (limb Y).length + 1 - i) + acar X Y i) 0
    ⟨.inl rfl, by omega, rfl, rfl, vi rfl (by unfold acar; rw [Nat.pow_zero, Nat.mod_one, Nat.mod_one]; rfl), rfl, ⟨_, [], rfl, Gl.nil _ _ _, hS⟩⟩ ?_
  clear hS
  rintro i ρ w3 ⟨hlow, hi, h0, h1, h6, h7, vo, Lo, h5, hG, hS⟩
  have hc := acar_le X Y i
  have hlen : (pad B32 (X + Y) i).length = i := pad_length _ _ _
  have xl := limb_le X i
  have yl := limb_le Y i
  repeat (with_reducible first | refine c_seq ?_ | refine c_block ?_ | refine c_skip ?_ | refine x_then ?_ | refine x_block ?_)
  by_cases g1 : i < (limb X).length
  · repeat (with_reducible first | refine c_seq ?_ | refine c_block ?_ | refine c_skip ?_ | refine x_then ?_ | refine x_block ?_)
    refine c_reg ?_
    refine l_pure rfl (s_move  h7 ?_)
    refine l_pure rfl (s_move  h0 ?_)
    refine l_pure rfl (s_lenr  rfl (hx.below hS.below) ⟨_, Tryz.underlying93⟩ ?_)
    refine l_pure rfl (s_lss  rfl rfl ?_)
    refine l_pure rfl (s_move  rfl ?_)
    refine l_no (gno_yes 12 (by kernel_rfl) rfl (decide_eq_true (by omega))) ?_
    refine l_no (gno_yes 12 (by kernel_rfl) rfl (decide_eq_true (by omega))) ?_
    refine l_no (gno_yes 12 (by kernel_rfl) rfl (decide_eq_true (by omega))) ?_
    refine l_no (gno_yes 12 (by kernel_rfl) rfl (decide_eq_true (by omega))) ?_
    refine l_pure rfl (s_pick (vb rfl (decide_eq_true (by omega))) rfl ?_)
    refine l_pure rfl (s_move  rfl ?_)
    refine l_no (gno_yes 18 (by kernel_rfl) rfl rfl) ?_
    refine l_no (gno_yes 18 (by kernel_rfl) rfl rfl) ?_
    refine l_pure rfl (s_pick (vb rfl rfl) rfl ?_)
    refine l_nil ?_
    repeat (with_reducible first | refine c_seq ?_ | refine c_block ?_ | refine c_skip ?_ | refine x_then ?_ | refine x_block ?_)
    refine c_yes rfl (rfl) ?_
    repeat (with_reducible first | refine c_seq ?_ | refine c_block ?_ | refine c_skip ?_ | refine x_then ?_ | refine x_block ?_)
    have hbig : B32 ^ i ≤ X + Y := by have := limb_low g1; omega
    repeat (with_reducible first | refine c_seq ?_ | refine c_block ?_ | refine c_skip ?_ | refine x_then ?_ | refine x_block ?_)
    refine c_reg ?_
    refine l_pure rfl (s_move  h7 ?_)
    refine l_pure rfl (s_move  h0 ?_)
    refine l_pure rfl (s_lenr  rfl (hx.below hS.below) ⟨_, Tryz.underlying93⟩ ?_)
    refine l_pure rfl (s_lss  rfl rfl ?_)
    refine l_nil ?_
    repeat (with_reducible first | refine c_seq ?_ | refine c_block ?_ | refine c_skip ?_ | refine x_then ?_ | refine x_block ?_)
    refine c_cut1 (fun ρ w' => ρ 0 = vx ∧ ρ 1 = vy ∧ ρ 5 = vo ∧ ρ 6 = .int .u64 (acar X Y i + dgt B32 X i : Nat) ∧ ρ 7 = .int .i64 i ∧ w3 = w') ?_ ?_
    · repeat (with_reducible first | refine c_seq ?_ | refine c_block ?_ | refine c_skip ?_ | refine x_then ?_ | refine x_block ?_)
      by_cases hxl : i < (limb X).length
      · refine c_yes rfl (decide_eq_true (by omega)) ?_
        repeat (with_reducible first | refine c_seq ?_ | refine c_block ?_ | refine c_skip ?_ | refine x_then ?_ | refine x_block ?_)
        refine c_reg ?_
        refine l_pure rfl (s_move  h6 ?_)
        refine l_pure rfl (s_move  h0 ?_)
        refine l_pure rfl (s_move  h7 ?_)
        refine l_pure rfl (s_ixr (i := i)  rfl rfl (hx.below hS.below) (by omega) (by first | omega | (simp; done) | (simp; omega)) si_93 ?_)
        refine l_read rfl (s_lde (i := i) 0  rfl vi_99 (hx.below hS.below) (by first | omega | (simp; done) | (simp; omega)) rfl rfl (.inr rfl) ?_)
        refine l_pure rfl (s_conv  rfl Tryz.underlying76 ⟨_, Tryz.underlying99⟩ (r := ((dgt B32 X i : Nat) : Int)) (by rw [limb_getD]; exact wr_u64 _ ⟨rfl, by omega, by omega⟩) ?_)
        refine l_pure rfl (s_add  rfl rfl (r := ((acar X Y i + dgt B32 X i : Nat) : Int)) (by exact wr_u64 _ ⟨by push_cast; rfl, by omega, by omega⟩) ?_)
        refine l_pure rfl (s_asg  rfl ?_)
        refine l_nil ?_
        repeat (with_reducible first | refine c_seq ?_ | refine c_block ?_ | refine c_skip ?_ | refine x_then ?_ | refine x_block ?_)
        exact ⟨_, rfl, h0, h1, h5, rfl, h7, rfl⟩
      · refine c_no rfl (decide_eq_false (by omega)) ?_
        repeat (with_reducible first | refine c_seq ?_ | refine c_block ?_ | refine c_skip ?_ | refine x_then ?_ | refine x_block ?_)
        exact ⟨_, rfl, h0, h1, h5, h6.trans (by rw [limb_big (by omega), Nat.add_zero]), h7, rfl⟩
    clear h0 h1 h5 h6 h7
    rintro ρ w' ⟨h0, h1, h5, h6, h7, rfl⟩
    repeat (with_reducible first | refine c_seq ?_ | refine c_block ?_ | refine c_skip ?_ | refine x_then ?_ | refine x_block ?_)
    refine c_reg ?_
    refine l_pure rfl (s_move  h7 ?_)
    refine l_pure rfl (s_move  h1 ?_)
    refine l_pure rfl (s_lenr  rfl (hy.below hS.below) ⟨_, Tryz.underlying93⟩ ?_)
    refine l_pure rfl (s_lss  rfl rfl ?_)
    refine l_nil ?_
    repeat (with_reducible first | refine c_seq ?_ | refine c_block ?_ | refine c_skip ?_ | refine x_then ?_ | refine x_block ?_)
    refine c_cut1 (fun ρ w' => ρ 0 = vx ∧ ρ 1 = vy ∧ ρ 5 = vo ∧ ρ 6 = .int .u64 (acar X Y i + dgt B32 X i + dgt B32 Y i : Nat) ∧ ρ 7 = .int .i64 i ∧ w3 = w') ?_ ?_
    · repeat (with_reducible first | refine c_seq ?_ | refine c_block ?_ | refine c_skip ?_ | refine x_then ?_ | refine x_block ?_)
      by_cases hyl : i < (limb Y).length
      · refine c_yes rfl (decide_eq_true (by omega)) ?_
        repeat (with_reducible first | refine c_seq ?_ | refine c_block ?_ | refine c_skip ?_ | refine x_then ?_ | refine x_block ?_)
        refine c_reg ?_
        refine l_pure rfl (s_move  h6 ?_)
        refine l_pure rfl (s_move  h1 ?_)
        refine l_pure rfl (s_move  h7 ?_)
        refine l_pure rfl (s_ixr (i := i)  rfl rfl (hy.below hS.below) (by omega) (by first | omega | (simp; done) | (simp; omega)) si_93 ?_)
        refine l_read rfl (s_lde (i := i) 0  rfl vi_99 (hy.below hS.below) (by first | omega | (simp; done) | (simp; omega)) rfl rfl (.inr rfl) ?_)
        refine l_pure rfl (s_conv  rfl Tryz.underlying76 ⟨_, Tryz.underlying99⟩ (r := ((dgt B32 Y i : Nat) : Int)) (by rw [limb_getD]; exact wr_u64 _ ⟨rfl, by omega, by omega⟩) ?_)
        refine l_pure rfl (s_add  rfl rfl (r := ((acar X Y i + dgt B32 X i + dgt B32 Y i : Nat) : Int)) (by exact wr_u64 _ ⟨by push_cast; rfl, by omega, by omega⟩) ?_)
        refine l_pure rfl (s_asg  rfl ?_)
        refine l_nil ?_
        repeat (with_reducible first | refine c_seq ?_ | refine c_block ?_ | refine c_skip ?_ | refine x_then ?_ | refine x_block ?_)
        exact ⟨_, rfl, h0, h1, h5, rfl, h7, rfl⟩
      · refine c_no rfl (decide_eq_false (by omega)) ?_
        repeat (with_reducible first | refine c_seq ?_ | refine c_block ?_ | refine c_skip ?_ | refine x_then ?_ | refine x_block ?_)
        exact ⟨_, rfl, h0, h1, h5, h6.trans (by rw [limb_big (X := Y) (by omega), Nat.add_zero]), h7, rfl⟩
    clear h0 h1 h5 h6 h7
    rintro ρ w' ⟨h0, h1, h5, h6, h7, rfl⟩
    repeat (with_reducible first | refine c_seq ?_ | refine c_block ?_ | refine c_skip ?_ | refine x_then ?_ | refine x_block ?_)
    refine c_reg ?_
    refine l_pure rfl (s_move  h5 ?_)
    refine l_pure rfl (s_move  h6 ?_)
    refine l_pure rfl (s_conv  rfl Tryz.underlying99 ⟨_, Tryz.underlying76⟩ (u32_mod _) ?_)
    refine l_heavy rfl (s_bsl (vs := [_])  rfl si_93 rfl (by decide) (by decide) (by decide) (by simp [Value.cells]) rfl hS ?_)
    intro b1 wz2 hS hBz2
    refine l_heavy rfl (s_appl [(acar X Y i + dgt B32 X i + dgt B32 Y i) % 4294967296]  rfl rfl si_93 (by decide) hG hS rfl rfl (uk_len _) (uk_one _ [(acar X Y i + dgt B32 X i + dgt B32 Y i) % 4294967296]) (by first | omega | (simp only [List.length_cons, List.length_nil]; omega)) (by first | omega | (simp only [List.length_cons, List.length_nil]; omega)) ?_)
    intro va3 La3 wa3 hG hS hga3
    refine l_pure rfl (s_asg  rfl ?_)
    refine l_nil ?_
    repeat (with_reducible first | refine c_seq ?_ | refine c_block ?_ | refine c_skip ?_ | refine x_then ?_ | refine x_block ?_)
    rw [show (acar X Y i + dgt B32 X i + dgt B32 Y i) % 4294967296 = dgt B32 (X + Y) i from (acar_dig X Y i).symm, ← pad_snoc] at hG
    repeat (with_reducible first | refine c_seq ?_ | refine c_block ?_ | refine c_skip ?_ | refine x_then ?_ | refine x_block ?_)
    refine c_reg ?_
    refine l_pure rfl (s_move  h6 ?_)
    refine l_pure rfl (s_shr  rfl rfl (by omega) (r := (((acar X Y i + dgt B32 X i + dgt B32 Y i) / 4294967296 : Nat) : Int)) (by exact shr_v _ 32 (by decide)) ?_)
    refine l_pure rfl (s_asg  rfl ?_)
    refine l_nil ?_
    repeat (with_reducible first | refine c_seq ?_ | refine c_block ?_ | refine c_skip ?_ | refine x_then ?_ | refine x_block ?_)
    refine c_reg ?_
    refine l_pure rfl (s_move  h7 ?_)
    refine l_pure rfl (s_add  rfl rfl (IntWalk.i64_in _ (by omega)) ?_)
    refine l_pure rfl (s_asg  rfl ?_)
    refine l_nil ?_
    repeat (with_reducible first | refine c_seq ?_ | refine c_block ?_ | refine c_skip ?_ | refine x_then ?_ | refine x_block ?_)
    refine ⟨i + 1, _, rfl, ⟨.inr hbig, by omega, h0, h1, vi rfl (by rw [acar_next]), vi rfl (by omega), ⟨_, _, rfl, hG, hS⟩⟩, ?_⟩
    have hcn := acar_next X Y i
    have hcl := acar_le X Y (i + 1)
    omega
  · by_cases g2 : i < (limb Y).length
    · repeat (with_reducible first | refine c_seq ?_ | refine c_block ?_ | refine c_skip ?_ | refine x_then ?_ | refine x_block ?_)
      refine c_reg ?_
      refine l_pure rfl (s_move  h7 ?_)
      refine l_pure rfl (s_move  h0 ?_)
      refine l_pure rfl (s_lenr  rfl (hx.below hS.below) ⟨_, Tryz.underlying93⟩ ?_)
      refine l_pure rfl (s_lss  rfl rfl ?_)
      refine l_pure rfl (s_move  rfl ?_)
      refine l_pure (gd_yes 12 (by kernel_rfl) rfl (decide_eq_false (by omega))) (s_move  h7 ?_)
      refine l_pure (gd_yes 12 (by kernel_rfl) rfl (decide_eq_false (by omega))) (s_move  h1 ?_)
      refine l_pure (gd_yes 12 (by kernel_rfl) rfl (decide_eq_false (by omega))) (s_lenr  rfl (hy.below hS.below) ⟨_, Tryz.underlying93⟩ ?_)
      refine l_pure (gd_yes 12 (by kernel_rfl) rfl (decide_eq_false (by omega))) (s_lss  rfl rfl ?_)
      refine l_pure rfl (s_pick (vb rfl (decide_eq_false (by omega))) rfl ?_)
      refine l_pure rfl (s_move  rfl ?_)
      refine l_no (gno_yes 18 (by kernel_rfl) rfl (decide_eq_true (by omega))) ?_
      refine l_no (gno_yes 18 (by kernel_rfl) rfl (decide_eq_true (by omega))) ?_
      refine l_pure rfl (s_pick (vb rfl (decide_eq_true (by omega))) rfl ?_)
      refine l_nil ?_
      repeat (with_reducible first | refine c_seq ?_ | refine c_block ?_ | refine c_skip ?_ | refine x_then ?_ | refine x_block ?_)
      refine c_yes rfl (rfl) ?_
      repeat (with_reducible first | refine c_seq ?_ | refine c_block ?_ | refine c_skip ?_ | refine x_then ?_ | refine x_block ?_)
      have hbig : B32 ^ i ≤ X + Y := by have := limb_low g2; omega
      repeat (with_reducible first | refine c_seq ?_ | refine c_block ?_ | refine c_skip ?_ | refine x_then ?_ | refine x_block ?_)
      refine c_reg ?_
      refine l_pure rfl (s_move  h7 ?_)
      refine l_pure rfl (s_move  h0 ?_)
      refine l_pure rfl (s_lenr  rfl (hx.below hS.below) ⟨_, Tryz.underlying93⟩ ?_)
      refine l_pure rfl (s_lss  rfl rfl ?_)
      refine l_nil ?_
      repeat (with_reducible first | refine c_seq ?_ | refine c_block ?_ | refine c_skip ?_ | refine x_then ?_ | refine x_block ?_)
      refine c_cut1 (fun ρ w' => ρ 0 = vx ∧ ρ 1 = vy ∧ ρ 5 = vo ∧ ρ 6 = .int .u64 (acar X Y i + dgt B32 X i : Nat) ∧ ρ 7 = .int .i64 i ∧ w3 = w') ?_ ?_
      · repeat (with_reducible first | refine c_seq ?_ | refine c_block ?_ | refine c_skip ?_ | refine x_then ?_ | refine x_block ?_)
        by_cases hxl : i < (limb X).length
        · refine c_yes rfl (decide_eq_true (by omega)) ?_
          repeat (with_reducible first | refine c_seq ?_ | refine c_block ?_ | refine c_skip ?_ | refine x_then ?_ | refine x_block ?_)
          refine c_reg ?_
          refine l_pure rfl (s_move  h6 ?_)
          refine l_pure rfl (s_move  h0 ?_)
          refine l_pure rfl (s_move  h7 ?_)
          refine l_pure rfl (s_ixr (i := i)  rfl rfl (hx.below hS.below) (by omega) (by first | omega | (simp; done) | (simp; omega)) si_93 ?_)
          refine l_read rfl (s_lde (i := i) 0  rfl vi_99 (hx.below hS.below) (by first | omega | (simp; done) | (simp; omega)) rfl rfl (.inr rfl) ?_)
          refine l_pure rfl (s_conv  rfl Tryz.underlying76 ⟨_, Tryz.underlying99⟩ (r := ((dgt B32 X i : Nat) : Int)) (by rw [limb_getD]; exact wr_u64 _ ⟨rfl, by omega, by omega⟩) ?_)
          refine l_pure rfl (s_add  rfl rfl (r := ((acar X Y i + dgt B32 X i : Nat) : Int)) (by exact wr_u64 _ ⟨by push_cast; rfl, by omega, by omega⟩) ?_)
          refine l_pure rfl (s_asg  rfl ?_)
          refine l_nil ?_
          repeat (with_reducible first | refine c_seq ?_ | refine c_block ?_ | refine c_skip ?_ | refine x_then ?_ | refine x_block ?_)
          exact ⟨_, rfl, h0, h1, h5, rfl, h7, rfl⟩
        · refine c_no rfl (decide_eq_false (by omega)) ?_
          repeat (with_reducible first | refine c_seq ?_ | refine c_block ?_ | refine c_skip ?_ | refine x_then ?_ | refine x_block ?_)
          exact ⟨_, rfl, h0, h1, h5, h6.trans (by rw [limb_big (by omega), Nat.add_zero]), h7, rfl⟩
      clear h0 h1 h5 h6 h7
      rintro ρ w' ⟨h0, h1, h5, h6, h7, rfl⟩
      repeat (with_reducible first | refine c_seq ?_ | refine c_block ?_ | refine c_skip ?_ | refine x_then ?_ | refine x_block ?_)
      refine c_reg ?_
      refine l_pure rfl (s_move  h7 ?_)
      refine l_pure rfl (s_move  h1 ?_)
      refine l_pure rfl (s_lenr  rfl (hy.below hS.below) ⟨_, Tryz.underlying93⟩ ?_)
      refine l_pure rfl (s_lss  rfl rfl ?_)
      refine l_nil ?_
      repeat (with_reducible first | refine c_seq ?_ | refine c_block ?_ | refine c_skip ?_ | refine x_then ?_ | refine x_block ?_)
      refine c_cut1 (fun ρ w' => ρ 0 = vx ∧ ρ 1 = vy ∧ ρ 5 = vo ∧ ρ 6 = .int .u64 (acar X Y i + dgt B32 X i + dgt B32 Y i : Nat) ∧ ρ 7 = .int .i64 i ∧ w3 = w') ?_ ?_
      · repeat (with_reducible first | refine c_seq ?_ | refine c_block ?_ | refine c_skip ?_ | refine x_then ?_ | refine x_block ?_)
        by_cases hyl : i < (limb Y).length
        · refine c_yes rfl (decide_eq_true (by omega)) ?_
          repeat (with_reducible first | refine c_seq ?_ | refine c_block ?_ | refine c_skip ?_ | refine x_then ?_ | refine x_block ?_)
          refine c_reg ?_
          refine l_pure rfl (s_move  h6 ?_)
          refine l_pure rfl (s_move  h1 ?_)
          refine l_pure rfl (s_move  h7 ?_)
          refine l_pure rfl (s_ixr (i := i)  rfl rfl (hy.below hS.below) (by omega) (by first | omega | (simp; done) | (simp; omega)) si_93 ?_)
          refine l_read rfl (s_lde (i := i) 0  rfl vi_99 (hy.below hS.below) (by first | omega | (simp; done) | (simp; omega)) rfl rfl (.inr rfl) ?_)
          refine l_pure rfl (s_conv  rfl Tryz.underlying76 ⟨_, Tryz.underlying99⟩ (r := ((dgt B32 Y i : Nat) : Int)) (by rw [limb_getD]; exact wr_u64 _ ⟨rfl, by omega, by omega⟩) ?_)
          refine l_pure rfl (s_add  rfl rfl (r := ((acar X Y i + dgt B32 X i + dgt B32 Y i : Nat) : Int)) (by exact wr_u64 _ ⟨by push_cast; rfl, by omega, by omega⟩) ?_)
          refine l_pure rfl (s_asg  rfl ?_)
          refine l_nil ?_
          repeat (with_reducible first | refine c_seq ?_ | refine c_block ?_ | refine c_skip ?_ | refine x_then ?_ | refine x_block ?_)
          exact ⟨_, rfl, h0, h1, h5, rfl, h7, rfl⟩
        · refine c_no rfl (decide_eq_false (by omega)) ?_
          repeat (with_reducible first | refine c_seq ?_ | refine c_block ?_ | refine c_skip ?_ | refine x_then ?_ | refine x_block ?_)
          exact ⟨_, rfl, h0, h1, h5, h6.trans (by rw [limb_big (X := Y) (by omega), Nat.add_zero]), h7, rfl⟩
      clear h0 h1 h5 h6 h7
      rintro ρ w' ⟨h0, h1, h5, h6, h7, rfl⟩
      repeat (with_reducible first | refine c_seq ?_ | refine c_block ?_ | refine c_skip ?_ | refine x_then ?_ | refine x_block ?_)
      refine c_reg ?_
      refine l_pure rfl (s_move  h5 ?_)
      refine l_pure rfl (s_move  h6 ?_)
      refine l_pure rfl (s_conv  rfl Tryz.underlying99 ⟨_, Tryz.underlying76⟩ (u32_mod _) ?_)
      refine l_heavy rfl (s_bsl (vs := [_])  rfl si_93 rfl (by decide) (by decide) (by decide) (by simp [Value.cells]) rfl hS ?_)
      intro b4 wz5 hS hBz5
      refine l_heavy rfl (s_appl [(acar X Y i + dgt B32 X i + dgt B32 Y i) % 4294967296]  rfl rfl si_93 (by decide) hG hS rfl rfl (uk_len _) (uk_one _ [(acar X Y i + dgt B32 X i + dgt B32 Y i) % 4294967296]) (by first | omega | (simp only [List.length_cons, List.length_nil]; omega)) (by first | omega | (simp only [List.length_cons, List.length_nil]; omega)) ?_)
      intro va6 La6 wa6 hG hS hga6
      refine l_pure rfl (s_asg  rfl ?_)
      refine l_nil ?_
      repeat (with_reducible first | refine c_seq ?_ | refine c_block ?_ | refine c_skip ?_ | refine x_then ?_ | refine x_block ?_)
      rw [show (acar X Y i + dgt B32 X i + dgt B32 Y i) % 4294967296 = dgt B32 (X + Y) i from (acar_dig X Y i).symm, ← pad_snoc] at hG
      repeat (with_reducible first | refine c_seq ?_ | refine c_block ?_ | refine c_skip ?_ | refine x_then ?_ | refine x_block ?_)
      refine c_reg ?_
      refine l_pure rfl (s_move  h6 ?_)
      refine l_pure rfl (s_shr  rfl rfl (by omega) (r := (((acar X Y i + dgt B32 X i + dgt B32 Y i) / 4294967296 : Nat) : Int)) (by exact shr_v _ 32 (by decide)) ?_)
      refine l_pure rfl (s_asg  rfl ?_)
      refine l_nil ?_
      repeat (with_reducible first | refine c_seq ?_ | refine c_block ?_ | refine c_skip ?_ | refine x_then ?_ | refine x_block ?_)
      refine c_reg ?_
      refine l_pure rfl (s_move  h7 ?_)
      refine l_pure rfl (s_add  rfl rfl (IntWalk.i64_in _ (by omega)) ?_)
      refine l_pure rfl (s_asg  rfl ?_)
      refine l_nil ?_
      repeat (with_reducible first | refine c_seq ?_ | refine c_block ?_ | refine c_skip ?_ | refine x_then ?_ | refine x_block ?_)
      refine ⟨i + 1, _, rfl, ⟨.inr hbig, by omega, h0, h1, vi rfl (by rw [acar_next]), vi rfl (by omega), ⟨_, _, rfl, hG, hS⟩⟩, ?_⟩
      have hcn := acar_next X Y i
      have hcl := acar_le X Y (i + 1)
      omega
    · by_cases g3 : 0 < acar X Y i
      · repeat (with_reducible first | refine c_seq ?_ | refine c_block ?_ | refine c_skip ?_ | refine x_then ?_ | refine x_block ?_)
        refine c_reg ?_
        refine l_pure rfl (s_move  h7 ?_)
        refine l_pure rfl (s_move  h0 ?_)
        refine l_pure rfl (s_lenr  rfl (hx.below hS.below) ⟨_, Tryz.underlying93⟩ ?_)
        refine l_pure rfl (s_lss  rfl rfl ?_)
        refine l_pure rfl (s_move  rfl ?_)
        refine l_pure (gd_yes 12 (by kernel_rfl) rfl (decide_eq_false (by omega))) (s_move  h7 ?_)
        refine l_pure (gd_yes 12 (by kernel_rfl) rfl (decide_eq_false (by omega))) (s_move  h1 ?_)
        refine l_pure (gd_yes 12 (by kernel_rfl) rfl (decide_eq_false (by omega))) (s_lenr  rfl (hy.below hS.below) ⟨_, Tryz.underlying93⟩ ?_)
        refine l_pure (gd_yes 12 (by kernel_rfl) rfl (decide_eq_false (by omega))) (s_lss  rfl rfl ?_)
        refine l_pure rfl (s_pick (vb rfl (decide_eq_false (by omega))) rfl ?_)
        refine l_pure rfl (s_move  rfl ?_)
        refine l_pure (gd_yes 18 (by kernel_rfl) rfl (decide_eq_false (by omega))) (s_move  h6 ?_)
        refine l_pure (gd_yes 18 (by kernel_rfl) rfl (decide_eq_false (by omega))) (s_gtr  rfl rfl ?_)
        refine l_pure rfl (s_pick (vb rfl (decide_eq_false (by omega))) rfl ?_)
        refine l_nil ?_
        repeat (with_reducible first | refine c_seq ?_ | refine c_block ?_ | refine c_skip ?_ | refine x_then ?_ | refine x_block ?_)
        refine c_yes rfl (decide_eq_true (by omega)) ?_
        repeat (with_reducible first | refine c_seq ?_ | refine c_block ?_ | refine c_skip ?_ | refine x_then ?_ | refine x_block ?_)
        have hbig : B32 ^ i ≤ X + Y := acar_pos g3
        have hi2 : i ≤ (limb X).length + (limb Y).length := by
          rcases Nat.lt_or_ge ((limb X).length + (limb Y).length) i with g | g
          · exfalso
            have f1 : X < B32 ^ (i - 1) := Nat.lt_of_lt_of_le hXl (Nat.pow_le_pow_right (by decide) (by omega))
            have f2 : Y < B32 ^ (i - 1) := Nat.lt_of_lt_of_le hYl (Nat.pow_le_pow_right (by decide) (by omega))
            have f3 : B32 ^ i = B32 ^ (i - 1) * 4294967296 := by rw [show (4294967296 : Nat) = B32 from rfl, ← Nat.pow_succ]; congr 1; omega
            omega
          · exact g
        repeat (with_reducible first | refine c_seq ?_ | refine c_block ?_ | refine c_skip ?_ | refine x_then ?_ | refine x_block ?_)
        refine c_reg ?_
        refine l_pure rfl (s_move  h7 ?_)
        refine l_pure rfl (s_move  h0 ?_)
        refine l_pure rfl (s_lenr  rfl (hx.below hS.below) ⟨_, Tryz.underlying93⟩ ?_)
        refine l_pure rfl (s_lss  rfl rfl ?_)
        refine l_nil ?_
        repeat (with_reducible first | refine c_seq ?_ | refine c_block ?_ | refine c_skip ?_ | refine x_then ?_ | refine x_block ?_)
        refine c_cut1 (fun ρ w' => ρ 0 = vx ∧ ρ 1 = vy ∧ ρ 5 = vo ∧ ρ 6 = .int .u64 (acar X Y i + dgt B32 X i : Nat) ∧ ρ 7 = .int .i64 i ∧ w3 = w') ?_ ?_
        · repeat (with_reducible first | refine c_seq ?_ | refine c_block ?_ | refine c_skip ?_ | refine x_then ?_ | refine x_block ?_)
          by_cases hxl : i < (limb X).length
          · refine c_yes rfl (decide_eq_true (by omega)) ?_
            repeat (with_reducible first | refine c_seq ?_ | refine c_block ?_ | refine c_skip ?_ | refine x_then ?_ | refine x_block ?_)
            refine c_reg ?_
            refine l_pure rfl (s_move  h6 ?_)
            refine l_pure rfl (s_move  h0 ?_)
            refine l_pure rfl (s_move  h7 ?_)
            refine l_pure rfl (s_ixr (i := i)  rfl rfl (hx.below hS.below) (by omega) (by first | omega | (simp; done) | (simp; omega)) si_93 ?_)
            refine l_read rfl (s_lde (i := i) 0  rfl vi_99 (hx.below hS.below) (by first | omega | (simp; done) | (simp; omega)) rfl rfl (.inr rfl) ?_)
            refine l_pure rfl (s_conv  rfl Tryz.underlying76 ⟨_, Tryz.underlying99⟩ (r := ((dgt B32 X i : Nat) : Int)) (by rw [limb_getD]; exact wr_u64 _ ⟨rfl, by omega, by omega⟩) ?_)
            refine l_pure rfl (s_add  rfl rfl (r := ((acar X Y i + dgt B32 X i : Nat) : Int)) (by exact wr_u64 _ ⟨by push_cast; rfl, by omega, by omega⟩) ?_)
            refine l_pure rfl (s_asg  rfl ?_)
            refine l_nil ?_
            repeat (with_reducible first | refine c_seq ?_ | refine c_block ?_ | refine c_skip ?_ | refine x_then ?_ | refine x_block ?_)
            exact ⟨_, rfl, h0, h1, h5, rfl, h7, rfl⟩
          · refine c_no rfl (decide_eq_false (by omega)) ?_
            repeat (with_reducible first | refine c_seq ?_ | refine c_block ?_ | refine c_skip ?_ | refine x_then ?_ | refine x_block ?_)
            exact ⟨_, rfl, h0, h1, h5, h6.trans (by rw [limb_big (by omega), Nat.add_zero]), h7, rfl⟩
        clear h0 h1 h5 h6 h7
        rintro ρ w' ⟨h0, h1, h5, h6, h7, rfl⟩
        repeat (with_reducible first | refine c_seq ?_ | refine c_block ?_ | refine c_skip ?_ | refine x_then ?_ | refine x_block ?_)
        refine c_reg ?_
        refine l_pure rfl (s_move  h7 ?_)
        refine l_pure rfl (s_move  h1 ?_)
        refine l_pure rfl (s_lenr  rfl (hy.below hS.below) ⟨_, Tryz.underlying93⟩ ?_)
        refine l_pure rfl (s_lss  rfl rfl ?_)
        refine l_nil ?_
        repeat (with_reducible first | refine c_seq ?_ | refine c_block ?_ | refine c_skip ?_ | refine x_then ?_ | refine x_block ?_)
        refine c_cut1 (fun ρ w' => ρ 0 = vx ∧ ρ 1 = vy ∧ ρ 5 = vo ∧ ρ 6 = .int .u64 (acar X Y i + dgt B32 X i + dgt B32 Y i : Nat) ∧ ρ 7 = .int .i64 i ∧ w3 = w') ?_ ?_
        · repeat (with_reducible first | refine c_seq ?_ | refine c_block ?_ | refine c_skip ?_ | refine x_then ?_ | refine x_block ?_)
          by_cases hyl : i < (limb Y).length
          · refine c_yes rfl (decide_eq_true (by omega)) ?_
            repeat (with_reducible first | refine c_seq ?_ | refine c_block ?_ | refine c_skip ?_ | refine x_then ?_ | refine x_block ?_)
            refine c_reg ?_
            refine l_pure rfl (s_move  h6 ?_)
            refine l_pure rfl (s_move  h1 ?_)
            refine l_pure rfl (s_move  h7 ?_)
            refine l_pure rfl (s_ixr (i := i)  rfl rfl (hy.below hS.below) (by omega) (by first | omega | (simp; done) | (simp; omega)) si_93 ?_)
            refine l_read rfl (s_lde (i := i) 0  rfl vi_99 (hy.below hS.below) (by first | omega | (simp; done) | (simp; omega)) rfl rfl (.inr rfl) ?_)
            refine l_pure rfl (s_conv  rfl Tryz.underlying76 ⟨_, Tryz.underlying99⟩ (r := ((dgt B32 Y i : Nat) : Int)) (by rw [limb_getD]; exact wr_u64 _ ⟨rfl, by omega, by omega⟩) ?_)
            refine l_pure rfl (s_add  rfl rfl (r := ((acar X Y i + dgt B32 X i + dgt B32 Y i : Nat) : Int)) (by exact wr_u64 _ ⟨by push_cast; rfl, by omega, by omega⟩) ?_)
            refine l_pure rfl (s_asg  rfl ?_)
            refine l_nil ?_
            repeat (with_reducible first | refine c_seq ?_ | refine c_block ?_ | refine c_skip ?_ | refine x_then ?_ | refine x_block ?_)
            exact ⟨_, rfl, h0, h1, h5, rfl, h7, rfl⟩
          · refine c_no rfl (decide_eq_false (by omega)) ?_
            repeat (with_reducible first | refine c_seq ?_ | refine c_block ?_ | refine c_skip ?_ | refine x_then ?_ | refine x_block ?_)
            exact ⟨_, rfl, h0, h1, h5, h6.trans (by rw [limb_big (X := Y) (by omega), Nat.add_zero]), h7, rfl⟩
        clear h0 h1 h5 h6 h7
        rintro ρ w' ⟨h0, h1, h5, h6, h7, rfl⟩
        repeat (with_reducible first | refine c_seq ?_ | refine c_block ?_ | refine c_skip ?_ | refine x_then ?_ | refine x_block ?_)
        refine c_reg ?_
        refine l_pure rfl (s_move  h5 ?_)
        refine l_pure rfl (s_move  h6 ?_)
        refine l_pure rfl (s_conv  rfl Tryz.underlying99 ⟨_, Tryz.underlying76⟩ (u32_mod _) ?_)
        refine l_heavy rfl (s_bsl (vs := [_])  rfl si_93 rfl (by decide) (by decide) (by decide) (by simp [Value.cells]) rfl hS ?_)
        intro b7 wz8 hS hBz8
        refine l_heavy rfl (s_appl [(acar X Y i + dgt B32 X i + dgt B32 Y i) % 4294967296]  rfl rfl si_93 (by decide) hG hS rfl rfl (uk_len _) (uk_one _ [(acar X Y i + dgt B32 X i + dgt B32 Y i) % 4294967296]) (by first | omega | (simp only [List.length_cons, List.length_nil]; omega)) (by first | omega | (simp only [List.length_cons, List.length_nil]; omega)) ?_)
        intro va9 La9 wa9 hG hS hga9
        refine l_pure rfl (s_asg  rfl ?_)
        refine l_nil ?_
        repeat (with_reducible first | refine c_seq ?_ | refine c_block ?_ | refine c_skip ?_ | refine x_then ?_ | refine x_block ?_)
        rw [show (acar X Y i + dgt B32 X i + dgt B32 Y i) % 4294967296 = dgt B32 (X + Y) i from (acar_dig X Y i).symm, ← pad_snoc] at hG
        repeat (with_reducible first | refine c_seq ?_ | refine c_block ?_ | refine c_skip ?_ | refine x_then ?_ | refine x_block ?_)
        refine c_reg ?_
        refine l_pure rfl (s_move  h6 ?_)
        refine l_pure rfl (s_shr  rfl rfl (by omega) (r := (((acar X Y i + dgt B32 X i + dgt B32 Y i) / 4294967296 : Nat) : Int)) (by exact shr_v _ 32 (by decide)) ?_)
        refine l_pure rfl (s_asg  rfl ?_)
        refine l_nil ?_
        repeat (with_reducible first | refine c_seq ?_ | refine c_block ?_ | refine c_skip ?_ | refine x_then ?_ | refine x_block ?_)
        refine c_reg ?_
        refine l_pure rfl (s_move  h7 ?_)
        refine l_pure rfl (s_add  rfl rfl (IntWalk.i64_in _ (by omega)) ?_)
        refine l_pure rfl (s_asg  rfl ?_)
        refine l_nil ?_
        repeat (with_reducible first | refine c_seq ?_ | refine c_block ?_ | refine c_skip ?_ | refine x_then ?_ | refine x_block ?_)
        refine ⟨i + 1, _, rfl, ⟨.inr hbig, by omega, h0, h1, vi rfl (by rw [acar_next]), vi rfl (by omega), ⟨_, _, rfl, hG, hS⟩⟩, ?_⟩
        have hcn := acar_next X Y i
        have hcl := acar_le X Y (i + 1)
        omega
      · repeat (with_reducible first | refine c_seq ?_ | refine c_block ?_ | refine c_skip ?_ | refine x_then ?_ | refine x_block ?_)
        refine c_reg ?_
        refine l_pure rfl (s_move  h7 ?_)
        refine l_pure rfl (s_move  h0 ?_)
        refine l_pure rfl (s_lenr  rfl (hx.below hS.below) ⟨_, Tryz.underlying93⟩ ?_)
        refine l_pure rfl (s_lss  rfl rfl ?_)
        refine l_pure rfl (s_move  rfl ?_)
        refine l_pure (gd_yes 12 (by kernel_rfl) rfl (decide_eq_false (by omega))) (s_move  h7 ?_)
        refine l_pure (gd_yes 12 (by kernel_rfl) rfl (decide_eq_false (by omega))) (s_move  h1 ?_)
        refine l_pure (gd_yes 12 (by kernel_rfl) rfl (decide_eq_false (by omega))) (s_lenr  rfl (hy.below hS.below) ⟨_, Tryz.underlying93⟩ ?_)
        refine l_pure (gd_yes 12 (by kernel_rfl) rfl (decide_eq_false (by omega))) (s_lss  rfl rfl ?_)
        refine l_pure rfl (s_pick (vb rfl (decide_eq_false (by omega))) rfl ?_)
        refine l_pure rfl (s_move  rfl ?_)
        refine l_pure (gd_yes 18 (by kernel_rfl) rfl (decide_eq_false (by omega))) (s_move  h6 ?_)
        refine l_pure (gd_yes 18 (by kernel_rfl) rfl (decide_eq_false (by omega))) (s_gtr  rfl rfl ?_)
        refine l_pure rfl (s_pick (vb rfl (decide_eq_false (by omega))) rfl ?_)
        refine l_nil ?_
        repeat (with_reducible first | refine c_seq ?_ | refine c_block ?_ | refine c_skip ?_ | refine x_then ?_ | refine x_block ?_)
        refine c_no rfl (decide_eq_false (by omega)) ?_
        repeat (with_reducible first | refine c_seq ?_ | refine c_block ?_ | refine c_skip ?_ | refine x_then ?_ | refine x_block ?_)
        refine c_exit ?_
        repeat (with_reducible first | refine x_then_exit ?_ | refine x_block_exit ?_ | refine x_block_pass rfl ?_)
        repeat (with_reducible first | refine c_seq ?_ | refine c_block ?_ | refine c_skip ?_ | refine x_then ?_ | refine x_block ?_)
        have hend : X + Y < B32 ^ i := acar_end (Nat.lt_of_lt_of_le hXl (Nat.pow_le_pow_right (by decide) (by omega))) (Nat.lt_of_lt_of_le hYl (Nat.pow_le_pow_right (by decide) (by omega))) (by omega)
        have hi3 : (limb (X + Y)).length = i := by
          have f1 := limb_len_le hend
          rcases hlow with rfl | hlow
          · omega
          · rcases Nat.lt_or_ge (limb (X + Y)).length i with g | g
            · exfalso
              have f2 := limb_lt_pow (X + Y)
              have f3 : B32 ^ (limb (X + Y)).length ≤ B32 ^ (i - 1) := Nat.pow_le_pow_right (by decide) (by omega)
              omega
            · omega
        have hsl := hG.sl hS (uk_len _)
        rw [show pad B32 (X + Y) i = limb (X + Y) by rw [← hi3]; exact pad_limb _] at hsl
        repeat (with_reducible first | refine c_seq ?_ | refine c_block ?_ | refine c_skip ?_ | refine x_then ?_ | refine x_block ?_)
        refine c_reg ?_
        refine l_pure rfl (s_move  h5 ?_)
        refine l_pure rfl (s_asg  rfl ?_)
        refine l_nil ?_
        repeat (with_reducible first | refine c_seq ?_ | refine c_block ?_ | refine c_skip ?_ | refine x_then ?_ | refine x_block ?_)
        refine c_ret ?_
        repeat (with_reducible first | refine x_then_ret ?_ | refine x_block_ret ?_)
        refine r_one rfl rfl ?_
        exact ⟨hsl, hS.below⟩

theorem rminus_ok (vx vy : Value) (X Y : Nat) (w : World) (hx : Sl (uk .u32) 1 w vx (limb X)) (hy : Sl (uk .u32) 1 w vy (limb Y)) (hYX : Y ≤ X) (hmx : (limb X).length ≤ 17592186044416) :
    Ret Tryz.prog 103 #[vx, vy] w fun r w' => Sl (uk .u32) 1 w' r (limb (X - Y)) ∧ Below w.heap.size w w' := by
  have hS := St.init w
  obtain ⟨n, hn⟩ : ∃ n, n = (limb X).length := ⟨_, rfl⟩
  have hle : (limb Y).length ≤ n := hn ▸ digs_length_mono (by decide) hYX
  refine enter Tryz.func103 rfl Tryz.ntmps103 rfl ?_
  repeat (with_reducible first | refine c_seq ?_ | refine c_block ?_ | refine c_skip ?_ | refine x_then ?_ | refine x_block ?_)
  refine c_reg ?_
  refine l_pure rfl (s_asg  rfl ?_)
  refine l_nil ?_
  repeat (with_reducible first | refine c_seq ?_ | refine c_block ?_ | refine c_skip ?_ | refine x_then ?_ | refine x_block ?_)
  refine c_reg ?_
  refine l_pure rfl (s_move  rfl ?_)
  refine l_pure rfl (s_lenr  rfl (hx.below hS.below) ⟨_, Tryz.underlying93⟩ ?_)
  refine l_heavy rfl (s_makek (n := (limb X).length)  rfl rfl si_93 (by omega) (by omega) (by omega) (by omega) hS ?_)
  intro b1 wz2 hS hBz2
  refine l_pure rfl (s_asg  rfl ?_)
  refine l_nil ?_
  repeat (with_reducible first | refine c_seq ?_ | refine c_block ?_ | refine c_skip ?_ | refine x_then ?_ | refine x_block ?_)
  refine c_reg ?_
  refine l_pure rfl (s_asg  rfl ?_)
  refine l_nil ?_
  repeat (with_reducible first | refine c_seq ?_ | refine c_block ?_ | refine c_skip ?_ | refine x_then ?_ | refine x_block ?_)
  refine c_reg ?_
  refine l_pure rfl (s_asg  rfl ?_)
  refine l_nil ?_
  repeat (with_reducible first | refine c_seq ?_ | refine c_block ?_ | refine c_skip ?_ | refine x_then ?_ | refine x_block ?_)
  have hXn : X < B32 ^ n := hn ▸ limb_lt_pow X
  have hYn : Y < B32 ^ n := Nat.lt_of_lt_of_le (limb_lt_pow Y) (Nat.pow_le_pow_right (by decide) (by omega))
  rw [← hn, ← pad_zero B32 n] at hS
  refine c_loop (σ := Nat × Nat × Nat) (fun s ρ w' => s.1 ≤ n ∧ s.2.1 < B32 ^ s.1 ∧ s.2.2 ≤ 1 ∧ s.2.1 + Y % B32 ^ s.1 = X % B32 ^ s.1 + B32 ^ s.1 * s.2.2 ∧ ρ 0 = vx ∧ ρ 1 = vy ∧ ρ 5 = .slice (some ⟨b1, 0, none⟩) n n ∧ ρ 6 = .int .u64 s.2.2 ∧ ρ 7 = .int .i64 s.1 ∧ St w w' [(b1, 99, Kr .u32 (pad B32 s.2.1 n))]) (fun s => n - s.1) (0, 0, 0)
    ⟨Nat.zero_le _, by decide, by decide, by simp [Nat.mod_one], rfl, rfl, by rw [hn]; rfl, rfl, rfl, hS⟩ ?_
  clear hS
  rintro ⟨i, r, c⟩ ρ w3 ⟨hi, hr, hc, hinv, h0, h1, h5, h6, h7, hS⟩
  simp only at hi hr hc hinv h0 h1 h5 h6 h7 hS
  repeat (with_reducible first | refine c_seq ?_ | refine c_block ?_ | refine c_skip ?_ | refine x_then ?_ | refine x_block ?_)
  refine c_reg ?_
  refine l_pure rfl (s_move  h7 ?_)
  refine l_pure rfl (s_move  h0 ?_)
  refine l_pure rfl (s_lenr  rfl (hx.below hS.below) ⟨_, Tryz.underlying93⟩ ?_)
  refine l_pure rfl (s_lss  rfl rfl ?_)
  refine l_nil ?_
  repeat (with_reducible first | refine c_seq ?_ | refine c_block ?_ | refine c_skip ?_ | refine x_then ?_ | refine x_block ?_)
  by_cases hlt : i < n
  · refine c_yes rfl (decide_eq_true (by omega)) ?_
    repeat (with_reducible first | refine c_seq ?_ | refine c_block ?_ | refine c_skip ?_ | refine x_then ?_ | refine x_block ?_)
    have xl := limb_le X i
    have yl := limb_le Y i
    repeat (with_reducible first | refine c_seq ?_ | refine c_block ?_ | refine c_skip ?_ | refine x_then ?_ | refine x_block ?_)
    refine c_reg ?_
    refine l_pure rfl (s_move  h6 ?_)
    refine l_pure rfl (s_asg  rfl ?_)
    refine l_nil ?_
    repeat (with_reducible first | refine c_seq ?_ | refine c_block ?_ | refine c_skip ?_ | refine x_then ?_ | refine x_block ?_)
    refine c_reg ?_
    refine l_pure rfl (s_move  h7 ?_)
    refine l_pure rfl (s_move  h1 ?_)
    refine l_pure rfl (s_lenr  rfl (hy.below hS.below) ⟨_, Tryz.underlying93⟩ ?_)
    refine l_pure rfl (s_lss  rfl rfl ?_)
    refine l_nil ?_
    repeat (with_reducible first | refine c_seq ?_ | refine c_block ?_ | refine c_skip ?_ | refine x_then ?_ | refine x_block ?_)
    refine c_cut1 (fun ρ w' => ρ 0 = vx ∧ ρ 1 = vy ∧ ρ 5 = .slice (some ⟨b1, 0, none⟩) n n ∧ ρ 7 = .int .i64 i ∧ ρ 8 = .int .u64 (c + dgt B32 Y i : Nat) ∧ w3 = w') ?_ ?_
    · repeat (with_reducible first | refine c_seq ?_ | refine c_block ?_ | refine c_skip ?_ | refine x_then ?_ | refine x_block ?_)
      by_cases hlt2 : i < (limb Y).length
      · refine c_yes rfl (decide_eq_true (by omega)) ?_
        repeat (with_reducible first | refine c_seq ?_ | refine c_block ?_ | refine c_skip ?_ | refine x_then ?_ | refine x_block ?_)
        refine c_reg ?_
        refine l_pure rfl (s_move  rfl ?_)
        refine l_pure rfl (s_move  h1 ?_)
        refine l_pure rfl (s_move  h7 ?_)
        refine l_pure rfl (s_ixr (i := i)  rfl rfl (hy.below hS.below) (by omega) (by first | omega | (simp; done) | (simp; omega)) si_93 ?_)
        refine l_read rfl (s_lde (i := i) 0  rfl vi_99 (hy.below hS.below) (by first | omega | (simp; done) | (simp; omega)) rfl rfl (.inr rfl) ?_)
        refine l_pure rfl (s_conv  rfl Tryz.underlying76 ⟨_, Tryz.underlying99⟩ (r := ((dgt B32 Y i : Nat) : Int)) (by rw [limb_getD]; exact wr_u64 _ ⟨rfl, by omega, by omega⟩) ?_)
        refine l_pure rfl (s_add  rfl rfl (r := ((c + dgt B32 Y i : Nat) : Int)) (by exact wr_u64 _ ⟨by push_cast; rfl, by omega, by omega⟩) ?_)
        refine l_pure rfl (s_asg  rfl ?_)
        refine l_nil ?_
        repeat (with_reducible first | refine c_seq ?_ | refine c_block ?_ | refine c_skip ?_ | refine x_then ?_ | refine x_block ?_)
        exact ⟨_, rfl, h0, h1, h5, h7, rfl, rfl⟩
      · refine c_no rfl (decide_eq_false (by omega)) ?_
        repeat (with_reducible first | refine c_seq ?_ | refine c_block ?_ | refine c_skip ?_ | refine x_then ?_ | refine x_block ?_)
        exact ⟨_, rfl, h0, h1, h5, h7, vi rfl (by rw [limb_big (X := Y) (by omega), Nat.add_zero]), rfl⟩
    clear h0 h1 h5 h6 h7
    rintro ρ w' ⟨h0, h1, h5, h7, h8, rfl⟩
    repeat (with_reducible first | refine c_seq ?_ | refine c_block ?_ | refine c_skip ?_ | refine x_then ?_ | refine x_block ?_)
    have hgx : (limb X).getD i 0 = dgt B32 X i := limb_getD X i
    repeat (with_reducible first | refine c_seq ?_ | refine c_block ?_ | refine c_skip ?_ | refine x_then ?_ | refine x_block ?_)
    refine c_reg ?_
    refine l_pure rfl (s_move  h0 ?_)
    refine l_pure rfl (s_move  h7 ?_)
    refine l_pure rfl (s_ixr (i := i)  rfl rfl (hx.below hS.below) (by omega) (by first | omega | (simp; done) | (simp; omega)) si_93 ?_)
    refine l_read rfl (s_lde (i := i) 0  rfl vi_99 (hx.below hS.below) (by first | omega | (simp; done) | (simp; omega)) rfl rfl (.inr rfl) ?_)
    refine l_pure rfl (s_conv  rfl Tryz.underlying76 ⟨_, Tryz.underlying99⟩ (r := ((dgt B32 X i : Nat) : Int)) (by rw [hgx]; exact wr_u64 _ ⟨rfl, by omega, by omega⟩) ?_)
    refine l_pure rfl (s_asg  rfl ?_)
    refine l_nil ?_
    repeat (with_reducible first | refine c_seq ?_ | refine c_block ?_ | refine c_skip ?_ | refine x_then ?_ | refine x_block ?_)
    refine c_reg ?_
    refine l_pure rfl (s_asg  rfl ?_)
    refine l_nil ?_
    repeat (with_reducible first | refine c_seq ?_ | refine c_block ?_ | refine c_skip ?_ | refine x_then ?_ | refine x_block ?_)
    refine c_reg ?_
    refine l_pure rfl (s_move  rfl ?_)
    refine l_pure rfl (s_move  h8 ?_)
    refine l_pure rfl (s_lss  rfl rfl ?_)
    refine l_nil ?_
    repeat (with_reducible first | refine c_seq ?_ | refine c_block ?_ | refine c_skip ?_ | refine x_then ?_ | refine x_block ?_)
    obtain ⟨d, hd⟩ : ∃ d, d = (if dgt B32 X i < c + dgt B32 Y i then dgt B32 X i + 4294967296 else dgt B32 X i) := ⟨_, rfl⟩
    obtain ⟨c', hc'⟩ : ∃ c', c' = (if dgt B32 X i < c + dgt B32 Y i then 1 else 0) := ⟨_, rfl⟩
    have hdc : d = dgt B32 X i + 4294967296 * c' := by rw [hd, hc']; split <;> omega
    have hdl : c + dgt B32 Y i ≤ d ∧ d - (c + dgt B32 Y i) ≤ 4294967295 := by rw [hd]; split <;> omega
    have hc1 : c' ≤ 1 := by rw [hc']; split <;> omega
    refine c_cut1 (fun ρ w' => ρ 0 = vx ∧ ρ 1 = vy ∧ ρ 5 = .slice (some ⟨b1, 0, none⟩) n n ∧ ρ 6 = .int .u64 (c' : Nat) ∧ ρ 7 = .int .i64 i ∧ ρ 8 = .int .u64 (c + dgt B32 Y i : Nat) ∧ ρ 9 = .int .u64 (d : Nat) ∧ w3 = w') ?_ ?_
    · repeat (with_reducible first | refine c_seq ?_ | refine c_block ?_ | refine c_skip ?_ | refine x_then ?_ | refine x_block ?_)
      by_cases hlt2 : dgt B32 X i < c + dgt B32 Y i
      · refine c_yes rfl (decide_eq_true (by omega)) ?_
        repeat (with_reducible first | refine c_seq ?_ | refine c_block ?_ | refine c_skip ?_ | refine x_then ?_ | refine x_block ?_)
        rw [if_pos hlt2] at hd hc'
        repeat (with_reducible first | refine c_seq ?_ | refine c_block ?_ | refine c_skip ?_ | refine x_then ?_ | refine x_block ?_)
        refine c_reg ?_
        refine l_pure rfl (s_move  rfl ?_)
        refine l_pure rfl (s_add  rfl rfl (r := ((d : Nat) : Int)) (by rw [hd]; exact wr_u64 _ ⟨by omega, by omega, by omega⟩) ?_)
        refine l_pure rfl (s_asg  rfl ?_)
        refine l_nil ?_
        repeat (with_reducible first | refine c_seq ?_ | refine c_block ?_ | refine c_skip ?_ | refine x_then ?_ | refine x_block ?_)
        refine c_reg ?_
        refine l_pure rfl (s_asg  rfl ?_)
        refine l_nil ?_
        repeat (with_reducible first | refine c_seq ?_ | refine c_block ?_ | refine c_skip ?_ | refine x_then ?_ | refine x_block ?_)
        exact ⟨_, rfl, h0, h1, h5, vi rfl (by rw [hc']; rfl), h7, h8, rfl, rfl⟩
      · refine c_no rfl (decide_eq_false (by omega)) ?_
        repeat (with_reducible first | refine c_seq ?_ | refine c_block ?_ | refine c_skip ?_ | refine x_then ?_ | refine x_block ?_)
        rw [if_neg hlt2] at hd hc'
        exact ⟨_, rfl, h0, h1, h5, vi rfl (by rw [hc']; rfl), h7, h8, vi rfl (by rw [hd]), rfl⟩
    clear h0 h1 h5 h7 h8 hd hc'
    rintro ρ w' ⟨h0, h1, h5, h6, h7, h8, h9, rfl⟩
    repeat (with_reducible first | refine c_seq ?_ | refine c_block ?_ | refine c_skip ?_ | refine x_then ?_ | refine x_block ?_)
    obtain ⟨e1, e2⟩ := pad_put (b := B32) (r := r) (i := i) (d := d - (c + dgt B32 Y i)) (n := n) (by decide) hr (show _ < 4294967296 by omega)
    repeat (with_reducible first | refine c_seq ?_ | refine c_block ?_ | refine c_skip ?_ | refine x_then ?_ | refine x_block ?_)
    refine c_reg ?_
    refine l_pure rfl (s_move  h5 ?_)
    refine l_pure rfl (s_move  h7 ?_)
    refine l_pure rfl (s_move  h9 ?_)
    refine l_pure rfl (s_move  h8 ?_)
    refine l_pure rfl (s_sub  rfl rfl (r := ((d - (c + dgt B32 Y i) : Nat) : Int)) (by exact wr_u64 _ ⟨by omega, by omega, by omega⟩) ?_)
    refine l_pure rfl (s_conv  rfl Tryz.underlying99 ⟨_, Tryz.underlying76⟩ (r := ((d - (c + dgt B32 Y i) : Nat) : Int)) (by exact wr_u32 _ ⟨rfl, by omega, by omega⟩) ?_)
    refine l_pure rfl (s_ixo (i := i)  rfl rfl (by omega) (by first | omega | (simp; done) | (simp; omega)) si_93 ?_)
    refine l_heavy rfl (s_stk (k := 0) (i := i) (a := _)  rfl rfl rfl vi_99 hS rfl (by omega) (by first | omega | (simp; done) | (simp; omega)) ?_)
    intro wz3 hS
    refine l_nil ?_
    repeat (with_reducible first | refine c_seq ?_ | refine c_block ?_ | refine c_skip ?_ | refine x_then ?_ | refine x_block ?_)
    rw [List.set_cons_zero, e1] at hS
    repeat (with_reducible first | refine c_seq ?_ | refine c_block ?_ | refine c_skip ?_ | refine x_then ?_ | refine x_block ?_)
    refine c_reg ?_
    refine l_pure rfl (s_move  h7 ?_)
    refine l_pure rfl (s_add  rfl rfl (IntWalk.i64_in _ (by omega)) ?_)
    refine l_pure rfl (s_asg  rfl ?_)
    refine l_nil ?_
    repeat (with_reducible first | refine c_seq ?_ | refine c_block ?_ | refine c_skip ?_ | refine x_then ?_ | refine x_block ?_)
    refine ⟨(i + 1, r + B32 ^ i * (d - (c + dgt B32 Y i)), c'), _, rfl, ⟨hlt, e2, hc1, ?_, h0, h1, h5, h6, vi rfl (by simp), hS⟩, by simp only; omega⟩
    simp only
    have h9 : B32 ^ i * (d - (c + dgt B32 Y i)) + B32 ^ i * dgt B32 Y i + B32 ^ i * c = B32 ^ i * dgt B32 X i + B32 ^ i * (B32 * c') := by
      rw [← Nat.mul_add, ← Nat.mul_add, ← Nat.mul_add, show dgt B32 X i + B32 * c' = d from hdc.symm]; congr 1; omega
    rw [mod_pow_succ, mod_pow_succ, Nat.pow_succ, Nat.mul_assoc]
    omega
  · refine c_no rfl (decide_eq_false (by omega)) ?_
    repeat (with_reducible first | refine c_seq ?_ | refine c_block ?_ | refine c_skip ?_ | refine x_then ?_ | refine x_block ?_)
    refine c_exit ?_
    repeat (with_reducible first | refine x_then_exit ?_ | refine x_block_exit ?_ | refine x_block_pass rfl ?_)
    repeat (with_reducible first | refine c_seq ?_ | refine c_block ?_ | refine c_skip ?_ | refine x_then ?_ | refine x_block ?_)
    obtain rfl : i = n := by omega
    rw [Nat.mod_eq_of_lt hXn, Nat.mod_eq_of_lt hYn] at hinv
    have hc0 : c = 0 := by
      rcases Nat.lt_or_ge c 1 with h | h
      · omega
      · obtain rfl : c = 1 := by omega
        omega
    subst hc0
    have hr2 : r = X - Y := by omega
    have hsl := hS.slk (k := 0) rfl (n := i) (cap := i) (by simp) (Nat.le_refl _) (by omega)
    rw [List.take_of_length_le (by simp)] at hsl
    repeat (with_reducible first | refine c_seq ?_ | refine c_block ?_ | refine c_skip ?_ | refine x_then ?_ | refine x_block ?_)
    refine c_reg ?_
    refine l_pure rfl (s_move  h5 ?_)
    refine l_heavy rfl (s_call Tryz.call122 rfl (rstrip_ok _ _ _ hsl (pad_lt (by decide) _ _)) ?_)
    rintro _ wq4 ⟨hv, hq4⟩
    replace hq4 := hq4.symm
    subst hq4
    refine l_pure rfl (s_asg  rfl ?_)
    refine l_nil ?_
    repeat (with_reducible first | refine c_seq ?_ | refine c_block ?_ | refine c_skip ?_ | refine x_then ?_ | refine x_block ?_)
    refine c_ret ?_
    repeat (with_reducible first | refine x_then_ret ?_ | refine x_block_ret ?_)
    refine r_one rfl rfl ?_
    rw [ofDigs_pad_lt hr, hr2] at hv
    exact ⟨hv, hS.below⟩
end Go.Proofs.YtmapmdldlcfjhaaGreatDoor
namespace Go.Proofs.YtmapmdldlcfjhaaGreatDoor
open Go Go.RowKit Go.Sx

set_option maxHeartbeats 1000000 in
theorem rtimes_ok (vx vy : Value) (X Y : Nat) (w : World) (hx : Sl (uk .u32) 1 w vx (limb X)) (hy : Sl (uk .u32) 1 w vy (limb Y)) (hmx : (limb X).length ≤ 4398046511104) (hmy : (limb Y).length ≤ 4398046511104) :
    Ret Tryz.prog 98 #[vx, vy] w fun r w' => Sl (uk .u32) 1 w' r (limb (X * Y)) ∧ Below w.heap.size w w' := by
  have hS := St.init w
  obtain ⟨m, hm⟩ : ∃ m, m = (limb X).length := ⟨_, rfl⟩
  obtain ⟨n, hn⟩ : ∃ n, n = (limb Y).length := ⟨_, rfl⟩
  have hXm : X < B32 ^ m := hm ▸ limb_lt_pow X
  have hYn : Y < B32 ^ n := hn ▸ limb_lt_pow Y
  refine enter Tryz.func98 rfl Tryz.ntmps98 rfl ?_
  repeat (with_reducible first | refine c_seq ?_ | refine c_block ?_ | refine c_skip ?_ | refine x_then ?_ | refine x_block ?_)
  refine c_reg ?_
  refine l_pure rfl (s_asg  rfl ?_)
  refine l_nil ?_
  repeat (with_reducible first | refine c_seq ?_ | refine c_block ?_ | refine c_skip ?_ | refine x_then ?_ | refine x_block ?_)
  refine c_reg ?_
  refine l_pure rfl (s_move  rfl ?_)
  refine l_pure rfl (s_lenr  rfl (hx.below hS.below) ⟨_, Tryz.underlying93⟩ ?_)
  refine l_pure rfl (s_move  rfl ?_)
  refine l_pure rfl (s_lenr  rfl (hy.below hS.below) ⟨_, Tryz.underlying93⟩ ?_)
  refine l_pure rfl (s_add  rfl rfl (IntWalk.i64_in _ (by omega)) ?_)
  refine l_heavy rfl (s_makek (n := m + n)  rfl rfl si_93 (by omega) (by omega) (by omega) (by omega) hS ?_)
  intro b1 wz2 hS hBz2
  refine l_pure rfl (s_asg  rfl ?_)
  refine l_nil ?_
  repeat (with_reducible first | refine c_seq ?_ | refine c_block ?_ | refine c_skip ?_ | refine x_then ?_ | refine x_block ?_)
  refine c_reg ?_
  refine l_pure rfl (s_asg  rfl ?_)
  refine l_nil ?_
  repeat (with_reducible first | refine c_seq ?_ | refine c_block ?_ | refine c_skip ?_ | refine x_then ?_ | refine x_block ?_)
  rw [← pad_zero B32 (m + n)] at hS
  refine c_loop (σ := Nat) (fun i ρ w' => i ≤ m ∧ ρ 0 = vx ∧ ρ 1 = vy ∧ ρ 5 = .slice (some ⟨b1, 0, none⟩) (m + n) (m + n) ∧ ρ 6 = .int .i64 i ∧ St w w' [(b1, 99, Kr .u32 (pad B32 (X % B32 ^ i * Y) (m + n)))]) (fun i => m - i) 0
    ⟨Nat.zero_le _, rfl, rfl, rfl, rfl, by rw [Nat.pow_zero, Nat.mod_one, Nat.zero_mul]; exact hS⟩ ?_
  clear hS
  rintro i ρ w3 ⟨hi, h0, h1, h5, h6, hS⟩
  repeat (with_reducible first | refine c_seq ?_ | refine c_block ?_ | refine c_skip ?_ | refine x_then ?_ | refine x_block ?_)
  refine c_reg ?_
  refine l_pure rfl (s_move  h6 ?_)
  refine l_pure rfl (s_move  h0 ?_)
  refine l_pure rfl (s_lenr  rfl (hx.below hS.below) ⟨_, Tryz.underlying93⟩ ?_)
  refine l_pure rfl (s_lss  rfl rfl ?_)
  refine l_nil ?_
  repeat (with_reducible first | refine c_seq ?_ | refine c_block ?_ | refine c_skip ?_ | refine x_then ?_ | refine x_block ?_)
  by_cases hlt : i < m
  · refine c_yes rfl (decide_eq_true (by omega)) ?_
    repeat (with_reducible first | refine c_seq ?_ | refine c_block ?_ | refine c_skip ?_ | refine x_then ?_ | refine x_block ?_)
    have him : i < (limb X).length := by omega
    repeat (with_reducible first | refine c_seq ?_ | refine c_block ?_ | refine c_skip ?_ | refine x_then ?_ | refine x_block ?_)
    refine c_reg ?_
    refine l_pure rfl (s_asg  rfl ?_)
    refine l_nil ?_
    repeat (with_reducible first | refine c_seq ?_ | refine c_block ?_ | refine c_skip ?_ | refine x_then ?_ | refine x_block ?_)
    refine c_reg ?_
    refine l_pure rfl (s_asg  rfl ?_)
    refine l_nil ?_
    repeat (with_reducible first | refine c_seq ?_ | refine c_block ?_ | refine c_skip ?_ | refine x_then ?_ | refine x_block ?_)
    have hP0 : X % B32 ^ i * Y < B32 ^ (i + n) := by
      rw [Nat.pow_add]
      exact Nat.mul_lt_mul_of_lt_of_le (mod_lt_pow (by decide) X i) (Nat.le_of_lt hYn) (Nat.pow_pos (by decide))
    refine c_loop (σ := Nat × Nat × Nat) (fun s ρ w' => s.1 ≤ n ∧ s.2.1 < B32 ^ (i + n) ∧ s.2.2 ≤ 4294967295 ∧ s.2.1 + B32 ^ (i + s.1) * s.2.2 = X % B32 ^ i * Y + B32 ^ i * (dgt B32 X i * (Y % B32 ^ s.1)) ∧ ρ 0 = vx ∧ ρ 1 = vy ∧ ρ 5 = .slice (some ⟨b1, 0, none⟩) (m + n) (m + n) ∧ ρ 6 = .int .i64 i ∧ ρ 7 = .int .u64 s.2.2 ∧ ρ 8 = .int .i64 s.1 ∧ St w w' [(b1, 99, Kr .u32 (pad B32 s.2.1 (m + n)))]) (fun s => n - s.1) (0, X % B32 ^ i * Y, 0)
      ⟨Nat.zero_le _, hP0, Nat.zero_le _, by simp [Nat.mod_one], h0, h1, h5, h6, rfl, rfl, hS⟩ ?_
    clear hS h0 h1 h5 h6
    rintro ⟨k, q, c⟩ ρ w4 ⟨hk, hq, hc, hinv, h0, h1, h5, h6, h7, h8, hS⟩
    simp only at hk hq hc hinv h0 h1 h5 h6 h7 h8 hS
    repeat (with_reducible first | refine c_seq ?_ | refine c_block ?_ | refine c_skip ?_ | refine x_then ?_ | refine x_block ?_)
    refine c_reg ?_
    refine l_pure rfl (s_move  h8 ?_)
    refine l_pure rfl (s_move  h1 ?_)
    refine l_pure rfl (s_lenr  rfl (hy.below hS.below) ⟨_, Tryz.underlying93⟩ ?_)
    refine l_pure rfl (s_lss  rfl rfl ?_)
    refine l_nil ?_
    repeat (with_reducible first | refine c_seq ?_ | refine c_block ?_ | refine c_skip ?_ | refine x_then ?_ | refine x_block ?_)
    by_cases hlt2 : k < n
    · refine c_yes rfl (decide_eq_true (by omega)) ?_
      repeat (with_reducible first | refine c_seq ?_ | refine c_block ?_ | refine c_skip ?_ | refine x_then ?_ | refine x_block ?_)
      have hkn : k < (limb Y).length := by omega
      have hikm : i + k < m + n := by omega
      have hgq : (pad B32 q (m + n)).getD (i + k) 0 = dgt B32 q (i + k) := pad_getD _ _ hikm
      have x1 := limb_le X i
      have y1 := limb_le Y k
      have q1 := limb_le q (i + k)
      obtain ⟨u1, u2⟩ := mul_lt_two _ _ _ _ x1 y1 q1 hc
      obtain ⟨t, ht⟩ : ∃ t, t = dgt B32 X i * dgt B32 Y k + dgt B32 q (i + k) + c := ⟨_, rfl⟩
      have ht2 : t ≤ 18446744073709551615 := by rw [ht]; exact u2
      repeat (with_reducible first | refine c_seq ?_ | refine c_block ?_ | refine c_skip ?_ | refine x_then ?_ | refine x_block ?_)
      refine c_draw [(0, .pure), (1, .pure), (2, .pure), (3, .pure), (4, .read), (5, .pure), (6, .pure), (7, .pure), (8, .pure), (9, .read), (10, .pure), (11, .pure), (12, .pure), (13, .pure), (14, .pure), (15, .pure), (16, .pure), (17, .pure), (18, .read), (19, .pure), (20, .pure), (21, .pure)] (by kernel_rfl) (by kernel_rfl) hS ?_
      intro wz3 hS hBz3
      refine w_pure rfl rfl (s_move  h7 ?_)
      refine w_pure rfl rfl (s_move  h0 ?_)
      refine w_pure rfl rfl (s_move  h6 ?_)
      refine w_pure rfl rfl (s_ixr (i := i)  rfl rfl (hx.below hS.below) (by omega) (by first | omega | (simp; done) | (simp; omega)) si_93 ?_)
      refine w_read rfl rfl (s_lde (i := i) 0  rfl vi_99 (hx.below hS.below) (by first | omega | (simp; done) | (simp; omega)) rfl rfl (.inr rfl) ?_)
      refine w_pure rfl rfl (s_conv  rfl Tryz.underlying76 ⟨_, Tryz.underlying99⟩ (r := ((dgt B32 X i : Nat) : Int)) (by rw [limb_getD]; exact wr_u64 _ ⟨rfl, by omega, by omega⟩) ?_)
      refine w_pure rfl rfl (s_move  h1 ?_)
      refine w_pure rfl rfl (s_move  h8 ?_)
      refine w_pure rfl rfl (s_ixr (i := k)  rfl rfl (hy.below hS.below) (by omega) (by first | omega | (simp; done) | (simp; omega)) si_93 ?_)
      refine w_read rfl rfl (s_lde (i := k) 0  rfl vi_99 (hy.below hS.below) (by first | omega | (simp; done) | (simp; omega)) rfl rfl (.inr rfl) ?_)
      refine w_pure rfl rfl (s_conv  rfl Tryz.underlying76 ⟨_, Tryz.underlying99⟩ (r := ((dgt B32 Y k : Nat) : Int)) (by rw [limb_getD]; exact wr_u64 _ ⟨rfl, by omega, by omega⟩) ?_)
      refine w_pure rfl rfl (s_mul  rfl rfl (r := ((dgt B32 X i * dgt B32 Y k : Nat) : Int)) (by exact wr_u64 _ ⟨by push_cast; rfl, by omega, by omega⟩) ?_)
      refine w_pure rfl rfl (s_add  rfl rfl (r := ((c + dgt B32 X i * dgt B32 Y k : Nat) : Int)) (by exact wr_u64 _ ⟨by push_cast; rfl, by omega, by omega⟩) ?_)
      refine w_pure rfl rfl (s_move  h5 ?_)
      refine w_pure rfl rfl (s_move  h6 ?_)
      refine w_pure rfl rfl (s_move  h8 ?_)
      refine w_pure rfl rfl (s_add  rfl rfl (IntWalk.i64_in _ (by omega)) ?_)
      refine w_pure rfl rfl (s_ixo (i := i + k)  rfl rfl (by omega) (by first | omega | (simp; done) | (simp; omega)) si_93 ?_)
      refine w_read rfl rfl (s_ldk (k := 0) (i := i + k)  rfl vi_99 hS rfl (by omega) (by first | omega | (simp; done) | (simp; omega)) ?_)
      refine w_pure rfl rfl (s_conv  rfl Tryz.underlying76 ⟨_, Tryz.underlying99⟩ (r := ((dgt B32 q (i + k) : Nat) : Int)) (by rw [hgq]; exact wr_u64 _ ⟨rfl, by omega, by omega⟩) ?_)
      refine w_pure rfl rfl (s_add  rfl rfl (r := ((t : Nat) : Int)) (by rw [ht]; exact wr_u64 _ ⟨by omega, by omega, by omega⟩) ?_)
      refine w_pure rfl rfl (s_asg  rfl ?_)
      refine w_end ?_
      repeat (with_reducible first | refine c_seq ?_ | refine c_block ?_ | refine c_skip ?_ | refine x_then ?_ | refine x_block ?_)
      refine c_reg ?_
      refine l_pure rfl (s_move  h5 ?_)
      refine l_pure rfl (s_move  h6 ?_)
      refine l_pure rfl (s_move  h8 ?_)
      refine l_pure rfl (s_add  rfl rfl (IntWalk.i64_in _ (by omega)) ?_)
      refine l_pure rfl (s_move  rfl ?_)
      refine l_pure rfl (s_conv  rfl Tryz.underlying99 ⟨_, Tryz.underlying76⟩ (u32_mod _) ?_)
      refine l_pure rfl (s_ixo (i := i + k)  rfl rfl (by omega) (by first | omega | (simp; done) | (simp; omega)) si_93 ?_)
      refine l_heavy rfl (s_stk (k := 0) (i := i + k) (a := _)  rfl rfl rfl vi_99 hS rfl (by omega) (by first | omega | (simp; done) | (simp; omega)) ?_)
      intro wz4 hS
      refine l_nil ?_
      repeat (with_reducible first | refine c_seq ?_ | refine c_block ?_ | refine c_skip ?_ | refine x_then ?_ | refine x_block ?_)
      refine c_reg ?_
      refine l_pure rfl (s_move  rfl ?_)
      refine l_pure rfl (s_shr  rfl rfl (by omega) (r := ((t / 4294967296 : Nat) : Int)) (by exact shr_v _ 32 (by decide)) ?_)
      refine l_pure rfl (s_asg  rfl ?_)
      refine l_nil ?_
      repeat (with_reducible first | refine c_seq ?_ | refine c_block ?_ | refine c_skip ?_ | refine x_then ?_ | refine x_block ?_)
      obtain ⟨q', e1, e2, e3⟩ := pad_set (b := B32) (v := q) (k := i + k) (d := t % 4294967296) (n := m + n) (by decide) (Nat.mod_lt _ (by decide)) hikm
      rw [List.set_cons_zero, e1] at hS
      repeat (with_reducible first | refine c_seq ?_ | refine c_block ?_ | refine c_skip ?_ | refine x_then ?_ | refine x_block ?_)
      refine c_reg ?_
      refine l_pure rfl (s_move  h8 ?_)
      refine l_pure rfl (s_add  rfl rfl (IntWalk.i64_in _ (by omega)) ?_)
      refine l_pure rfl (s_asg  rfl ?_)
      refine l_nil ?_
      repeat (with_reducible first | refine c_seq ?_ | refine c_block ?_ | refine c_skip ?_ | refine x_then ?_ | refine x_block ?_)
      refine ⟨(k + 1, q', t / 4294967296), _, rfl, ⟨hlt2, e3 _ (by omega) hq, by simp only; omega, ?_, h0, h1, h5, h6, rfl, vi rfl (by simp), hS⟩, by simp only; omega⟩
      simp only
      have f1 : B32 ^ (i + (k + 1)) * (t / 4294967296) = B32 ^ (i + k) * (B32 * (t / 4294967296)) := by rw [← Nat.add_assoc, Nat.pow_succ, Nat.mul_assoc]
      have f2 : B32 ^ (i + k) * (t % 4294967296) + B32 ^ (i + k) * (B32 * (t / 4294967296)) = B32 ^ (i + k) * t := by rw [← Nat.mul_add]; congr 1; exact Nat.mod_add_div t 4294967296
      have f3 : B32 ^ (i + k) * t = B32 ^ (i + k) * (dgt B32 X i * dgt B32 Y k) + B32 ^ (i + k) * dgt B32 q (i + k) + B32 ^ (i + k) * c := by rw [ht, Nat.mul_add, Nat.mul_add]
      have f4 : B32 ^ i * (dgt B32 X i * (Y % B32 ^ (k + 1))) = B32 ^ i * (dgt B32 X i * (Y % B32 ^ k)) + B32 ^ (i + k) * (dgt B32 X i * dgt B32 Y k) := by
        rw [mod_pow_succ, Nat.mul_add, Nat.mul_add, Nat.pow_add]
        congr 1
        ac_rfl
      omega
    · refine c_no rfl (decide_eq_false (by omega)) ?_
      repeat (with_reducible first | refine c_seq ?_ | refine c_block ?_ | refine c_skip ?_ | refine x_then ?_ | refine x_block ?_)
      refine c_exit ?_
      repeat (with_reducible first | refine x_then_exit ?_ | refine x_block_exit ?_ | refine x_block_pass rfl ?_)
      repeat (with_reducible first | refine c_seq ?_ | refine c_block ?_ | refine c_skip ?_ | refine x_then ?_ | refine x_block ?_)
      obtain rfl : k = n := by omega
      rw [Nat.mod_eq_of_lt hYn] at hinv
      have hikm : i + k < m + k := by omega
      repeat (with_reducible first | refine c_seq ?_ | refine c_block ?_ | refine c_skip ?_ | refine x_then ?_ | refine x_block ?_)
      refine c_reg ?_
      refine l_pure rfl (s_move  h5 ?_)
      refine l_pure rfl (s_move  h6 ?_)
      refine l_pure rfl (s_move  h1 ?_)
      refine l_pure rfl (s_lenr  rfl (hy.below hS.below) ⟨_, Tryz.underlying93⟩ ?_)
      refine l_pure rfl (s_add  rfl rfl (IntWalk.i64_in _ (by omega)) ?_)
      refine l_pure rfl (s_move  h7 ?_)
      refine l_pure rfl (s_conv  rfl Tryz.underlying99 ⟨_, Tryz.underlying76⟩ (r := ((c : Nat) : Int)) (by exact wr_u32 _ (by omega)) ?_)
      refine l_pure rfl (s_ixo (i := i + k)  rfl rfl (by omega) (by first | omega | (simp; done) | (simp; omega)) si_93 ?_)
      refine l_heavy rfl (s_stk (k := 0) (i := i + k) (a := _)  rfl rfl rfl vi_99 hS rfl (by omega) (by first | omega | (simp; done) | (simp; omega)) ?_)
      intro wz5 hS
      refine l_nil ?_
      repeat (with_reducible first | refine c_seq ?_ | refine c_block ?_ | refine c_skip ?_ | refine x_then ?_ | refine x_block ?_)
      obtain ⟨e1, e2⟩ := pad_put (b := B32) (r := q) (i := i + k) (d := c) (n := m + k) (by decide) hq (show _ < 4294967296 by omega)
      have e3 : q + B32 ^ (i + k) * c = X % B32 ^ (i + 1) * Y := by rw [hinv, mod_pow_succ, Nat.add_mul, Nat.mul_assoc]
      rw [List.set_cons_zero, e1, e3] at hS
      repeat (with_reducible first | refine c_seq ?_ | refine c_block ?_ | refine c_skip ?_ | refine x_then ?_ | refine x_block ?_)
      refine c_reg ?_
      refine l_pure rfl (s_move  h6 ?_)
      refine l_pure rfl (s_add  rfl rfl (IntWalk.i64_in _ (by omega)) ?_)
      refine l_pure rfl (s_asg  rfl ?_)
      refine l_nil ?_
      repeat (with_reducible first | refine c_seq ?_ | refine c_block ?_ | refine c_skip ?_ | refine x_then ?_ | refine x_block ?_)
      exact ⟨i + 1, _, rfl, ⟨hlt, h0, h1, h5, vi rfl (by omega), hS⟩, by omega⟩
  · refine c_no rfl (decide_eq_false (by omega)) ?_
    repeat (with_reducible first | refine c_seq ?_ | refine c_block ?_ | refine c_skip ?_ | refine x_then ?_ | refine x_block ?_)
    refine c_exit ?_
    repeat (with_reducible first | refine x_then_exit ?_ | refine x_block_exit ?_ | refine x_block_pass rfl ?_)
    repeat (with_reducible first | refine c_seq ?_ | refine c_block ?_ | refine c_skip ?_ | refine x_then ?_ | refine x_block ?_)
    obtain rfl : i = m := by omega
    rw [Nat.mod_eq_of_lt hXm] at hS
    have hXY : X * Y < B32 ^ (i + n) := by
      rw [Nat.pow_add]
      exact Nat.mul_lt_mul_of_lt_of_le hXm (Nat.le_of_lt hYn) (Nat.pow_pos (by decide))
    have hsl := hS.slk (k := 0) rfl (n := i + n) (cap := i + n) (by simp) (Nat.le_refl _) (by omega)
    rw [List.take_of_length_le (by simp)] at hsl
    repeat (with_reducible first | refine c_seq ?_ | refine c_block ?_ | refine c_skip ?_ | refine x_then ?_ | refine x_block ?_)
    refine c_reg ?_
    refine l_pure rfl (s_move  h5 ?_)
    refine l_heavy rfl (s_call Tryz.call122 rfl (rstrip_ok _ _ _ hsl (pad_lt (by decide) _ _)) ?_)
    rintro _ wq6 ⟨hv, hq6⟩
    replace hq6 := hq6.symm
    subst hq6
    refine l_pure rfl (s_asg  rfl ?_)
    refine l_nil ?_
    repeat (with_reducible first | refine c_seq ?_ | refine c_block ?_ | refine c_skip ?_ | refine x_then ?_ | refine x_block ?_)
    refine c_ret ?_
    repeat (with_reducible first | refine x_then_ret ?_ | refine x_block_ret ?_)
    refine r_one rfl rfl ?_
    rw [ofDigs_pad_lt hXY] at hv
    exact ⟨hv, hS.below⟩

theorem rshort_ok (vx : Value) (X d : Nat) (w : World) (hx : Sl (uk .u32) 1 w vx (limb X)) (hd : 0 < d) (hd2 : d ≤ 4294967295) (hmx : (limb X).length ≤ 17592186044416) :
    Ret Tryz.prog 121 #[vx, .int .u32 d] w fun r w' => (∃ v, r = .tuple #[v, .int .u32 (X % d : Nat)] ∧ Sl (uk .u32) 1 w' v (limb (X / d))) ∧ Below w.heap.size w w' := by
  have hS := St.init w
  obtain ⟨n, hn⟩ : ∃ n, n = (limb X).length := ⟨_, rfl⟩
  have hXn : X < B32 ^ n := hn ▸ limb_lt_pow X
  refine enter Tryz.func121 rfl Tryz.ntmps121 rfl ?_
  repeat (with_reducible first | refine c_seq ?_ | refine c_block ?_ | refine c_skip ?_ | refine x_then ?_ | refine x_block ?_)
  refine c_reg ?_
  refine l_pure rfl (s_asg  rfl ?_)
  refine l_pure rfl (s_asg  rfl ?_)
  refine l_nil ?_
  repeat (with_reducible first | refine c_seq ?_ | refine c_block ?_ | refine c_skip ?_ | refine x_then ?_ | refine x_block ?_)
  refine c_reg ?_
  refine l_pure rfl (s_move  rfl ?_)
  refine l_pure rfl (s_lenr  rfl (hx.below hS.below) ⟨_, Tryz.underlying93⟩ ?_)
  refine l_heavy rfl (s_makek (n := (limb X).length)  rfl rfl si_93 (by omega) (by omega) (by omega) (by omega) hS ?_)
  intro b1 wz2 hS hBz2
  refine l_pure rfl (s_asg  rfl ?_)
  refine l_nil ?_
  repeat (with_reducible first | refine c_seq ?_ | refine c_block ?_ | refine c_skip ?_ | refine x_then ?_ | refine x_block ?_)
  refine c_reg ?_
  refine l_pure rfl (s_asg  rfl ?_)
  refine l_nil ?_
  repeat (with_reducible first | refine c_seq ?_ | refine c_block ?_ | refine c_skip ?_ | refine x_then ?_ | refine x_block ?_)
  refine c_reg ?_
  refine l_pure rfl (s_move  rfl ?_)
  refine l_pure rfl (s_lenr  rfl (hx.below hS.below) ⟨_, Tryz.underlying93⟩ ?_)
  refine l_pure rfl (s_sub  rfl rfl (IntWalk.i64_in _ (by omega)) ?_)
  refine l_pure rfl (s_asg  rfl ?_)
  refine l_nil ?_
  repeat (with_reducible first | refine c_seq ?_ | refine c_block ?_ | refine c_skip ?_ | refine x_then ?_ | refine x_block ?_)
  rw [← hn, ← pad_zero B32 n] at hS
  refine c_loop (σ := Nat × Nat × Nat) (fun s ρ w' => s.1 ≤ n ∧ s.2.2 < d ∧ X / B32 ^ s.1 = s.2.1 * d + s.2.2 ∧ B32 ^ s.1 * s.2.1 < B32 ^ n ∧ ρ 0 = vx ∧ ρ 1 = .int .u32 d ∧ ρ 6 = .slice (some ⟨b1, 0, none⟩) n n ∧ ρ 7 = .int .u64 s.2.2 ∧ ρ 8 = .int .i64 ((s.1 : Int) - 1) ∧ St w w' [(b1, 99, Kr .u32 (pad B32 (B32 ^ s.1 * s.2.1) n))]) (fun s => s.1) (n, 0, 0)
    ⟨Nat.le_refl _, hd, by simp only [Nat.zero_mul]; exact Nat.div_eq_of_lt hXn, by simp only [Nat.mul_zero]; omega, rfl, rfl, by rw [hn]; rfl, rfl, vi rfl (by rw [hn]), hS⟩ ?_
  clear hS
  rintro ⟨i, q, r⟩ ρ w3 ⟨hi, hr, hinv, hq, h0, h1, h6, h7, h8, hS⟩
  simp only at hi hr hinv hq h0 h1 h6 h7 h8 hS
  repeat (with_reducible first | refine c_seq ?_ | refine c_block ?_ | refine c_skip ?_ | refine x_then ?_ | refine x_block ?_)
  refine c_reg ?_
  refine l_pure rfl (s_move  h8 ?_)
  refine l_pure rfl (s_geq  rfl rfl ?_)
  refine l_nil ?_
  repeat (with_reducible first | refine c_seq ?_ | refine c_block ?_ | refine c_skip ?_ | refine x_then ?_ | refine x_block ?_)
  by_cases hlt : 0 < i
  · refine c_yes rfl (decide_eq_true (by omega)) ?_
    repeat (with_reducible first | refine c_seq ?_ | refine c_block ?_ | refine c_skip ?_ | refine x_then ?_ | refine x_block ?_)
    have hil : i - 1 < (limb X).length := by omega
    have x1 := limb_le X (i - 1)
    have hg : (limb X).getD (i - 1) 0 = dgt B32 X (i - 1) := limb_getD X (i - 1)
    have hor : r * 2 ^ 32 ||| dgt B32 X (i - 1) = dgt B32 X (i - 1) + r * 2 ^ 32 := by rw [Nat.or_comm]; exact or_add _ _ _ (by omega)
    repeat (with_reducible first | refine c_seq ?_ | refine c_block ?_ | refine c_skip ?_ | refine x_then ?_ | refine x_block ?_)
    refine c_reg ?_
    refine l_pure rfl (s_move  h7 ?_)
    refine l_pure rfl (s_shl  rfl rfl (by omega) (r := ((r * 2 ^ 32 : Nat) : Int)) (by exact shl_v r 32 _ (by decide) (wr_u64 _ ⟨rfl, by omega, by omega⟩)) ?_)
    refine l_pure rfl (s_move  h0 ?_)
    refine l_pure rfl (s_move  h8 ?_)
    refine l_pure rfl (s_ixr (i := i - 1)  rfl rfl (hx.below hS.below) (by omega) (by first | omega | (simp; done) | (simp; omega)) si_93 ?_)
    refine l_read rfl (s_lde (i := i - 1) 0  rfl vi_99 (hx.below hS.below) (by first | omega | (simp; done) | (simp; omega)) rfl rfl (.inr rfl) ?_)
    refine l_pure rfl (s_conv  rfl Tryz.underlying76 ⟨_, Tryz.underlying99⟩ (r := ((dgt B32 X (i - 1) : Nat) : Int)) (by rw [hg]; exact wr_u64 _ ⟨rfl, by omega, by omega⟩) ?_)
    refine l_pure rfl (s_or  rfl rfl (r := ((dgt B32 X (i - 1) + r * 2 ^ 32 : Nat) : Int)) (by rw [← hor]; exact or_nat rfl _ _ (by show _ < 18446744073709551616; omega) (by show _ < 18446744073709551616; omega)) ?_)
    refine l_pure rfl (s_asg  rfl ?_)
    refine l_nil ?_
    repeat (with_reducible first | refine c_seq ?_ | refine c_block ?_ | refine c_skip ?_ | refine x_then ?_ | refine x_block ?_)
    obtain ⟨t, ht⟩ : ∃ t, t = dgt B32 X (i - 1) + r * 2 ^ 32 := ⟨_, rfl⟩
    rw [← ht]
    have ht1 : t / d ≤ 4294967295 := by
      have : t < d * 4294967296 := by
        have : (r + 1) * 4294967296 ≤ d * 4294967296 := Nat.mul_le_mul_right _ hr
        omega
      have := Nat.div_lt_of_lt_mul this
      omega
    repeat (with_reducible first | refine c_seq ?_ | refine c_block ?_ | refine c_skip ?_ | refine x_then ?_ | refine x_block ?_)
    refine c_reg ?_
    refine l_pure rfl (s_move  h6 ?_)
    refine l_pure rfl (s_move  h8 ?_)
    refine l_pure rfl (s_move  rfl ?_)
    refine l_pure rfl (s_move  h1 ?_)
    refine l_pure rfl (s_conv  rfl Tryz.underlying76 ⟨_, Tryz.underlying99⟩ (r := ((d : Nat) : Int)) (by exact wr_u64 _ ⟨rfl, by omega, by omega⟩) ?_)
    refine l_pure rfl (s_quo  rfl rfl (by omega) (IntWalk.u64_quo _ _ (by omega)) ?_)
    refine l_pure rfl (s_conv  rfl Tryz.underlying99 ⟨_, Tryz.underlying76⟩ (r := ((t / d : Nat) : Int)) (by exact wr_u32 _ ⟨by push_cast; rfl, Int.natCast_nonneg _, by generalize t / d = z at ht1 ⊢; omega⟩) ?_)
    refine l_pure rfl (s_ixo (i := i - 1)  rfl rfl (by omega) (by first | omega | (simp; done) | (simp; omega)) si_93 ?_)
    refine l_heavy rfl (s_stk (k := 0) (i := i - 1) (a := _)  rfl rfl rfl vi_99 hS rfl (by omega) (by first | omega | (simp; done) | (simp; omega)) ?_)
    intro wz3 hS
    refine l_nil ?_
    repeat (with_reducible first | refine c_seq ?_ | refine c_block ?_ | refine c_skip ?_ | refine x_then ?_ | refine x_block ?_)
    refine c_reg ?_
    refine l_pure rfl (s_move  rfl ?_)
    refine l_pure rfl (s_move  h1 ?_)
    refine l_pure rfl (s_conv  rfl Tryz.underlying76 ⟨_, Tryz.underlying99⟩ (r := ((d : Nat) : Int)) (by exact wr_u64 _ ⟨rfl, by omega, by omega⟩) ?_)
    refine l_pure rfl (s_rem  rfl rfl (by omega) (r := ((t % d : Nat) : Int)) (by rw [Int.tmod_eq_emod_of_nonneg (by omega)]; push_cast; rfl) ?_)
    refine l_pure rfl (s_asg  rfl ?_)
    refine l_nil ?_
    repeat (with_reducible first | refine c_seq ?_ | refine c_block ?_ | refine c_skip ?_ | refine x_then ?_ | refine x_block ?_)
    obtain ⟨e1, e2⟩ := pad_set_low (b := B32) (q := q) (i := i) (e := t / d) (n := n) (by decide) (by unfold B32; omega) hlt hi hq
    rw [List.set_cons_zero, e1] at hS
    repeat (with_reducible first | refine c_seq ?_ | refine c_block ?_ | refine c_skip ?_ | refine x_then ?_ | refine x_block ?_)
    refine c_reg ?_
    refine l_pure rfl (s_move  h8 ?_)
    refine l_pure rfl (s_sub  rfl rfl (IntWalk.i64_in _ (by omega)) ?_)
    refine l_pure rfl (s_asg  rfl ?_)
    refine l_nil ?_
    repeat (with_reducible first | refine c_seq ?_ | refine c_block ?_ | refine c_skip ?_ | refine x_then ?_ | refine x_block ?_)
    have hs := div_step B32 X (i - 1)
    rw [show i - 1 + 1 = i by omega, hinv] at hs
    refine ⟨(i - 1, B32 * q + t / d, t % d), _, rfl, ⟨by simp only; omega, Nat.mod_lt _ hd, ?_, e2, h0, h1, h6, rfl, vi rfl (by simp only; omega), hS⟩, by simp only; omega⟩
    simp only
    have h9 := Nat.div_add_mod t d
    have h10 : B32 = 2 ^ 32 := rfl
    rw [hs, Nat.add_mul, Nat.mul_add, Nat.mul_assoc, Nat.add_assoc, Nat.add_assoc, Nat.mul_comm (t / d) d, h9, ht, h10]
    omega
  · refine c_no rfl (decide_eq_false (by omega)) ?_
    repeat (with_reducible first | refine c_seq ?_ | refine c_block ?_ | refine c_skip ?_ | refine x_then ?_ | refine x_block ?_)
    refine c_exit ?_
    repeat (with_reducible first | refine x_then_exit ?_ | refine x_block_exit ?_ | refine x_block_pass rfl ?_)
    repeat (with_reducible first | refine c_seq ?_ | refine c_block ?_ | refine c_skip ?_ | refine x_then ?_ | refine x_block ?_)
    obtain rfl : i = 0 := by omega
    rw [Nat.pow_zero, Nat.div_one] at hinv
    rw [Nat.pow_zero, Nat.one_mul] at hS hq
    have hqd : X / d = q := by rw [hinv, Nat.add_comm, Nat.add_mul_div_right _ _ hd, Nat.div_eq_of_lt hr, Nat.zero_add]
    have hrd : X % d = r := by rw [hinv, Nat.mul_add_mod_self_right, Nat.mod_eq_of_lt hr]
    have hsl := hS.slk (k := 0) rfl (n := n) (cap := n) (by simp) (Nat.le_refl _) (by omega)
    rw [List.take_of_length_le (by simp)] at hsl
    repeat (with_reducible first | refine c_seq ?_ | refine c_block ?_ | refine c_skip ?_ | refine x_then ?_ | refine x_block ?_)
    refine c_reg ?_
    refine l_pure rfl (s_move  h6 ?_)
    refine l_heavy rfl (s_call Tryz.call122 rfl (rstrip_ok _ _ _ hsl (pad_lt (by decide) _ _)) ?_)
    rintro _ wq4 ⟨hv, hq4⟩
    replace hq4 := hq4.symm
    subst hq4
    refine l_pure rfl (s_move  h7 ?_)
    refine l_pure rfl (s_conv  rfl Tryz.underlying99 ⟨_, Tryz.underlying76⟩ (r := ((r : Nat) : Int)) (by exact wr_u32 _ ⟨rfl, by omega, by omega⟩) ?_)
    refine l_pure rfl (s_asg  rfl ?_)
    refine l_pure rfl (s_asg  rfl ?_)
    refine l_nil ?_
    repeat (with_reducible first | refine c_seq ?_ | refine c_block ?_ | refine c_skip ?_ | refine x_then ?_ | refine x_block ?_)
    refine c_ret ?_
    repeat (with_reducible first | refine x_then_ret ?_ | refine x_block_ret ?_)
    refine r_two rfl rfl rfl ?_
    rw [ofDigs_pad_lt hq] at hv
    rw [hqd, hrd]
    exact ⟨⟨_, rfl, hv⟩, hS.below⟩

theorem rshifted_ok (vx : Value) (X c n : Nat) (w : World) (hx : Sl (uk .u32) 1 w vx (limb X)) (hc : c < 32) (hn : (limb X).length + 1 = n) (hmx : n ≤ 17592186044416) :
    Ret Tryz.prog 138 #[vx, .int .u64 c] w fun r w' =>
      (∃ b, r = .slice (some ⟨b, 0, none⟩) n n ∧ w.heap.size ≤ b ∧ w'.heap[b]? = some (.cells (Kr .u32 (pad B32 (X * 2 ^ c) n)).toArray 99 (0, 0))) ∧ Below w.heap.size w w' := by
  have hS := St.init w
  obtain ⟨m, hm⟩ : ∃ m, m = (limb X).length := ⟨_, rfl⟩
  have hXm : X < B32 ^ m := hm ▸ limb_lt_pow X
  have hp2 : 2 ^ c ≤ 2 ^ 31 := Nat.pow_le_pow_right (by decide) (by omega)
  have hpos : 0 < 2 ^ c := Nat.pow_pos (by decide)
  refine enter Tryz.func138 rfl Tryz.ntmps138 rfl ?_
  repeat (with_reducible first | refine c_seq ?_ | refine c_block ?_ | refine c_skip ?_ | refine x_then ?_ | refine x_block ?_)
  refine c_reg ?_
  refine l_pure rfl (s_asg  rfl ?_)
  refine l_nil ?_
  repeat (with_reducible first | refine c_seq ?_ | refine c_block ?_ | refine c_skip ?_ | refine x_then ?_ | refine x_block ?_)
  refine c_reg ?_
  refine l_pure rfl (s_move  rfl ?_)
  refine l_pure rfl (s_lenr  rfl (hx.below hS.below) ⟨_, Tryz.underlying93⟩ ?_)
  refine l_pure rfl (s_add  rfl rfl (IntWalk.i64_in _ (by omega)) ?_)
  refine l_heavy rfl (s_makek (n := n)  rfl rfl si_93 (by omega) (by omega) (by omega) (by omega) hS ?_)
  intro b1 wz2 hS hBz2
  refine l_pure rfl (s_asg  rfl ?_)
  refine l_nil ?_
  repeat (with_reducible first | refine c_seq ?_ | refine c_block ?_ | refine c_skip ?_ | refine x_then ?_ | refine x_block ?_)
  refine c_reg ?_
  refine l_pure rfl (s_asg  rfl ?_)
  refine l_nil ?_
  repeat (with_reducible first | refine c_seq ?_ | refine c_block ?_ | refine c_skip ?_ | refine x_then ?_ | refine x_block ?_)
  rw [← pad_zero B32 n] at hS
  refine c_loop (σ := Nat) (fun i ρ w' => i ≤ m ∧ ρ 0 = vx ∧ ρ 1 = .int .u64 c ∧ ρ 5 = .slice (some ⟨b1, 0, none⟩) n n ∧ ρ 6 = .int .i64 i ∧ St w w' [(b1, 99, Kr .u32 (pad B32 (X % B32 ^ i * 2 ^ c) n))]) (fun i => m - i) 0
    ⟨Nat.zero_le _, rfl, rfl, rfl, rfl, by rw [Nat.pow_zero, Nat.mod_one, Nat.zero_mul]; exact hS⟩ ?_
  clear hS
  rintro i ρ w3 ⟨hi, h0, h1, h5, h6, hS⟩
  repeat (with_reducible first | refine c_seq ?_ | refine c_block ?_ | refine c_skip ?_ | refine x_then ?_ | refine x_block ?_)
  refine c_reg ?_
  refine l_pure rfl (s_move  h6 ?_)
  refine l_pure rfl (s_move  h0 ?_)
  refine l_pure rfl (s_lenr  rfl (hx.below hS.below) ⟨_, Tryz.underlying93⟩ ?_)
  refine l_pure rfl (s_lss  rfl rfl ?_)
  refine l_nil ?_
  repeat (with_reducible first | refine c_seq ?_ | refine c_block ?_ | refine c_skip ?_ | refine x_then ?_ | refine x_block ?_)
  by_cases hlt : i < m
  · refine c_yes rfl (decide_eq_true (by omega)) ?_
    repeat (with_reducible first | refine c_seq ?_ | refine c_block ?_ | refine c_skip ?_ | refine x_then ?_ | refine x_block ?_)
    have hil : i < (limb X).length := by omega
    have x1 := limb_le X i
    obtain ⟨x, hxd⟩ : ∃ x, x = dgt B32 X i := ⟨_, rfl⟩
    rw [← hxd] at x1
    have hx2 : x * 2 ^ c ≤ 4294967295 * 2 ^ 31 := Nat.mul_le_mul x1 hp2
    obtain ⟨V, hV⟩ : ∃ V, V = X % B32 ^ i * 2 ^ c := ⟨_, rfl⟩
    have hVs : X % B32 ^ (i + 1) * 2 ^ c = V + B32 ^ i * (x * 2 ^ c) := by rw [mod_pow_succ, Nat.add_mul, ← hV, Nat.mul_assoc, hxd]
    have hVlt : V < B32 ^ i * 2 ^ c := by rw [hV]; exact Nat.mul_lt_mul_of_pos_right (mod_lt_pow (by decide) X i) hpos
    have hBi : 0 < B32 ^ i := Nat.pow_pos (by decide)
    have hVd : V / B32 ^ i < 2 ^ c := Nat.div_lt_of_lt_mul hVlt
    have hVb : V < B32 ^ (i + 1) := by
      have : B32 ^ i * 2 ^ c ≤ B32 ^ i * B32 := Nat.mul_le_mul_left _ (by unfold B32; omega)
      rw [Nat.pow_succ]; omega
    have hdg : dgt B32 V i = V / B32 ^ i := dgt_top (by decide) hVb
    have hfit := shift_fit (V / B32 ^ i) x c (by omega) hVd
    have hget : (pad B32 V n).getD i 0 = V / B32 ^ i := by rw [pad_getD _ _ (by omega), hdg]
    rw [← hV] at hS
    have hsplit := Nat.div_add_mod (x * 2 ^ c) 4294967296
    have hlow : V + B32 ^ i * ((x * 2 ^ c) % 4294967296) < B32 ^ (i + 1) := by
      have h8 := Nat.div_add_mod V (B32 ^ i)
      have h9 := Nat.mod_lt V hBi
      have h10 : B32 ^ i * (V / B32 ^ i + (x * 2 ^ c) % 4294967296 + 1) ≤ B32 ^ i * B32 := Nat.mul_le_mul_left _ hfit
      rw [Nat.mul_add, Nat.mul_add] at h10
      rw [Nat.pow_succ]; omega
    repeat (with_reducible first | refine c_seq ?_ | refine c_block ?_ | refine c_skip ?_ | refine x_then ?_ | refine x_block ?_)
    refine c_reg ?_
    refine l_pure rfl (s_move  h0 ?_)
    refine l_pure rfl (s_move  h6 ?_)
    refine l_pure rfl (s_ixr (i := i)  rfl rfl (hx.below hS.below) (by omega) (by first | omega | (simp; done) | (simp; omega)) si_93 ?_)
    refine l_read rfl (s_lde (i := i) 0  rfl vi_99 (hx.below hS.below) (by first | omega | (simp; done) | (simp; omega)) rfl rfl (.inr rfl) ?_)
    refine l_pure rfl (s_conv  rfl Tryz.underlying76 ⟨_, Tryz.underlying99⟩ (r := ((x : Nat) : Int)) (by rw [limb_getD, hxd]; exact wr_u64 _ ⟨rfl, by omega, by omega⟩) ?_)
    refine l_pure rfl (s_move  h1 ?_)
    refine l_pure rfl (s_shl  rfl rfl (by omega) (shl_v x c ((x * 2 ^ c : Nat) : Int) (by show c ≤ 64; omega) (wr_u64 _ ⟨rfl, by omega, by omega⟩)) ?_)
    refine l_pure rfl (s_asg  rfl ?_)
    refine l_nil ?_
    repeat (with_reducible first | refine c_seq ?_ | refine c_block ?_ | refine c_skip ?_ | refine x_then ?_ | refine x_block ?_)
    refine c_reg ?_
    refine l_pure rfl (s_move  h5 ?_)
    refine l_pure rfl (s_move  h6 ?_)
    refine l_pure rfl (s_move  h5 ?_)
    refine l_pure rfl (s_move  h6 ?_)
    refine l_pure rfl (s_ixo (i := i)  rfl rfl (by omega) (by first | omega | (simp; done) | (simp; omega)) si_93 ?_)
    refine l_read rfl (s_ldk (k := 0) (i := i)  rfl vi_99 hS rfl (by omega) (by first | omega | (simp; done) | (simp; omega)) ?_)
    refine l_pure rfl (s_move  rfl ?_)
    refine l_pure rfl (s_conv  rfl Tryz.underlying99 ⟨_, Tryz.underlying76⟩ (u32_mod _) ?_)
    refine l_pure rfl (s_or  rfl rfl (r := ((V / B32 ^ i + (x * 2 ^ c) % 4294967296 : Nat) : Int)) (by rw [hget, ← or_shift _ _ _ (by omega) hVd]; exact or_nat rfl _ _ (by show _ < 4294967296; omega) (by show _ < 4294967296; omega)) ?_)
    refine l_pure rfl (s_ixo (i := i)  rfl rfl (by omega) (by first | omega | (simp; done) | (simp; omega)) si_93 ?_)
    refine l_heavy rfl (s_stk (k := 0) (i := i) (a := _)  rfl rfl rfl vi_99 hS rfl (by omega) (by first | omega | (simp; done) | (simp; omega)) ?_)
    intro wz3 hS
    refine l_nil ?_
    repeat (with_reducible first | refine c_seq ?_ | refine c_block ?_ | refine c_skip ?_ | refine x_then ?_ | refine x_block ?_)
    have hset := pad_add (b := B32) (v := V) (n := n) (k := i) (x := (x * 2 ^ c) % 4294967296) (by decide) hVb hlow
    rw [hdg] at hset
    rw [List.set_cons_zero, hset] at hS
    have hnext : V + B32 ^ i * ((x * 2 ^ c) % 4294967296) + B32 ^ (i + 1) * (x * 2 ^ c / 4294967296) = X % B32 ^ (i + 1) * 2 ^ c := by
      have : B32 ^ (i + 1) * (x * 2 ^ c / 4294967296) = B32 ^ i * (4294967296 * (x * 2 ^ c / 4294967296)) := by rw [Nat.pow_succ, Nat.mul_assoc]
      rw [hVs, this, Nat.add_assoc, ← Nat.mul_add]
      congr 2; omega
    have hhi : x * 2 ^ c / 4294967296 < 2147483648 := by omega
    repeat (with_reducible first | refine c_seq ?_ | refine c_block ?_ | refine c_skip ?_ | refine x_then ?_ | refine x_block ?_)
    refine c_reg ?_
    refine l_pure rfl (s_move  h5 ?_)
    refine l_pure rfl (s_move  h6 ?_)
    refine l_pure rfl (s_add  rfl rfl (IntWalk.i64_in _ (by omega)) ?_)
    refine l_pure rfl (s_move  rfl ?_)
    refine l_pure rfl (s_shr  rfl rfl (by omega) (r := ((x * 2 ^ c / 4294967296 : Nat) : Int)) (by exact shr_v _ 32 (by decide)) ?_)
    refine l_pure rfl (s_conv  rfl Tryz.underlying99 ⟨_, Tryz.underlying76⟩ (r := ((x * 2 ^ c / 4294967296 : Nat) : Int)) (by exact wr_u32 _ ⟨rfl, by omega, by omega⟩) ?_)
    refine l_pure rfl (s_ixo (i := i + 1)  rfl rfl (by omega) (by first | omega | (simp; done) | (simp; omega)) si_93 ?_)
    refine l_heavy rfl (s_stk (k := 0) (i := i + 1) (a := _)  rfl rfl rfl vi_99 hS rfl (by omega) (by first | omega | (simp; done) | (simp; omega)) ?_)
    intro wz4 hS
    refine l_nil ?_
    repeat (with_reducible first | refine c_seq ?_ | refine c_block ?_ | refine c_skip ?_ | refine x_then ?_ | refine x_block ?_)
    obtain ⟨e1, e2⟩ := pad_put (b := B32) (r := V + B32 ^ i * ((x * 2 ^ c) % 4294967296)) (i := i + 1) (d := x * 2 ^ c / 4294967296) (n := n) (by decide) hlow (show _ < 4294967296 by omega)
    rw [List.set_cons_zero, e1, hnext] at hS
    repeat (with_reducible first | refine c_seq ?_ | refine c_block ?_ | refine c_skip ?_ | refine x_then ?_ | refine x_block ?_)
    refine c_reg ?_
    refine l_pure rfl (s_move  h6 ?_)
    refine l_pure rfl (s_add  rfl rfl (IntWalk.i64_in _ (by omega)) ?_)
    refine l_pure rfl (s_asg  rfl ?_)
    refine l_nil ?_
    repeat (with_reducible first | refine c_seq ?_ | refine c_block ?_ | refine c_skip ?_ | refine x_then ?_ | refine x_block ?_)
    exact ⟨i + 1, _, rfl, ⟨hlt, h0, h1, h5, vi rfl (by omega), hS⟩, by omega⟩
  · refine c_no rfl (decide_eq_false (by omega)) ?_
    repeat (with_reducible first | refine c_seq ?_ | refine c_block ?_ | refine c_skip ?_ | refine x_then ?_ | refine x_block ?_)
    refine c_exit ?_
    repeat (with_reducible first | refine x_then_exit ?_ | refine x_block_exit ?_ | refine x_block_pass rfl ?_)
    repeat (with_reducible first | refine c_seq ?_ | refine c_block ?_ | refine c_skip ?_ | refine x_then ?_ | refine x_block ?_)
    obtain rfl : i = m := by omega
    rw [Nat.mod_eq_of_lt hXm] at hS
    repeat (with_reducible first | refine c_seq ?_ | refine c_block ?_ | refine c_skip ?_ | refine x_then ?_ | refine x_block ?_)
    refine c_reg ?_
    refine l_pure rfl (s_move  h5 ?_)
    refine l_pure rfl (s_asg  rfl ?_)
    refine l_nil ?_
    repeat (with_reducible first | refine c_seq ?_ | refine c_block ?_ | refine c_skip ?_ | refine x_then ?_ | refine x_block ?_)
    refine c_ret ?_
    repeat (with_reducible first | refine x_then_ret ?_ | refine x_block_ret ?_)
    refine r_one rfl rfl ?_
    exact ⟨⟨b1, rfl, hS.ge (k := 0) rfl, hS.get (k := 0) rfl⟩, hS.below⟩
end Go.Proofs.YtmapmdldlcfjhaaGreatDoor
