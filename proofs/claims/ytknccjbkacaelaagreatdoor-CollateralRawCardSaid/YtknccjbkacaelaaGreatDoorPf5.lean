/-
  Part 5 of the texts that the law's proof is made of: the framework and the walks.
-/
import Derived.Test.YtknccjbkacaelaaGreatDoorPf4
namespace Go.Proofs.YtknccjbkacaelaaGreatDoor
open Go Go.RowKit Go.Sx
theorem rdivide_ok (vx vy : Value) (X Y : Nat) (w : World) (hx : Sl (uk .u32) 1 w vx (limb X)) (hy : Sl (uk .u32) 1 w vy (limb Y)) (hY0 : 0 < Y) (hmx : (limb X).length ≤ 4398046511104) :
    Ret Tryz.prog 109 #[vx, vy] w fun r w' => (∃ q s, r = .tuple #[q, s] ∧ Sl (uk .u32) 1 w' q (limb (X / Y)) ∧ Sl (uk .u32) 1 w' s (limb (X % Y))) ∧ Below w.heap.size w w' := by
  have hB : B32 = 4294967296 := rfl
  have hS := St.init w
  obtain ⟨n, hn⟩ : ∃ n, n = (limb Y).length := ⟨_, rfl⟩
  have hYn : Y < B32 ^ n := hn ▸ limb_lt_pow Y
  obtain ⟨hn0, _⟩ := top_pos hY0
  rw [← hn] at hn0
  refine enter Tryz.func109 rfl Tryz.ntmps109 rfl ?_
  repeat (with_reducible first | refine c_seq ?_ | refine c_block ?_ | refine c_skip ?_ | refine x_then ?_ | refine x_block ?_)
  refine c_reg ?_
  refine l_pure rfl (s_asg  rfl ?_)
  refine l_pure rfl (s_asg  rfl ?_)
  refine l_nil ?_
  repeat (with_reducible first | refine c_seq ?_ | refine c_block ?_ | refine c_skip ?_ | refine x_then ?_ | refine x_block ?_)
  refine c_reg ?_
  refine l_pure rfl (s_move  rfl ?_)
  refine l_pure rfl (s_move  rfl ?_)
  refine l_heavy rfl (s_call Tryz.call90 rfl (rorder_ok _ _ _ _ _ (hx.below hS.below) (hy.below hS.below)) ?_)
  rintro _ wc1 ⟨rfl, hBc1⟩
  replace hS := hS.grow hBc1
  refine l_pure rfl (s_lss  rfl rfl ?_)
  refine l_nil ?_
  repeat (with_reducible first | refine c_seq ?_ | refine c_block ?_ | refine c_skip ?_ | refine x_then ?_ | refine x_block ?_)
  by_cases hlt : X < Y
  · refine c_yes rfl (decide_eq_true (by rw [cmpI_lt hlt]; decide)) ?_
    repeat (with_reducible first | refine c_seq ?_ | refine c_block ?_ | refine c_skip ?_ | refine x_then ?_ | refine x_block ?_)
    refine c_reg ?_
    refine l_pure rfl (s_move  rfl ?_)
    refine l_pure rfl (s_asg  rfl ?_)
    refine l_pure rfl (s_asg  rfl ?_)
    refine l_nil ?_
    repeat (with_reducible first | refine c_seq ?_ | refine c_block ?_ | refine c_skip ?_ | refine x_then ?_ | refine x_block ?_)
    refine c_ret ?_
    repeat (with_reducible first | refine x_then_ret ?_ | refine x_block_ret ?_)
    refine r_two rfl rfl rfl ?_
    refine ⟨⟨_, _, rfl, ?_, ?_⟩, hS.below⟩
    · rw [Nat.div_eq_of_lt hlt, limb, digs_zero]; exact Sl.nil _ _ _
    · rw [Nat.mod_eq_of_lt hlt]; exact hx.below hS.below
  · have hge : Y ≤ X := Nat.le_of_not_lt hlt
    have hcmp : ¬ cmpI X Y < 0 := by
      rcases Nat.lt_or_ge Y X with h | h
      · rw [cmpI_gt h]; decide
      · rw [show X = Y by omega, cmpI_self]; decide
    refine c_no rfl (decide_eq_false hcmp) ?_
    repeat (with_reducible first | refine c_seq ?_ | refine c_block ?_ | refine c_skip ?_ | refine x_then ?_ | refine x_block ?_)
    refine c_reg ?_
    refine l_pure rfl (s_move  rfl ?_)
    refine l_pure rfl (s_lenr  rfl (hy.below hS.below) ⟨_, Tryz.underlying83⟩ ?_)
    refine l_pure rfl (s_eql  rfl rfl ?_)
    refine l_nil ?_
    repeat (with_reducible first | refine c_seq ?_ | refine c_block ?_ | refine c_skip ?_ | refine x_then ?_ | refine x_block ?_)
    by_cases h1 : n = 1
    · refine c_yes rfl (decide_eq_true (by omega)) ?_
      repeat (with_reducible first | refine c_seq ?_ | refine c_block ?_ | refine c_skip ?_ | refine x_then ?_ | refine x_block ?_)
      have hg : (limb Y).getD 0 0 = Y := by
        rw [limb_getD, dgt, Nat.pow_zero, Nat.div_one]
        rw [h1, Nat.pow_one] at hYn
        exact Nat.mod_eq_of_lt hYn
      have hYl : Y ≤ 4294967295 := by rw [h1, Nat.pow_one] at hYn; omega
      repeat (with_reducible first | refine c_seq ?_ | refine c_block ?_ | refine c_skip ?_ | refine x_then ?_ | refine x_block ?_)
      refine c_reg ?_
      refine l_pure rfl (s_move  rfl ?_)
      refine l_pure rfl (s_move  rfl ?_)
      refine l_pure rfl (s_ixr (i := 0)  rfl rfl (hy.below hS.below) (by omega) (by first | omega | (simp; done) | (simp; omega)) si_83 ?_)
      refine l_read rfl (s_lde (i := 0) 0  rfl vi_86 (hy.below hS.below) (by first | omega | (simp; done) | (simp; omega)) rfl rfl (.inr rfl) ?_)
      rw [hg]
      refine l_heavy rfl (s_call Tryz.call122 rfl (rshort_ok _ _ _ _ (hx.below hS.below) hY0 hYl (by omega)) ?_)
      rintro r w2 ⟨⟨q, rfl, hq⟩, hB2⟩
      replace hS := hS.grow hB2
      refine l_pure rfl (s_move  rfl ?_)
      refine l_pure rfl (s_ext  rfl rfl ?_)
      refine l_pure rfl (s_ext  rfl rfl ?_)
      refine l_pure rfl (s_asg  rfl ?_)
      refine l_pure rfl (s_asg  rfl ?_)
      refine l_nil ?_
      repeat (with_reducible first | refine c_seq ?_ | refine c_block ?_ | refine c_skip ?_ | refine x_then ?_ | refine x_block ?_)
      have hml : X % Y ≤ 4294967295 := by have := Nat.mod_lt X hY0; omega
      repeat (with_reducible first | refine c_seq ?_ | refine c_block ?_ | refine c_skip ?_ | refine x_then ?_ | refine x_block ?_)
      refine c_reg ?_
      refine l_pure rfl (s_move  rfl ?_)
      refine l_pure rfl (s_move  rfl ?_)
      refine l_heavy rfl (s_bsl (vs := [_])  rfl si_83 rfl (by decide) (by decide) (by decide) (by simp [Value.cells]) rfl hS ?_)
      intro b2 wz3 hS hBz3
      have hq1 := hq.below hBz3
      have hsl := St.slk (L := [X % Y]) hS (k := 0) rfl (n := 1) (cap := 1) (by simp) (by omega) (by omega)
      refine l_heavy rfl (s_call Tryz.call108 rfl (rstrip_ok _ _ _ hsl (by intro d hd; rw [List.take_of_length_le (by simp)] at hd; rw [List.mem_singleton.1 hd]; omega)) ?_)
      rintro _ wq4 ⟨hv, hq4⟩
      replace hq4 := hq4.symm
      subst hq4
      refine l_pure rfl (s_asg  rfl ?_)
      refine l_pure rfl (s_asg  rfl ?_)
      refine l_nil ?_
      repeat (with_reducible first | refine c_seq ?_ | refine c_block ?_ | refine c_skip ?_ | refine x_then ?_ | refine x_block ?_)
      refine c_ret ?_
      repeat (with_reducible first | refine x_then_ret ?_ | refine x_block_ret ?_)
      refine r_two rfl rfl rfl ?_
      refine ⟨⟨_, _, rfl, hq1, ?_⟩, hS.below⟩
      have e : ofDigs B32 ([X % Y].take 1) = X % Y := by simp [ofDigs]
      rwa [e] at hv
    · refine c_no rfl (decide_eq_false (by omega)) ?_
      repeat (with_reducible first | refine c_seq ?_ | refine c_block ?_ | refine c_skip ?_ | refine x_then ?_ | refine x_block ?_)
      refine c_reg ?_
      refine l_pure rfl (s_move  rfl ?_)
      refine l_pure rfl (s_move  rfl ?_)
      refine l_heavy rfl (s_call Tryz.call123 rfl (rlong_ok _ _ _ _ _ (hx.below hS.below) (hy.below hS.below) hge (by omega) hmx) ?_)
      rintro r w2 ⟨⟨q, s, rfl, hq, hs⟩, hB2⟩
      replace hS := hS.grow hB2
      refine l_pure rfl (s_ext  rfl rfl ?_)
      refine l_pure rfl (s_ext  rfl rfl ?_)
      refine l_pure rfl (s_asg  rfl ?_)
      refine l_pure rfl (s_asg  rfl ?_)
      refine l_nil ?_
      repeat (with_reducible first | refine c_seq ?_ | refine c_block ?_ | refine c_skip ?_ | refine x_then ?_ | refine x_block ?_)
      refine c_ret ?_
      repeat (with_reducible first | refine x_then_ret ?_ | refine x_block_ret ?_)
      refine r_two rfl rfl rfl ?_
      exact ⟨⟨_, _, rfl, hq, hs⟩, hS.below⟩
theorem rcommon_ok (vx vy : Value) (A B : Nat) (w : World) (hx : Sl (uk .u32) 1 w vx (limb A)) (hy : Sl (uk .u32) 1 w vy (limb B)) (hmx : (limb A).length ≤ 4398046511104) (hmy : (limb B).length ≤ 4398046511104) :
    Ret Tryz.prog 107 #[vx, vy] w fun r w' => Sl (uk .u32) 1 w' r (limb (Nat.gcd A B)) ∧ Below w.heap.size w w' := by
  have hS := St.init w
  refine enter Tryz.func107 rfl Tryz.ntmps107 rfl ?_
  repeat (with_reducible first | refine c_seq ?_ | refine c_block ?_ | refine c_skip ?_ | refine x_then ?_ | refine x_block ?_)
  refine c_reg ?_
  refine l_pure rfl (s_asg  rfl ?_)
  refine l_nil ?_
  repeat (with_reducible first | refine c_seq ?_ | refine c_block ?_ | refine c_skip ?_ | refine x_then ?_ | refine x_block ?_)
  refine c_loop (σ := Nat × Nat) (fun s ρ w' => Nat.gcd s.1 s.2 = Nat.gcd A B ∧ (limb s.1).length ≤ 4398046511104 ∧ (limb s.2).length ≤ 4398046511104 ∧ (∃ vx vy, ρ 0 = vx ∧ ρ 1 = vy ∧ Sl (uk .u32) 1 w' vx (limb s.1) ∧ Sl (uk .u32) 1 w' vy (limb s.2)) ∧ St w w' []) (fun s => s.2) (A, B)
    ⟨rfl, hmx, hmy, ⟨_, _, rfl, rfl, hx, hy⟩, hS⟩ ?_
  clear hS hx hy
  rintro ⟨X, Y⟩ ρ w3 ⟨hg, hX, hY, ⟨vx, vy, h0, h1, hx, hy⟩, hS⟩
  simp only at hg hX hY hx hy
  repeat (with_reducible first | refine c_seq ?_ | refine c_block ?_ | refine c_skip ?_ | refine x_then ?_ | refine x_block ?_)
  refine c_reg ?_
  refine l_pure rfl (s_move  h1 ?_)
  refine l_pure rfl (s_lenr  rfl hy ⟨_, Tryz.underlying83⟩ ?_)
  refine l_pure rfl (s_gtr  rfl rfl ?_)
  refine l_nil ?_
  repeat (with_reducible first | refine c_seq ?_ | refine c_block ?_ | refine c_skip ?_ | refine x_then ?_ | refine x_block ?_)
  have hyn : (limb Y).length = 0 ↔ Y = 0 := limb_nil_iff
  by_cases hY0 : Y = 0
  · refine c_no rfl (decide_eq_false (by omega)) ?_
    repeat (with_reducible first | refine c_seq ?_ | refine c_block ?_ | refine c_skip ?_ | refine x_then ?_ | refine x_block ?_)
    refine c_exit ?_
    repeat (with_reducible first | refine x_then_exit ?_ | refine x_block_exit ?_ | refine x_block_pass rfl ?_)
    repeat (with_reducible first | refine c_seq ?_ | refine c_block ?_ | refine c_skip ?_ | refine x_then ?_ | refine x_block ?_)
    refine c_reg ?_
    refine l_pure rfl (s_move  h0 ?_)
    refine l_pure rfl (s_asg  rfl ?_)
    refine l_nil ?_
    repeat (with_reducible first | refine c_seq ?_ | refine c_block ?_ | refine c_skip ?_ | refine x_then ?_ | refine x_block ?_)
    refine c_ret ?_
    repeat (with_reducible first | refine x_then_ret ?_ | refine x_block_ret ?_)
    refine r_one rfl rfl ?_
    rw [hY0, Nat.gcd_zero_right] at hg
    rw [← hg]
    exact ⟨hx, hS.below⟩
  · refine c_yes rfl (decide_eq_true (by omega)) ?_
    repeat (with_reducible first | refine c_seq ?_ | refine c_block ?_ | refine c_skip ?_ | refine x_then ?_ | refine x_block ?_)
    have hlt : X % Y < Y := Nat.mod_lt _ (by omega)
    have hls := limb_len_mono (Nat.le_of_lt hlt)
    repeat (with_reducible first | refine c_seq ?_ | refine c_block ?_ | refine c_skip ?_ | refine x_then ?_ | refine x_block ?_)
    refine c_reg ?_
    refine l_pure rfl (s_move  h0 ?_)
    refine l_pure rfl (s_move  h1 ?_)
    refine l_heavy rfl (s_call Tryz.call109 rfl (rdivide_ok _ _ _ _ _ hx hy (by omega) (by omega)) ?_)
    rintro r w4 ⟨⟨q, s, rfl, hq, hs⟩, hB4⟩
    refine l_pure rfl (s_move  rfl ?_)
    refine l_pure rfl (s_ext  rfl rfl ?_)
    refine l_pure rfl (s_ext  rfl rfl ?_)
    refine l_pure rfl (s_asg  rfl ?_)
    refine l_pure rfl (s_asg  rfl ?_)
    refine l_nil ?_
    repeat (with_reducible first | refine c_seq ?_ | refine c_block ?_ | refine c_skip ?_ | refine x_then ?_ | refine x_block ?_)
    refine c_reg ?_
    refine l_pure rfl (s_move  h1 ?_)
    refine l_pure rfl (s_asg  rfl ?_)
    refine l_nil ?_
    repeat (with_reducible first | refine c_seq ?_ | refine c_block ?_ | refine c_skip ?_ | refine x_then ?_ | refine x_block ?_)
    refine c_reg ?_
    refine l_pure rfl (s_move  rfl ?_)
    refine l_pure rfl (s_asg  rfl ?_)
    refine l_nil ?_
    repeat (with_reducible first | refine c_seq ?_ | refine c_block ?_ | refine c_skip ?_ | refine x_then ?_ | refine x_block ?_)
    refine ⟨(Y, X % Y), _, rfl, ⟨?_, hY, by simp only; omega, ⟨vy, s, rfl, rfl, hy.below hB4, hs⟩, hS.grow hB4⟩, hlt⟩
    simp only
    rw [← hg, Nat.gcd_comm Y, ← Nat.gcd_rec, Nat.gcd_comm]
theorem rGCD_ok (a b : ByteArray) (w : World) (ha : a.size ≤ 4398046511104) (hb : b.size ≤ 4398046511104) :
    Ret Tryz.prog 84 #[.string a, .string b] w fun r w' => r = .string (natS (Nat.gcd (val a) (val b))) ∧ Below w.heap.size w w' := by
  have hla := limb_val_len a
  have hlb := limb_val_len b
  have hS := St.init w
  refine enter Tryz.func84 rfl Tryz.ntmps84 rfl ?_
  repeat (with_reducible first | refine c_seq ?_ | refine c_block ?_ | refine c_skip ?_ | refine x_then ?_ | refine x_block ?_)
  refine c_reg ?_
  refine l_pure rfl (s_asg  rfl ?_)
  refine l_nil ?_
  repeat (with_reducible first | refine c_seq ?_ | refine c_block ?_ | refine c_skip ?_ | refine x_then ?_ | refine x_block ?_)
  refine c_reg ?_
  refine l_pure rfl (s_move  rfl ?_)
  refine l_heavy rfl (s_call Tryz.call87 rfl (rlimbs_ok _ _ (by omega)) ?_)
  rintro vx w1 ⟨hx, hB1⟩
  replace hS := hS.grow hB1
  refine l_pure rfl (s_move  rfl ?_)
  refine l_heavy rfl (s_call Tryz.call87 rfl (rlimbs_ok _ _ (by omega)) ?_)
  rintro vy w2 ⟨hy, hB2⟩
  replace hS := hS.grow hB2
  refine l_heavy rfl (s_call Tryz.call107 rfl (rcommon_ok _ _ _ _ _ (hx.below hB2) hy (by omega) (by omega)) ?_)
  rintro vg w3 ⟨hg, hB3⟩
  replace hS := hS.grow hB3
  have hgl : (limb (Nat.gcd (val a) (val b))).length ≤ 8796093022208 := by
    rcases Nat.eq_zero_or_pos (val a) with h | h
    · rw [h, Nat.gcd_zero_left]; omega
    · have := limb_len_mono (Nat.gcd_le_left (val b) h); omega
  refine l_heavy rfl (s_call Tryz.call103 rfl (rtext_ok _ _ _ hg (limb_lt _) (by omega)) ?_)
  rintro r w4 ⟨rfl, hB4⟩
  replace hS := hS.grow hB4
  refine l_pure rfl (s_asg  rfl ?_)
  refine l_nil ?_
  repeat (with_reducible first | refine c_seq ?_ | refine c_block ?_ | refine c_skip ?_ | refine x_then ?_ | refine x_block ?_)
  refine c_ret ?_
  repeat (with_reducible first | refine x_then_ret ?_ | refine x_block_ret ?_)
  refine r_one rfl rfl ?_
  rw [ofDigs_limb]
  exact ⟨rfl, hS.below⟩
theorem rValid_ok (r : RR) (w : World) (hr : Lr r ≤ MX) :
    Ret Tryz.prog 58 #[aggR r] w fun v w' => v = .bool (decide (Vld r)) ∧ Below w.heap.size w w' := by
  have hM : MX = 1099511627776 := rfl
  have hn := num_size_le r
  have hd := den_size_le r
  have hV := Vld_iff r
  have hS := St.init w
  refine enter Tryz.func58 rfl Tryz.ntmps58 rfl ?_
  repeat (with_reducible first | refine c_seq ?_ | refine c_block ?_ | refine c_skip ?_ | refine x_then ?_ | refine x_block ?_)
  refine c_reg ?_
  refine l_heavy rfl (s_box (new := encR r)  rfl rfl hS ?_)
  intro b1 wz2 hS hBz2
  refine l_pure rfl (s_asg  rfl ?_)
  refine l_nil ?_
  repeat (with_reducible first | refine c_seq ?_ | refine c_block ?_ | refine c_skip ?_ | refine x_then ?_ | refine x_block ?_)
  by_cases h1 : natS (val r.num) = r.num
  · by_cases h2 : natS (val r.den) = r.den
    · by_cases h5 : r.den = ⟨#[1]⟩
      · repeat (with_reducible first | refine c_seq ?_ | refine c_block ?_ | refine c_skip ?_ | refine x_then ?_ | refine x_block ?_)
        refine c_draw [(0, .pure), (1, .read), (3, .pure), (4, .read), (2, .grow), (5, .pure), (6, .pure), (7, .pure), (8, .read), (10, .pure), (11, .read), (9, .grow), (12, .pure), (13, .pure), (14, .pure), (15, .pure), (16, .read), (17, .pure), (18, .pure)] (by kernel_rfl) (by kernel_rfl) hS ?_
        intro wz3 hS hBz3
        refine w_pure rfl rfl (s_fld  rfl fo_29_1 ?_)
        refine w_read rfl rfl (s_ldo (k := 0)  rfl vi_9 hS rfl rfl rfl (.inr rfl) ?_)
        refine w_pure rfl rfl (s_fld  rfl fo_29_1 ?_)
        refine w_read rfl rfl (s_ldo (k := 0)  rfl vi_9 hS rfl rfl rfl (.inr rfl) ?_)
        refine w_grow rfl rfl (s_call Tryz.call83 rfl (rNormalize_ok _ _ (show r.num.size ≤ _ by omega)) ?_)
        rintro _ wq4 ⟨rfl, hq4⟩
        replace hq4 := hq4.symm
        subst hq4
        refine ⟨Below.refl _ _, ?_⟩
        refine w_pure rfl rfl (s_nes  rfl rfl ?_)
        refine w_pure rfl rfl (s_move  rfl ?_)
        refine w_pure rfl (gd_yes 9 (by kernel_rfl) rfl (decide_eq_false (by exact not_not_intro h1))) (s_fld  rfl fo_29_2 ?_)
        refine w_read rfl (gd_yes 9 (by kernel_rfl) rfl (decide_eq_false (by exact not_not_intro h1))) (s_ldo (k := 0)  rfl vi_9 hS rfl rfl rfl (.inr rfl) ?_)
        refine w_pure rfl (gd_yes 9 (by kernel_rfl) rfl (decide_eq_false (by exact not_not_intro h1))) (s_fld  rfl fo_29_2 ?_)
        refine w_read rfl (gd_yes 9 (by kernel_rfl) rfl (decide_eq_false (by exact not_not_intro h1))) (s_ldo (k := 0)  rfl vi_9 hS rfl rfl rfl (.inr rfl) ?_)
        refine w_grow rfl (gd_yes 9 (by kernel_rfl) rfl (decide_eq_false (not_not_intro h1))) (s_call Tryz.call83 rfl (rNormalize_ok _ _ (show r.den.size ≤ _ by omega)) ?_)
        rintro _ wq5 ⟨rfl, hq5⟩
        replace hq5 := hq5.symm
        subst hq5
        refine ⟨Below.refl _ _, ?_⟩
        refine w_pure rfl (gd_yes 9 (by kernel_rfl) rfl (decide_eq_false (by exact not_not_intro h1))) (s_nes  rfl rfl ?_)
        refine w_pure rfl rfl (s_pick (vb rfl (decide_eq_false (by exact not_not_intro h1))) rfl ?_)
        refine w_pure rfl rfl (s_move  rfl ?_)
        refine w_pure rfl (gd_yes 17 (by kernel_rfl) rfl (decide_eq_false (by exact not_not_intro h2))) (s_fld  rfl fo_29_2 ?_)
        refine w_read rfl (gd_yes 17 (by kernel_rfl) rfl (decide_eq_false (by exact not_not_intro h2))) (s_ldo (k := 0)  rfl vi_9 hS rfl rfl rfl (.inr rfl) ?_)
        refine w_pure rfl (gd_yes 17 (by kernel_rfl) rfl (decide_eq_false (by exact not_not_intro h2))) (s_eqs  rfl rfl ?_)
        refine w_pure rfl rfl (s_pick (vb rfl (decide_eq_false (by exact not_not_intro h2))) rfl ?_)
        refine w_end ?_
        repeat (with_reducible first | refine c_seq ?_ | refine c_block ?_ | refine c_skip ?_ | refine x_then ?_ | refine x_block ?_)
        refine c_yes rfl (decide_eq_true h5) ?_
        repeat (with_reducible first | refine c_seq ?_ | refine c_block ?_ | refine c_skip ?_ | refine x_then ?_ | refine x_block ?_)
        refine c_reg ?_
        refine l_pure rfl (s_asg  rfl ?_)
        refine l_nil ?_
        repeat (with_reducible first | refine c_seq ?_ | refine c_block ?_ | refine c_skip ?_ | refine x_then ?_ | refine x_block ?_)
        refine c_ret ?_
        repeat (with_reducible first | refine x_then_ret ?_ | refine x_block_ret ?_)
        refine r_one rfl rfl ?_
        refine ⟨congrArg Value.bool ?_, hS.below⟩
        symm; rw [decide_eq_false_iff_not, hV]
        intro h
        by_cases h3 : r.num = ⟨#[]⟩
        · have := (h.2.2.1 h3).2; rw [h5] at this; cases this
        · exact (h.2.2.2 h3).elim (fun g => by rw [h5] at g; cases g) (fun g => g.1 h5)
      · repeat (with_reducible first | refine c_seq ?_ | refine c_block ?_ | refine c_skip ?_ | refine x_then ?_ | refine x_block ?_)
        refine c_draw [(0, .pure), (1, .read), (3, .pure), (4, .read), (2, .grow), (5, .pure), (6, .pure), (7, .pure), (8, .read), (10, .pure), (11, .read), (9, .grow), (12, .pure), (13, .pure), (14, .pure), (15, .pure), (16, .read), (17, .pure), (18, .pure)] (by kernel_rfl) (by kernel_rfl) hS ?_
        intro wz6 hS hBz6
        refine w_pure rfl rfl (s_fld  rfl fo_29_1 ?_)
        refine w_read rfl rfl (s_ldo (k := 0)  rfl vi_9 hS rfl rfl rfl (.inr rfl) ?_)
        refine w_pure rfl rfl (s_fld  rfl fo_29_1 ?_)
        refine w_read rfl rfl (s_ldo (k := 0)  rfl vi_9 hS rfl rfl rfl (.inr rfl) ?_)
        refine w_grow rfl rfl (s_call Tryz.call83 rfl (rNormalize_ok _ _ (show r.num.size ≤ _ by omega)) ?_)
        rintro _ wq7 ⟨rfl, hq7⟩
        replace hq7 := hq7.symm
        subst hq7
        refine ⟨Below.refl _ _, ?_⟩
        refine w_pure rfl rfl (s_nes  rfl rfl ?_)
        refine w_pure rfl rfl (s_move  rfl ?_)
        refine w_pure rfl (gd_yes 9 (by kernel_rfl) rfl (decide_eq_false (by exact not_not_intro h1))) (s_fld  rfl fo_29_2 ?_)
        refine w_read rfl (gd_yes 9 (by kernel_rfl) rfl (decide_eq_false (by exact not_not_intro h1))) (s_ldo (k := 0)  rfl vi_9 hS rfl rfl rfl (.inr rfl) ?_)
        refine w_pure rfl (gd_yes 9 (by kernel_rfl) rfl (decide_eq_false (by exact not_not_intro h1))) (s_fld  rfl fo_29_2 ?_)
        refine w_read rfl (gd_yes 9 (by kernel_rfl) rfl (decide_eq_false (by exact not_not_intro h1))) (s_ldo (k := 0)  rfl vi_9 hS rfl rfl rfl (.inr rfl) ?_)
        refine w_grow rfl (gd_yes 9 (by kernel_rfl) rfl (decide_eq_false (not_not_intro h1))) (s_call Tryz.call83 rfl (rNormalize_ok _ _ (show r.den.size ≤ _ by omega)) ?_)
        rintro _ wq8 ⟨rfl, hq8⟩
        replace hq8 := hq8.symm
        subst hq8
        refine ⟨Below.refl _ _, ?_⟩
        refine w_pure rfl (gd_yes 9 (by kernel_rfl) rfl (decide_eq_false (by exact not_not_intro h1))) (s_nes  rfl rfl ?_)
        refine w_pure rfl rfl (s_pick (vb rfl (decide_eq_false (by exact not_not_intro h1))) rfl ?_)
        refine w_pure rfl rfl (s_move  rfl ?_)
        refine w_pure rfl (gd_yes 17 (by kernel_rfl) rfl (decide_eq_false (by exact not_not_intro h2))) (s_fld  rfl fo_29_2 ?_)
        refine w_read rfl (gd_yes 17 (by kernel_rfl) rfl (decide_eq_false (by exact not_not_intro h2))) (s_ldo (k := 0)  rfl vi_9 hS rfl rfl rfl (.inr rfl) ?_)
        refine w_pure rfl (gd_yes 17 (by kernel_rfl) rfl (decide_eq_false (by exact not_not_intro h2))) (s_eqs  rfl rfl ?_)
        refine w_pure rfl rfl (s_pick (vb rfl (decide_eq_false (by exact not_not_intro h2))) rfl ?_)
        refine w_end ?_
        repeat (with_reducible first | refine c_seq ?_ | refine c_block ?_ | refine c_skip ?_ | refine x_then ?_ | refine x_block ?_)
        refine c_no rfl (decide_eq_false h5) ?_
        repeat (with_reducible first | refine c_seq ?_ | refine c_block ?_ | refine c_skip ?_ | refine x_then ?_ | refine x_block ?_)
        refine c_reg ?_
        refine l_pure rfl (s_fld  rfl fo_29_1 ?_)
        refine l_read rfl (s_ldo (k := 0)  rfl vi_9 hS rfl rfl rfl (.inr rfl) ?_)
        refine l_pure rfl (s_eqs  rfl rfl ?_)
        refine l_nil ?_
        repeat (with_reducible first | refine c_seq ?_ | refine c_block ?_ | refine c_skip ?_ | refine x_then ?_ | refine x_block ?_)
        by_cases h3 : r.num = ⟨#[]⟩
        · refine c_yes rfl (decide_eq_true h3) ?_
          repeat (with_reducible first | refine c_seq ?_ | refine c_block ?_ | refine c_skip ?_ | refine x_then ?_ | refine x_block ?_)
          by_cases h4 : r.neg = false
          · repeat (with_reducible first | refine c_seq ?_ | refine c_block ?_ | refine c_skip ?_ | refine x_then ?_ | refine x_block ?_)
            refine c_reg ?_
            refine l_pure rfl (s_fld  rfl fo_29_0 ?_)
            refine l_read rfl (s_ldo (k := 0)  rfl vi_4 hS rfl rfl rfl (.inr rfl) ?_)
            refine l_pure rfl (s_not  rfl ?_)
            refine l_pure rfl (s_move  rfl ?_)
            refine l_pure (gd_yes 28 (by kernel_rfl) rfl (by show (!r.neg) = true; rw [h4]; rfl)) (s_fld  rfl fo_29_2 ?_)
            refine l_read (gd_yes 28 (by kernel_rfl) rfl (by show (!r.neg) = true; rw [h4]; rfl)) (s_ldo (k := 0)  rfl vi_9 hS rfl rfl rfl (.inr rfl) ?_)
            refine l_pure (gd_yes 28 (by kernel_rfl) rfl (by show (!r.neg) = true; rw [h4]; rfl)) (s_eqs  rfl rfl ?_)
            refine l_pure rfl (s_pick (vb rfl (by show (!r.neg) = true; rw [h4]; rfl)) rfl ?_)
            refine l_pure rfl (s_asg  rfl ?_)
            refine l_nil ?_
            repeat (with_reducible first | refine c_seq ?_ | refine c_block ?_ | refine c_skip ?_ | refine x_then ?_ | refine x_block ?_)
            refine c_ret ?_
            repeat (with_reducible first | refine x_then_ret ?_ | refine x_block_ret ?_)
            refine r_one rfl rfl ?_
            refine ⟨congrArg Value.bool ?_, hS.below⟩
            rw [decide_eq_decide, hV]
            exact ⟨fun h => ⟨h1, h2, fun _ => ⟨h4, h⟩, fun h => absurd h3 h⟩, fun h => (h.2.2.1 h3).2⟩
          · repeat (with_reducible first | refine c_seq ?_ | refine c_block ?_ | refine c_skip ?_ | refine x_then ?_ | refine x_block ?_)
            refine c_reg ?_
            refine l_pure rfl (s_fld  rfl fo_29_0 ?_)
            refine l_read rfl (s_ldo (k := 0)  rfl vi_4 hS rfl rfl rfl (.inr rfl) ?_)
            refine l_pure rfl (s_not  rfl ?_)
            refine l_pure rfl (s_move  rfl ?_)
            refine l_no (gno_yes 28 (by kernel_rfl) rfl (by show (!r.neg) = false; rw [Bool.not_eq_false] at h4; rw [h4]; rfl)) ?_
            refine l_no (gno_yes 28 (by kernel_rfl) rfl (by show (!r.neg) = false; rw [Bool.not_eq_false] at h4; rw [h4]; rfl)) ?_
            refine l_no (gno_yes 28 (by kernel_rfl) rfl (by show (!r.neg) = false; rw [Bool.not_eq_false] at h4; rw [h4]; rfl)) ?_
            refine l_pure rfl (s_pick (vb rfl (by show (!r.neg) = false; rw [Bool.not_eq_false] at h4; rw [h4]; rfl)) rfl ?_)
            refine l_pure rfl (s_asg  rfl ?_)
            refine l_nil ?_
            repeat (with_reducible first | refine c_seq ?_ | refine c_block ?_ | refine c_skip ?_ | refine x_then ?_ | refine x_block ?_)
            refine c_ret ?_
            repeat (with_reducible first | refine x_then_ret ?_ | refine x_block_ret ?_)
            refine r_one rfl rfl ?_
            refine ⟨congrArg Value.bool ?_, hS.below⟩
            symm; rw [decide_eq_false_iff_not, hV]
            exact fun h => h4 (h.2.2.1 h3).1
        · refine c_no rfl (decide_eq_false h3) ?_
          repeat (with_reducible first | refine c_seq ?_ | refine c_block ?_ | refine c_skip ?_ | refine x_then ?_ | refine x_block ?_)
          by_cases h4 : r.den = ⟨#[]⟩
          · repeat (with_reducible first | refine c_seq ?_ | refine c_block ?_ | refine c_skip ?_ | refine x_then ?_ | refine x_block ?_)
            refine c_reg ?_
            refine l_pure rfl (s_fld  rfl fo_29_2 ?_)
            refine l_read rfl (s_ldo (k := 0)  rfl vi_9 hS rfl rfl rfl (.inr rfl) ?_)
            refine l_pure rfl (s_eqs  rfl rfl ?_)
            refine l_pure rfl (s_move  rfl ?_)
            refine l_no (gno_yes 36 (by kernel_rfl) rfl (decide_eq_true h4)) ?_
            refine l_no (gno_yes 36 (by kernel_rfl) rfl (decide_eq_true h4)) ?_
            refine l_no (gno_yes 36 (by kernel_rfl) rfl (decide_eq_true h4)) ?_
            refine l_no (gno_yes 36 (by kernel_rfl) rfl (decide_eq_true h4)) ?_
            refine l_no (gno_yes 36 (by kernel_rfl) rfl (decide_eq_true h4)) ?_
            refine l_no (gno_yes 36 (by kernel_rfl) rfl (decide_eq_true h4)) ?_
            refine l_pure rfl (s_pick (vb rfl (decide_eq_true h4)) rfl ?_)
            refine l_pure rfl (s_asg  rfl ?_)
            refine l_nil ?_
            repeat (with_reducible first | refine c_seq ?_ | refine c_block ?_ | refine c_skip ?_ | refine x_then ?_ | refine x_block ?_)
            refine c_ret ?_
            repeat (with_reducible first | refine x_then_ret ?_ | refine x_block_ret ?_)
            refine r_one rfl rfl ?_
            refine ⟨congrArg Value.bool ?_, hS.below⟩
            symm; rw [decide_eq_true_iff, hV]
            exact ⟨h1, h2, fun h => absurd h h3, fun _ => .inl h4⟩
          · repeat (with_reducible first | refine c_seq ?_ | refine c_block ?_ | refine c_skip ?_ | refine x_then ?_ | refine x_block ?_)
            refine c_reg ?_
            refine l_pure rfl (s_fld  rfl fo_29_2 ?_)
            refine l_read rfl (s_ldo (k := 0)  rfl vi_9 hS rfl rfl rfl (.inr rfl) ?_)
            refine l_pure rfl (s_eqs  rfl rfl ?_)
            refine l_pure rfl (s_move  rfl ?_)
            refine l_pure (gd_yes 36 (by kernel_rfl) rfl (decide_eq_false h4)) (s_fld  rfl fo_29_1 ?_)
            refine l_read (gd_yes 36 (by kernel_rfl) rfl (decide_eq_false h4)) (s_ldo (k := 0)  rfl vi_9 hS rfl rfl rfl (.inr rfl) ?_)
            refine l_pure (gd_yes 36 (by kernel_rfl) rfl (decide_eq_false h4)) (s_fld  rfl fo_29_2 ?_)
            refine l_read (gd_yes 36 (by kernel_rfl) rfl (decide_eq_false h4)) (s_ldo (k := 0)  rfl vi_9 hS rfl rfl rfl (.inr rfl) ?_)
            refine l_heavy (gd_yes 36 (by kernel_rfl) rfl (decide_eq_false h4)) (s_call Tryz.call84 rfl (rGCD_ok _ _ _ (show r.num.size ≤ _ by omega) (show r.den.size ≤ _ by omega)) ?_)
            rintro _ wc9 ⟨rfl, hBc9⟩
            replace hS := hS.grow hBc9
            refine l_pure (gd_yes 36 (by kernel_rfl) rfl (decide_eq_false h4)) (s_eqs  rfl rfl ?_)
            refine l_pure rfl (s_pick (vb rfl (decide_eq_false h4)) rfl ?_)
            refine l_pure rfl (s_asg  rfl ?_)
            refine l_nil ?_
            repeat (with_reducible first | refine c_seq ?_ | refine c_block ?_ | refine c_skip ?_ | refine x_then ?_ | refine x_block ?_)
            refine c_ret ?_
            repeat (with_reducible first | refine x_then_ret ?_ | refine x_block_ret ?_)
            refine r_one rfl rfl ?_
            refine ⟨congrArg Value.bool ?_, hS.below⟩
            rw [decide_eq_decide, hV, one_eq]
            exact ⟨fun h => ⟨h1, h2, fun h => absurd h h3, fun _ => .inr ⟨h5, h⟩⟩, fun h => (h.2.2.2 h3).elim (fun g => absurd g h4) (fun g => g.2)⟩
    · repeat (with_reducible first | refine c_seq ?_ | refine c_block ?_ | refine c_skip ?_ | refine x_then ?_ | refine x_block ?_)
      refine c_draw [(0, .pure), (1, .read), (3, .pure), (4, .read), (2, .grow), (5, .pure), (6, .pure), (7, .pure), (8, .read), (10, .pure), (11, .read), (9, .grow), (12, .pure), (13, .pure), (14, .pure), (15, .pure), (16, .read), (17, .pure), (18, .pure)] (by kernel_rfl) (by kernel_rfl) hS ?_
      intro wz10 hS hBz10
      refine w_pure rfl rfl (s_fld  rfl fo_29_1 ?_)
      refine w_read rfl rfl (s_ldo (k := 0)  rfl vi_9 hS rfl rfl rfl (.inr rfl) ?_)
      refine w_pure rfl rfl (s_fld  rfl fo_29_1 ?_)
      refine w_read rfl rfl (s_ldo (k := 0)  rfl vi_9 hS rfl rfl rfl (.inr rfl) ?_)
      refine w_grow rfl rfl (s_call Tryz.call83 rfl (rNormalize_ok _ _ (show r.num.size ≤ _ by omega)) ?_)
      rintro _ wq11 ⟨rfl, hq11⟩
      replace hq11 := hq11.symm
      subst hq11
      refine ⟨Below.refl _ _, ?_⟩
      refine w_pure rfl rfl (s_nes  rfl rfl ?_)
      refine w_pure rfl rfl (s_move  rfl ?_)
      refine w_pure rfl (gd_yes 9 (by kernel_rfl) rfl (decide_eq_false (by exact not_not_intro h1))) (s_fld  rfl fo_29_2 ?_)
      refine w_read rfl (gd_yes 9 (by kernel_rfl) rfl (decide_eq_false (by exact not_not_intro h1))) (s_ldo (k := 0)  rfl vi_9 hS rfl rfl rfl (.inr rfl) ?_)
      refine w_pure rfl (gd_yes 9 (by kernel_rfl) rfl (decide_eq_false (by exact not_not_intro h1))) (s_fld  rfl fo_29_2 ?_)
      refine w_read rfl (gd_yes 9 (by kernel_rfl) rfl (decide_eq_false (by exact not_not_intro h1))) (s_ldo (k := 0)  rfl vi_9 hS rfl rfl rfl (.inr rfl) ?_)
      refine w_grow rfl (gd_yes 9 (by kernel_rfl) rfl (decide_eq_false (not_not_intro h1))) (s_call Tryz.call83 rfl (rNormalize_ok _ _ (show r.den.size ≤ _ by omega)) ?_)
      rintro _ wq12 ⟨rfl, hq12⟩
      replace hq12 := hq12.symm
      subst hq12
      refine ⟨Below.refl _ _, ?_⟩
      refine w_pure rfl (gd_yes 9 (by kernel_rfl) rfl (decide_eq_false (by exact not_not_intro h1))) (s_nes  rfl rfl ?_)
      refine w_pure rfl rfl (s_pick (vb rfl (decide_eq_false (by exact not_not_intro h1))) rfl ?_)
      refine w_pure rfl rfl (s_move  rfl ?_)
      refine w_no rfl (gno_yes 17 (by kernel_rfl) rfl (decide_eq_true h2)) ?_
      refine w_no rfl (gno_yes 17 (by kernel_rfl) rfl (decide_eq_true h2)) ?_
      refine w_no rfl (gno_yes 17 (by kernel_rfl) rfl (decide_eq_true h2)) ?_
      refine w_pure rfl rfl (s_pick (vb rfl (decide_eq_true h2)) rfl ?_)
      refine w_end ?_
      repeat (with_reducible first | refine c_seq ?_ | refine c_block ?_ | refine c_skip ?_ | refine x_then ?_ | refine x_block ?_)
      refine c_yes rfl (rfl) ?_
      repeat (with_reducible first | refine c_seq ?_ | refine c_block ?_ | refine c_skip ?_ | refine x_then ?_ | refine x_block ?_)
      refine c_reg ?_
      refine l_pure rfl (s_asg  rfl ?_)
      refine l_nil ?_
      repeat (with_reducible first | refine c_seq ?_ | refine c_block ?_ | refine c_skip ?_ | refine x_then ?_ | refine x_block ?_)
      refine c_ret ?_
      repeat (with_reducible first | refine x_then_ret ?_ | refine x_block_ret ?_)
      refine r_one rfl rfl ?_
      refine ⟨congrArg Value.bool ?_, hS.below⟩
      symm; rw [decide_eq_false_iff_not, hV]
      exact fun h => h2 h.2.1
  · repeat (with_reducible first | refine c_seq ?_ | refine c_block ?_ | refine c_skip ?_ | refine x_then ?_ | refine x_block ?_)
    refine c_draw [(0, .pure), (1, .read), (3, .pure), (4, .read), (2, .grow), (5, .pure), (6, .pure), (7, .pure), (8, .read), (10, .pure), (11, .read), (9, .grow), (12, .pure), (13, .pure), (14, .pure), (15, .pure), (16, .read), (17, .pure), (18, .pure)] (by kernel_rfl) (by kernel_rfl) hS ?_
    intro wz13 hS hBz13
    refine w_pure rfl rfl (s_fld  rfl fo_29_1 ?_)
    refine w_read rfl rfl (s_ldo (k := 0)  rfl vi_9 hS rfl rfl rfl (.inr rfl) ?_)
    refine w_pure rfl rfl (s_fld  rfl fo_29_1 ?_)
    refine w_read rfl rfl (s_ldo (k := 0)  rfl vi_9 hS rfl rfl rfl (.inr rfl) ?_)
    refine w_grow rfl rfl (s_call Tryz.call83 rfl (rNormalize_ok _ _ (show r.num.size ≤ _ by omega)) ?_)
    rintro _ wq14 ⟨rfl, hq14⟩
    replace hq14 := hq14.symm
    subst hq14
    refine ⟨Below.refl _ _, ?_⟩
    refine w_pure rfl rfl (s_nes  rfl rfl ?_)
    refine w_pure rfl rfl (s_move  rfl ?_)
    refine w_no rfl (gno_yes 9 (by kernel_rfl) rfl (decide_eq_true h1)) ?_
    refine w_no rfl (gno_yes 9 (by kernel_rfl) rfl (decide_eq_true h1)) ?_
    refine w_no rfl (gno_yes 9 (by kernel_rfl) rfl (decide_eq_true h1)) ?_
    refine w_no rfl (gno_yes 9 (by kernel_rfl) rfl (decide_eq_true h1)) ?_
    refine w_no rfl (gno_yes 9 (by kernel_rfl) rfl (decide_eq_true h1)) ?_
    refine w_no rfl (gno_yes 9 (by kernel_rfl) rfl (decide_eq_true h1)) ?_
    refine w_pure rfl rfl (s_pick (vb rfl (decide_eq_true h1)) rfl ?_)
    refine w_pure rfl rfl (s_move  rfl ?_)
    refine w_no rfl (gno_yes 17 (by kernel_rfl) rfl rfl) ?_
    refine w_no rfl (gno_yes 17 (by kernel_rfl) rfl rfl) ?_
    refine w_no rfl (gno_yes 17 (by kernel_rfl) rfl rfl) ?_
    refine w_pure rfl rfl (s_pick (vb rfl rfl) rfl ?_)
    refine w_end ?_
    repeat (with_reducible first | refine c_seq ?_ | refine c_block ?_ | refine c_skip ?_ | refine x_then ?_ | refine x_block ?_)
    refine c_yes rfl (rfl) ?_
    repeat (with_reducible first | refine c_seq ?_ | refine c_block ?_ | refine c_skip ?_ | refine x_then ?_ | refine x_block ?_)
    refine c_reg ?_
    refine l_pure rfl (s_asg  rfl ?_)
    refine l_nil ?_
    repeat (with_reducible first | refine c_seq ?_ | refine c_block ?_ | refine c_skip ?_ | refine x_then ?_ | refine x_block ?_)
    refine c_ret ?_
    repeat (with_reducible first | refine x_then_ret ?_ | refine x_block_ret ?_)
    refine r_one rfl rfl ?_
    refine ⟨congrArg Value.bool ?_, hS.below⟩
    symm; rw [decide_eq_false_iff_not, hV]
    exact fun h => h1 h.1
theorem rFix_ok (r : RR) (w : World) (hr : Lr r ≤ MX) :
    Ret Tryz.prog 31 #[aggR r] w fun v w' => v = aggR (fx r) ∧ Below w.heap.size w w' := by
  have hS := St.init w
  refine enter Tryz.func31 rfl Tryz.ntmps31 rfl ?_
  repeat (with_reducible first | refine c_seq ?_ | refine c_block ?_ | refine c_skip ?_ | refine x_then ?_ | refine x_block ?_)
  refine c_reg ?_
  refine l_heavy rfl (s_box (new := encR r)  rfl rfl hS ?_)
  intro b1 wz2 hS hBz2
  refine l_heavy rfl (s_alloc  vi_29 hS ?_)
  intro b3 wz4 hS hBz4
  refine l_nil ?_
  repeat (with_reducible first | refine c_seq ?_ | refine c_block ?_ | refine c_skip ?_ | refine x_then ?_ | refine x_block ?_)
  refine c_reg ?_
  refine l_read rfl (s_ldo (k := 1)  rfl vi_29 hS rfl rfl rfl (.inl rfl) ?_)
  refine l_heavy rfl (s_call Tryz.call58 rfl (rValid_ok r _ hr) ?_)
  rintro _ wc5 ⟨rfl, hBc5⟩
  replace hS := hS.grow hBc5
  refine l_nil ?_
  repeat (with_reducible first | refine c_seq ?_ | refine c_block ?_ | refine c_skip ?_ | refine x_then ?_ | refine x_block ?_)
  by_cases h : Vld r
  · refine c_yes rfl (decide_eq_true h) ?_
    repeat (with_reducible first | refine c_seq ?_ | refine c_block ?_ | refine c_skip ?_ | refine x_then ?_ | refine x_block ?_)
    refine c_reg ?_
    refine l_read rfl (s_ldo (k := 1)  rfl vi_29 hS rfl rfl rfl (.inl rfl) ?_)
    refine l_heavy rfl (s_sta (k := 0)  rfl rfl vi_29 hS rfl rfl rfl (Nat.le_of_ble_eq_true rfl) rfl ?_)
    intro wz6 hS
    refine l_nil ?_
    repeat (with_reducible first | refine c_seq ?_ | refine c_block ?_ | refine c_skip ?_ | refine x_then ?_ | refine x_block ?_)
    refine c_ret ?_
    repeat (with_reducible first | refine x_then_ret ?_ | refine x_block_ret ?_)
    refine r_cell (k := 0) rfl rfl vi_29 hS rfl rfl ?_
    rw [fx_vld h]
    exact ⟨rfl, hS.below⟩
  · refine c_no rfl (decide_eq_false h) ?_
    repeat (with_reducible first | refine c_seq ?_ | refine c_block ?_ | refine c_skip ?_ | refine x_then ?_ | refine x_block ?_)
    refine c_reg ?_
    refine l_pure rfl (s_build  rfl bz_29 ?_)
    refine l_heavy rfl (s_sta (k := 0)  rfl rfl vi_29 hS rfl rfl rfl (Nat.le_of_ble_eq_true rfl) rfl ?_)
    intro wz7 hS
    refine l_nil ?_
    repeat (with_reducible first | refine c_seq ?_ | refine c_block ?_ | refine c_skip ?_ | refine x_then ?_ | refine x_block ?_)
    refine c_ret ?_
    repeat (with_reducible first | refine x_then_ret ?_ | refine x_block_ret ?_)
    refine r_cell (k := 0) rfl rfl vi_29 hS rfl rfl ?_
    rw [fx_bad h]
    exact ⟨rfl, hS.below⟩
end Go.Proofs.YtknccjbkacaelaaGreatDoor
namespace Go.Proofs.YtknccjbkacaelaaGreatDoor
open Go Go.RowKit Go.Sx
theorem limb_len_le_size (n : Nat) : (limb n).length ≤ (natS n).size := by
  have := limb_len_natS n
  omega
theorem limb_one : limb 1 = [1] := by unfold limb; rw [digs_pos (by decide) (by decide), show 1 / B32 = 0 from rfl, digs_zero]; rfl
theorem limb_get0 {g : Nat} (h : ¬ 1 < (limb g).length) (hg : 0 < g) : (limb g).length = 1 ∧ (limb g).getD 0 0 = g := by
  have h1 := (top_pos hg).1
  have h2 : (limb g).length = 1 := by omega
  have h3 := limb_lt_pow g
  rw [h2, Nat.pow_one] at h3
  refine ⟨h2, ?_⟩
  rw [limb_getD, dgt, Nat.pow_zero, Nat.div_one, Nat.mod_eq_of_lt h3]
theorem limb_big_ne {g : Nat} (h : 1 < (limb g).length) : g ≠ 1 := by
  rintro rfl
  rw [limb_one] at h; exact absurd h (by decide)
theorem rden_ok (q : Rat) (w : World) (hL : L q ≤ MX) :
    Ret Tryz.prog 85 #[aggR (ofQ q)] w fun v w' => Sl (uk .u32) 1 w' v (limb q.den) ∧ Below w.heap.size w w' := by
  have hM : MX = 1099511627776 := rfl
  have hS := St.init w
  have hq := den_eq q
  have hd := L_den q
  refine enter Tryz.func85 rfl Tryz.ntmps85 rfl ?_
  repeat (with_reducible first | refine c_seq ?_ | refine c_block ?_ | refine c_skip ?_ | refine x_then ?_ | refine x_block ?_)
  refine c_reg ?_
  refine l_heavy rfl (s_box (new := encR (ofQ q))  rfl rfl hS ?_)
  intro b1 wz2 hS hBz2
  refine l_pure rfl (s_asg  rfl ?_)
  refine l_nil ?_
  repeat (with_reducible first | refine c_seq ?_ | refine c_block ?_ | refine c_skip ?_ | refine x_then ?_ | refine x_block ?_)
  refine c_reg ?_
  refine l_pure rfl (s_fld  rfl fo_29_2 ?_)
  refine l_read rfl (s_ldo (k := 0)  rfl vi_9 hS rfl rfl rfl (.inr rfl) ?_)
  refine l_pure rfl (s_eqs  rfl rfl ?_)
  refine l_nil ?_
  repeat (with_reducible first | refine c_seq ?_ | refine c_block ?_ | refine c_skip ?_ | refine x_then ?_ | refine x_block ?_)
  by_cases h : (ofQ q).den = ⟨#[]⟩
  · refine c_yes rfl (decide_eq_true h) ?_
    repeat (with_reducible first | refine c_seq ?_ | refine c_block ?_ | refine c_skip ?_ | refine x_then ?_ | refine x_block ?_)
    have h1 : q.den = 1 := by
      rw [if_pos h] at hq
      exact (one_eq.1 hq.symm)
    repeat (with_reducible first | refine c_seq ?_ | refine c_block ?_ | refine c_skip ?_ | refine x_then ?_ | refine x_block ?_)
    refine c_reg ?_
    refine l_heavy rfl (s_bsl (vs := [_])  rfl si_83 rfl (by decide) (by decide) (by decide) (by simp [Value.cells]) rfl hS ?_)
    intro b3 wz4 hS hBz4
    refine l_pure rfl (s_asg  rfl ?_)
    refine l_nil ?_
    repeat (with_reducible first | refine c_seq ?_ | refine c_block ?_ | refine c_skip ?_ | refine x_then ?_ | refine x_block ?_)
    have hsl := St.slk (L := [1]) hS (k := 0) rfl (n := 1) (cap := 1) (by simp) (by omega) (by omega)
    refine c_ret ?_
    repeat (with_reducible first | refine x_then_ret ?_ | refine x_block_ret ?_)
    refine r_one rfl rfl ?_
    rw [h1, limb_one]
    exact ⟨hsl, hS.below⟩
  · refine c_no rfl (decide_eq_false h) ?_
    repeat (with_reducible first | refine c_seq ?_ | refine c_block ?_ | refine c_skip ?_ | refine x_then ?_ | refine x_block ?_)
    rw [if_neg h] at hq
    rw [hq]
    repeat (with_reducible first | refine c_seq ?_ | refine c_block ?_ | refine c_skip ?_ | refine x_then ?_ | refine x_block ?_)
    refine c_reg ?_
    refine l_pure rfl (s_fld  rfl fo_29_2 ?_)
    refine l_read rfl (s_ldo (k := 0)  rfl vi_9 hS rfl rfl rfl (.inr rfl) ?_)
    refine l_heavy rfl (s_call Tryz.call87 rfl (rlimbs_ok (ofQ q).den _ (by rw [hq]; omega)) ?_)
    rintro v w3 ⟨hv, hB3⟩
    refine l_pure rfl (s_asg  rfl ?_)
    refine l_nil ?_
    repeat (with_reducible first | refine c_seq ?_ | refine c_block ?_ | refine c_skip ?_ | refine x_then ?_ | refine x_block ?_)
    refine c_ret ?_
    repeat (with_reducible first | refine x_then_ret ?_ | refine x_block_ret ?_)
    refine r_one rfl rfl ?_
    rw [hq, val_natS] at hv
    exact ⟨hv, hS.below.trans (hB3.mono hS.below.size)⟩
theorem built_Rat2 (b : Bool) (s : ByteArray) : Tryz.prog.built 29 [(0, .bool b), (1, .string s)] = some #[.bool b, .string s, .string ⟨#[]⟩] := by kernel_rfl
set_option maxHeartbeats 1000000 in
theorem rreduced_ok (b : Bool) (vn vd : Value) (n d : Nat) (w : World) (hvn : Sl (uk .u32) 1 w vn (limb n)) (hvd : Sl (uk .u32) 1 w vd (limb d)) (hn : (limb n).length ≤ 4398046511104) (hd : (limb d).length ≤ 4398046511104) (h0 : d ≠ 0) :
    Ret Tryz.prog 88 #[.bool b, vn, vd] w fun v w' => v = aggR (ofQ (mkRat (sg b n) d)) ∧ Below w.heap.size w w' := by
  have hS := St.init w
  refine enter Tryz.func88 rfl Tryz.ntmps88 rfl ?_
  repeat (with_reducible first | refine c_seq ?_ | refine c_block ?_ | refine c_skip ?_ | refine x_then ?_ | refine x_block ?_)
  refine c_reg ?_
  refine l_heavy rfl (s_alloc  vi_29 hS ?_)
  intro b1 wz2 hS hBz2
  refine l_nil ?_
  repeat (with_reducible first | refine c_seq ?_ | refine c_block ?_ | refine c_skip ?_ | refine x_then ?_ | refine x_block ?_)
  refine c_reg ?_
  refine l_pure rfl (s_move  rfl ?_)
  refine l_pure rfl (s_lenr  rfl (hvn.below hS.below) ⟨_, Tryz.underlying83⟩ ?_)
  refine l_pure rfl (s_eql  rfl rfl ?_)
  refine l_nil ?_
  repeat (with_reducible first | refine c_seq ?_ | refine c_block ?_ | refine c_skip ?_ | refine x_then ?_ | refine x_block ?_)
  have hzn : (limb n).length = 0 ↔ n = 0 := limb_nil_iff
  by_cases hz : n = 0
  · refine c_yes rfl (decide_eq_true (by omega)) ?_
    repeat (with_reducible first | refine c_seq ?_ | refine c_block ?_ | refine c_skip ?_ | refine x_then ?_ | refine x_block ?_)
    refine c_reg ?_
    refine l_pure rfl (s_build  rfl bz_29 ?_)
    refine l_heavy rfl (s_sta (k := 0)  rfl rfl vi_29 hS rfl rfl rfl (Nat.le_of_ble_eq_true rfl) rfl ?_)
    intro wz3 hS
    refine l_nil ?_
    repeat (with_reducible first | refine c_seq ?_ | refine c_block ?_ | refine c_skip ?_ | refine x_then ?_ | refine x_block ?_)
    refine c_ret ?_
    repeat (with_reducible first | refine x_then_ret ?_ | refine x_block_ret ?_)
    refine r_cell (k := 0) rfl rfl vi_29 hS rfl rfl ?_
    refine ⟨?_, hS.below⟩
    have : mkRat (sg b 0) d = 0 := by cases b <;> simp [sg]
    rw [hz, this, ofQ_zero]; rfl
  · refine c_no rfl (decide_eq_false (by omega)) ?_
    repeat (with_reducible first | refine c_seq ?_ | refine c_block ?_ | refine c_skip ?_ | refine x_then ?_ | refine x_block ?_)
    obtain ⟨g, hg⟩ : ∃ g, g = Nat.gcd n d := ⟨_, rfl⟩
    have hgp : 0 < g := by rw [hg]; exact Nat.gcd_pos_of_pos_right _ (by omega)
    have hgn : g ≤ n := by rw [hg]; exact Nat.gcd_le_left _ (by omega)
    have hgd : g ≤ d := by rw [hg]; exact Nat.gcd_le_right _ (by omega)
    have hgl := limb_len_mono hgn
    repeat (with_reducible first | refine c_seq ?_ | refine c_block ?_ | refine c_skip ?_ | refine x_then ?_ | refine x_block ?_)
    refine c_reg ?_
    refine l_pure rfl (s_move  rfl ?_)
    refine l_pure rfl (s_move  rfl ?_)
    refine l_heavy rfl (s_call Tryz.call107 rfl (rcommon_ok _ _ n d _ (hvn.below hS.below) (hvd.below hS.below) (by omega) (by omega)) ?_)
    rintro vg w2 ⟨hvg, hB2⟩
    replace hS := hS.grow hB2
    rw [← hg] at hvg
    refine l_pure rfl (s_asg  rfl ?_)
    refine l_nil ?_
    repeat (with_reducible first | refine c_seq ?_ | refine c_block ?_ | refine c_skip ?_ | refine x_then ?_ | refine x_block ?_)
    refine c_cut1 (fun ρ w' => ρ 0 = .bool b ∧ ρ 1 = vn ∧ ρ 2 = vd ∧ ρ 6 = .pointer (some ⟨b1, 0, none⟩) ∧ ρ 7 = vg ∧ ρ 24 = .bool (decide (g ≠ 1)) ∧ w2 = w') ?_ ?_
    · by_cases hl1 : 1 < (limb g).length
      · repeat (with_reducible first | refine c_seq ?_ | refine c_block ?_ | refine c_skip ?_ | refine x_then ?_ | refine x_block ?_)
        refine c_reg ?_
        refine l_pure rfl (s_move  rfl ?_)
        refine l_pure rfl (s_lenr  rfl hvg ⟨_, Tryz.underlying83⟩ ?_)
        refine l_pure rfl (s_gtr  rfl rfl ?_)
        refine l_pure rfl (s_move  rfl ?_)
        refine l_no (gno_yes 19 (by kernel_rfl) rfl (decide_eq_true (by omega))) ?_
        refine l_no (gno_yes 19 (by kernel_rfl) rfl (decide_eq_true (by omega))) ?_
        refine l_no (gno_yes 19 (by kernel_rfl) rfl (decide_eq_true (by omega))) ?_
        refine l_no (gno_yes 19 (by kernel_rfl) rfl (decide_eq_true (by omega))) ?_
        refine l_pure rfl (s_pick (vb rfl (decide_eq_true (by omega))) rfl ?_)
        refine l_nil ?_
        repeat (with_reducible first | refine c_seq ?_ | refine c_block ?_ | refine c_skip ?_ | refine x_then ?_ | refine x_block ?_)
        exact ⟨_, rfl, rfl, rfl, rfl, rfl, rfl, vb rfl (decide_eq_true (limb_big_ne hl1)).symm, rfl⟩
      · have hl2 := limb_get0 hl1 hgp
        repeat (with_reducible first | refine c_seq ?_ | refine c_block ?_ | refine c_skip ?_ | refine x_then ?_ | refine x_block ?_)
        refine c_reg ?_
        refine l_pure rfl (s_move  rfl ?_)
        refine l_pure rfl (s_lenr  rfl hvg ⟨_, Tryz.underlying83⟩ ?_)
        refine l_pure rfl (s_gtr  rfl rfl ?_)
        refine l_pure rfl (s_move  rfl ?_)
        refine l_pure (gd_yes 19 (by kernel_rfl) rfl (decide_eq_false (by omega))) (s_move  rfl ?_)
        refine l_pure (gd_yes 19 (by kernel_rfl) rfl (decide_eq_false (by omega))) (s_ixr (i := 0)  rfl rfl hvg (by omega) (by first | omega | (simp; done) | (simp; omega)) si_83 ?_)
        refine l_read (gd_yes 19 (by kernel_rfl) rfl (decide_eq_false (by omega))) (s_lde (i := 0) 0  rfl vi_86 hvg (by first | omega | (simp; done) | (simp; omega)) rfl rfl (.inr rfl) ?_)
        refine l_pure (gd_yes 19 (by kernel_rfl) rfl (decide_eq_false (by omega))) (s_gtr  rfl rfl ?_)
        refine l_pure rfl (s_pick (vb rfl (decide_eq_false (by omega))) rfl ?_)
        refine l_nil ?_
        repeat (with_reducible first | refine c_seq ?_ | refine c_block ?_ | refine c_skip ?_ | refine x_then ?_ | refine x_block ?_)
        exact ⟨_, rfl, rfl, rfl, rfl, rfl, rfl, vb rfl (by rw [hl2.2, decide_eq_decide]; omega), rfl⟩
    rintro ρ w' ⟨k0, k1, k2, k6, k7, k24, rfl⟩
    repeat (with_reducible first | refine c_seq ?_ | refine c_block ?_ | refine c_skip ?_ | refine x_then ?_ | refine x_block ?_)
    refine c_cut1 (fun ρ w' => ∃ (n' d' : Nat) (v1 v2 : Value), 0 < n' ∧ d' ≠ 0 ∧ Nat.gcd n' d' = 1 ∧ mkRat (sg b n) d = mkRat (sg b n') d' ∧ (limb n').length ≤ 4398046511104 ∧ (limb d').length ≤ 4398046511104 ∧ ρ 0 = .bool b ∧ ρ 1 = v1 ∧ ρ 2 = v2 ∧ ρ 6 = .pointer (some ⟨b1, 0, none⟩) ∧
      Sl (uk .u32) 1 w' v1 (limb n') ∧ Sl (uk .u32) 1 w' v2 (limb d') ∧ St w w' [(b1, 29, encR ⟨false, ⟨#[]⟩, ⟨#[]⟩⟩)]) ?_ ?_
    · repeat (with_reducible first | refine c_seq ?_ | refine c_block ?_ | refine c_skip ?_ | refine x_then ?_ | refine x_block ?_)
      by_cases hg1 : g = 1
      · refine c_no k24 (decide_eq_false (not_not_intro hg1)) ?_
        repeat (with_reducible first | refine c_seq ?_ | refine c_block ?_ | refine c_skip ?_ | refine x_then ?_ | refine x_block ?_)
        exact ⟨_, rfl, n, d, _, _, by omega, h0, by rw [← hg, hg1], rfl, by omega, by omega, k0, k1, k2, k6, hvn.below hS.below, hvd.below hS.below, hS⟩
      · refine c_yes k24 (decide_eq_true hg1) ?_
        repeat (with_reducible first | refine c_seq ?_ | refine c_block ?_ | refine c_skip ?_ | refine x_then ?_ | refine x_block ?_)
        have hnp : 0 < n / g := Nat.div_pos hgn hgp
        have hdp : 0 < d / g := Nat.div_pos hgd hgp
        have hln := limb_len_mono (Nat.div_le_self n g)
        have hld := limb_len_mono (Nat.div_le_self d g)
        repeat (with_reducible first | refine c_seq ?_ | refine c_block ?_ | refine c_skip ?_ | refine x_then ?_ | refine x_block ?_)
        refine c_reg ?_
        refine l_pure rfl (s_move  k1 ?_)
        refine l_pure rfl (s_move  k7 ?_)
        refine l_heavy rfl (s_call Tryz.call109 rfl (rdivide_ok _ _ n g _ (hvn.below hS.below) hvg hgp (by omega)) ?_)
        rintro r w3 ⟨⟨q1, s1, rfl, hq1, _⟩, hB3⟩
        replace hS := hS.grow hB3
        refine l_pure rfl (s_move  rfl ?_)
        refine l_pure rfl (s_ext  rfl rfl ?_)
        refine l_pure rfl (s_ext  rfl rfl ?_)
        refine l_pure rfl (s_asg  rfl ?_)
        refine l_nil ?_
        repeat (with_reducible first | refine c_seq ?_ | refine c_block ?_ | refine c_skip ?_ | refine x_then ?_ | refine x_block ?_)
        refine c_reg ?_
        refine l_pure rfl (s_move  k2 ?_)
        refine l_pure rfl (s_move  k7 ?_)
        refine l_heavy rfl (s_call Tryz.call109 rfl (rdivide_ok _ _ d g _ (hvd.below hS.below) (hvg.below hB3) hgp (by omega)) ?_)
        rintro r w4 ⟨⟨q2, s2, rfl, hq2, _⟩, hB4⟩
        replace hS := hS.grow hB4
        refine l_pure rfl (s_move  rfl ?_)
        refine l_pure rfl (s_ext  rfl rfl ?_)
        refine l_pure rfl (s_ext  rfl rfl ?_)
        refine l_pure rfl (s_asg  rfl ?_)
        refine l_nil ?_
        repeat (with_reducible first | refine c_seq ?_ | refine c_block ?_ | refine c_skip ?_ | refine x_then ?_ | refine x_block ?_)
        exact ⟨_, rfl, n / g, d / g, q1, q2, hnp, by omega, by rw [hg, Nat.gcd_div (Nat.gcd_dvd_left _ _) (Nat.gcd_dvd_right _ _), ← hg, Nat.div_self hgp], mkRat_red h0 hg, by omega, by omega, k0, rfl, rfl, k6, hq1.below hB4, hq2, hS⟩
    clear k0 k1 k2 k6 k7 k24
    clear hS hvn hvd
    rintro ρ w' ⟨n', d', v1, v2, hn', hd', hc, he, hln', hld', k0, k1, k2, k6, hvn, hvd, hS⟩
    rw [he, ofQ_mk hn' hd' hc]
    repeat (with_reducible first | refine c_seq ?_ | refine c_block ?_ | refine c_skip ?_ | refine x_then ?_ | refine x_block ?_)
    refine c_reg ?_
    refine l_pure rfl (s_move  k0 ?_)
    refine l_pure rfl (s_move  k1 ?_)
    refine l_heavy rfl (s_call Tryz.call103 rfl (rtext_ok _ _ _ hvn (limb_lt _) (by omega)) ?_)
    rintro r w5 ⟨rfl, hB5⟩
    replace hS := hS.grow hB5
    rw [ofDigs_limb]
    have hvd5 := hvd.below hB5
    have hS0 := hS
    replace hS := St.init w5
    refine l_pure rfl (s_build  rfl (built_Rat2 _ _) ?_)
    refine l_heavy rfl (s_alloc  vi_29 hS ?_)
    intro b4 wz5 hS hBz5
    refine l_heavy rfl (s_sta (k := 0)  rfl rfl vi_29 hS rfl rfl rfl (Nat.le_of_ble_eq_true rfl) rfl ?_)
    intro wz6 hS
    refine l_nil ?_
    repeat (with_reducible first | refine c_seq ?_ | refine c_block ?_ | refine c_skip ?_ | refine x_then ?_ | refine x_block ?_)
    replace hS : St w5 _ [(_, 29, encR ⟨b, natS n', ⟨#[]⟩⟩)] := hS
    repeat (with_reducible first | refine c_seq ?_ | refine c_block ?_ | refine c_skip ?_ | refine x_then ?_ | refine x_block ?_)
    refine c_cut1 (fun ρ w' => ρ 2 = v2 ∧ ρ 6 = .pointer (some ⟨b1, 0, none⟩) ∧ ρ 8 = .pointer (some ⟨b4, 0, none⟩) ∧ ρ 49 = .bool (decide (d' ≠ 1)) ∧ wz6 = w') ?_ ?_
    · by_cases hl1 : 1 < (limb d').length
      · repeat (with_reducible first | refine c_seq ?_ | refine c_block ?_ | refine c_skip ?_ | refine x_then ?_ | refine x_block ?_)
        refine c_reg ?_
        refine l_pure rfl (s_move  k2 ?_)
        refine l_pure rfl (s_lenr  rfl (hvd5.below hS.below) ⟨_, Tryz.underlying83⟩ ?_)
        refine l_pure rfl (s_gtr  rfl rfl ?_)
        refine l_pure rfl (s_move  rfl ?_)
        refine l_no (gno_yes 44 (by kernel_rfl) rfl (decide_eq_true (by omega))) ?_
        refine l_no (gno_yes 44 (by kernel_rfl) rfl (decide_eq_true (by omega))) ?_
        refine l_no (gno_yes 44 (by kernel_rfl) rfl (decide_eq_true (by omega))) ?_
        refine l_no (gno_yes 44 (by kernel_rfl) rfl (decide_eq_true (by omega))) ?_
        refine l_pure rfl (s_pick (vb rfl (decide_eq_true (by omega))) rfl ?_)
        refine l_nil ?_
        repeat (with_reducible first | refine c_seq ?_ | refine c_block ?_ | refine c_skip ?_ | refine x_then ?_ | refine x_block ?_)
        exact ⟨_, rfl, k2, k6, rfl, vb rfl (decide_eq_true (limb_big_ne hl1)).symm, rfl⟩
      · have hl2 := limb_get0 hl1 (by omega)
        repeat (with_reducible first | refine c_seq ?_ | refine c_block ?_ | refine c_skip ?_ | refine x_then ?_ | refine x_block ?_)
        refine c_reg ?_
        refine l_pure rfl (s_move  k2 ?_)
        refine l_pure rfl (s_lenr  rfl (hvd5.below hS.below) ⟨_, Tryz.underlying83⟩ ?_)
        refine l_pure rfl (s_gtr  rfl rfl ?_)
        refine l_pure rfl (s_move  rfl ?_)
        refine l_pure (gd_yes 44 (by kernel_rfl) rfl (decide_eq_false (by omega))) (s_move  k2 ?_)
        refine l_pure (gd_yes 44 (by kernel_rfl) rfl (decide_eq_false (by omega))) (s_ixr (i := 0)  rfl rfl (hvd5.below hS.below) (by omega) (by first | omega | (simp; done) | (simp; omega)) si_83 ?_)
        refine l_read (gd_yes 44 (by kernel_rfl) rfl (decide_eq_false (by omega))) (s_lde (i := 0) 0  rfl vi_86 (hvd5.below hS.below) (by first | omega | (simp; done) | (simp; omega)) rfl rfl (.inr rfl) ?_)
        refine l_pure (gd_yes 44 (by kernel_rfl) rfl (decide_eq_false (by omega))) (s_gtr  rfl rfl ?_)
        refine l_pure rfl (s_pick (vb rfl (decide_eq_false (by omega))) rfl ?_)
        refine l_nil ?_
        repeat (with_reducible first | refine c_seq ?_ | refine c_block ?_ | refine c_skip ?_ | refine x_then ?_ | refine x_block ?_)
        exact ⟨_, rfl, k2, k6, rfl, vb rfl (by rw [hl2.2, decide_eq_decide]; omega), rfl⟩
    clear k0 k1 k2 k6
    rintro ρ w' ⟨k2, k6, k8, k49, rfl⟩
    repeat (with_reducible first | refine c_seq ?_ | refine c_block ?_ | refine c_skip ?_ | refine x_then ?_ | refine x_block ?_)
    refine c_cut1 (fun ρ w' => ∃ b8, ρ 6 = .pointer (some ⟨b1, 0, none⟩) ∧ ρ 8 = .pointer (some ⟨b8, 0, none⟩) ∧ St w w' [(b8, 29, encR ⟨b, natS n', if d' = 1 then ⟨#[]⟩ else natS d'⟩), (b1, 29, encR ⟨false, ⟨#[]⟩, ⟨#[]⟩⟩)]) ?_ ?_
    · repeat (with_reducible first | refine c_seq ?_ | refine c_block ?_ | refine c_skip ?_ | refine x_then ?_ | refine x_block ?_)
      by_cases hd1 : d' = 1
      · refine c_no k49 (decide_eq_false (not_not_intro hd1)) ?_
        repeat (with_reducible first | refine c_seq ?_ | refine c_block ?_ | refine c_skip ?_ | refine x_then ?_ | refine x_block ?_)
        exact ⟨_, rfl, _, k6, k8, by rw [if_pos hd1]; exact hS0.join hS⟩
      · refine c_yes k49 (decide_eq_true hd1) ?_
        repeat (with_reducible first | refine c_seq ?_ | refine c_block ?_ | refine c_skip ?_ | refine x_then ?_ | refine x_block ?_)
        refine c_reg ?_
        refine l_pure rfl (s_move  k2 ?_)
        refine l_heavy rfl (s_call Tryz.call103 rfl (rtext_ok _ _ _ (hvd5.below hS.below) (limb_lt _) (by omega)) ?_)
        rintro r w6 ⟨rfl, hB6⟩
        replace hS := hS.grow hB6
        rw [ofDigs_limb]
        refine l_pure rfl (s_fld  k8 fo_29_2 ?_)
        refine l_heavy rfl (s_stc (k := 0)  rfl rfl vi_9 hS rfl (Nat.le_of_ble_eq_true rfl) rfl ?_)
        intro wz7 hS
        refine l_nil ?_
        repeat (with_reducible first | refine c_seq ?_ | refine c_block ?_ | refine c_skip ?_ | refine x_then ?_ | refine x_block ?_)
        exact ⟨_, rfl, _, k6, k8, by rw [if_neg hd1]; exact hS0.join hS⟩
    clear hS hS0 hvd5 hvn hvd
    rintro ρ w' ⟨b8, k6, k8, hS⟩
    repeat (with_reducible first | refine c_seq ?_ | refine c_block ?_ | refine c_skip ?_ | refine x_then ?_ | refine x_block ?_)
    refine c_reg ?_
    refine l_read rfl (s_ldo (k := 0)  k8 vi_29 hS rfl rfl rfl (.inl rfl) ?_)
    refine l_heavy rfl (s_sta (k := 1)  k6 rfl vi_29 hS rfl rfl rfl (Nat.le_of_ble_eq_true rfl) rfl ?_)
    intro wz8 hS
    refine l_nil ?_
    repeat (with_reducible first | refine c_seq ?_ | refine c_block ?_ | refine c_skip ?_ | refine x_then ?_ | refine x_block ?_)
    refine c_ret ?_
    repeat (with_reducible first | refine x_then_ret ?_ | refine x_block_ret ?_)
    refine r_cell (k := 1) rfl k6 vi_29 hS rfl rfl ?_
    exact ⟨rfl, hS.below⟩
end Go.Proofs.YtknccjbkacaelaaGreatDoor
namespace Go.Proofs.YtknccjbkacaelaaGreatDoor
open Go Go.RowKit Go.Sx
set_option maxHeartbeats 1000000 in
theorem rPlus_ok (p q : Rat) (w : World) (hL : L p + L q ≤ MX) :
    Ret Tryz.prog 59 #[aggR (ofQ p), aggR (ofQ q)] w fun v w' => v = aggR (ofQ (p + q)) ∧ Below w.heap.size w w' := by
  have hM : MX = 1099511627776 := rfl
  have hn1 := L_num p
  have hn2 := L_num q
  have hd1 := L_den p
  have hd2 := L_den q
  have hm1 := natS_size_mul p.num.natAbs q.den
  have hm2 := natS_size_mul q.num.natAbs p.den
  have hm3 := natS_size_mul p.den q.den
  have l1 := limb_len_le_size p.num.natAbs
  have l2 := limb_len_le_size q.num.natAbs
  have l3 := limb_len_le_size p.den
  have l4 := limb_len_le_size q.den
  have l5 := limb_len_le_size (p.num.natAbs * q.den)
  have l6 := limb_len_le_size (q.num.natAbs * p.den)
  have l7 := limb_len_le_size (p.den * q.den)
  have l8 := limb_len_le_size (p.num.natAbs * q.den + q.num.natAbs * p.den)
  have hsum := natS_size_add (p.num.natAbs * q.den) (q.num.natAbs * p.den)
  have hS := St.init w
  refine enter Tryz.func59 rfl Tryz.ntmps59 rfl ?_
  repeat (with_reducible first | refine c_seq ?_ | refine c_block ?_ | refine c_skip ?_ | refine x_then ?_ | refine x_block ?_)
  refine c_reg ?_
  refine l_heavy rfl (s_box (new := encR (ofQ p))  rfl rfl hS ?_)
  intro b1 wz2 hS hBz2
  refine l_heavy rfl (s_box (new := encR (ofQ q))  rfl rfl hS ?_)
  intro b3 wz4 hS hBz4
  refine l_heavy rfl (s_alloc  vi_29 hS ?_)
  intro b5 wz6 hS hBz6
  refine l_nil ?_
  repeat (with_reducible first | refine c_seq ?_ | refine c_block ?_ | refine c_skip ?_ | refine x_then ?_ | refine x_block ?_)
  refine c_reg ?_
  refine l_pure rfl (s_fld  rfl fo_29_1 ?_)
  refine l_read rfl (s_ldo (k := 2)  rfl vi_9 hS rfl rfl rfl (.inr rfl) ?_)
  refine l_pure rfl (s_eqs  rfl rfl ?_)
  refine l_nil ?_
  repeat (with_reducible first | refine c_seq ?_ | refine c_block ?_ | refine c_skip ?_ | refine x_then ?_ | refine x_block ?_)
  by_cases hp0 : p = 0
  · refine c_yes rfl (decide_eq_true (ofQ_num_nil.2 hp0)) ?_
    repeat (with_reducible first | refine c_seq ?_ | refine c_block ?_ | refine c_skip ?_ | refine x_then ?_ | refine x_block ?_)
    refine c_reg ?_
    refine l_read rfl (s_ldo (k := 1)  rfl vi_29 hS rfl rfl rfl (.inl rfl) ?_)
    refine l_heavy rfl (s_sta (k := 0)  rfl rfl vi_29 hS rfl rfl rfl (Nat.le_of_ble_eq_true rfl) rfl ?_)
    intro wz7 hS
    refine l_nil ?_
    repeat (with_reducible first | refine c_seq ?_ | refine c_block ?_ | refine c_skip ?_ | refine x_then ?_ | refine x_block ?_)
    refine c_ret ?_
    repeat (with_reducible first | refine x_then_ret ?_ | refine x_block_ret ?_)
    refine r_cell (k := 0) rfl rfl vi_29 hS rfl rfl ?_
    rw [hp0, Rat.zero_add]
    exact ⟨rfl, hS.below⟩
  · refine c_no rfl (decide_eq_false (fun g => hp0 (ofQ_num_nil.1 g))) ?_
    repeat (with_reducible first | refine c_seq ?_ | refine c_block ?_ | refine c_skip ?_ | refine x_then ?_ | refine x_block ?_)
    refine c_reg ?_
    refine l_pure rfl (s_fld  rfl fo_29_1 ?_)
    refine l_read rfl (s_ldo (k := 1)  rfl vi_9 hS rfl rfl rfl (.inr rfl) ?_)
    refine l_pure rfl (s_eqs  rfl rfl ?_)
    refine l_nil ?_
    repeat (with_reducible first | refine c_seq ?_ | refine c_block ?_ | refine c_skip ?_ | refine x_then ?_ | refine x_block ?_)
    by_cases hq0 : q = 0
    · refine c_yes rfl (decide_eq_true (ofQ_num_nil.2 hq0)) ?_
      repeat (with_reducible first | refine c_seq ?_ | refine c_block ?_ | refine c_skip ?_ | refine x_then ?_ | refine x_block ?_)
      refine c_reg ?_
      refine l_read rfl (s_ldo (k := 2)  rfl vi_29 hS rfl rfl rfl (.inl rfl) ?_)
      refine l_heavy rfl (s_sta (k := 0)  rfl rfl vi_29 hS rfl rfl rfl (Nat.le_of_ble_eq_true rfl) rfl ?_)
      intro wz8 hS
      refine l_nil ?_
      repeat (with_reducible first | refine c_seq ?_ | refine c_block ?_ | refine c_skip ?_ | refine x_then ?_ | refine x_block ?_)
      refine c_ret ?_
      repeat (with_reducible first | refine x_then_ret ?_ | refine x_block_ret ?_)
      refine r_cell (k := 0) rfl rfl vi_29 hS rfl rfl ?_
      rw [hq0, Rat.add_zero]
      exact ⟨rfl, hS.below⟩
    · refine c_no rfl (decide_eq_false (fun g => hq0 (ofQ_num_nil.1 g))) ?_
      repeat (with_reducible first | refine c_seq ?_ | refine c_block ?_ | refine c_skip ?_ | refine x_then ?_ | refine x_block ?_)
      have hlp := fun w => rlimbs_ok (natS p.num.natAbs) w (by omega)
      have hlq := fun w => rlimbs_ok (natS q.num.natAbs) w (by omega)
      rw [val_natS] at hlp hlq
      have hS0 := hS
      repeat (with_reducible first | refine c_seq ?_ | refine c_block ?_ | refine c_skip ?_ | refine x_then ?_ | refine x_block ?_)
      refine c_reg ?_
      refine l_read rfl (s_ldo (k := 2)  rfl vi_29 hS rfl rfl rfl (.inl rfl) ?_)
      refine l_heavy rfl (s_call Tryz.call85 rfl (rden_ok p _ (by omega)) ?_)
      rintro vp w3 ⟨hvp, hB3⟩
      replace hS := hS.grow hB3
      refine l_pure rfl (s_asg  rfl ?_)
      refine l_nil ?_
      repeat (with_reducible first | refine c_seq ?_ | refine c_block ?_ | refine c_skip ?_ | refine x_then ?_ | refine x_block ?_)
      refine c_reg ?_
      refine l_read rfl (s_ldo (k := 1)  rfl vi_29 hS rfl rfl rfl (.inl rfl) ?_)
      refine l_heavy rfl (s_call Tryz.call85 rfl (rden_ok q _ (by omega)) ?_)
      rintro vq w4 ⟨hvq, hB4⟩
      replace hS := hS.grow hB4
      refine l_pure rfl (s_asg  rfl ?_)
      refine l_nil ?_
      repeat (with_reducible first | refine c_seq ?_ | refine c_block ?_ | refine c_skip ?_ | refine x_then ?_ | refine x_block ?_)
      replace hvp := hvp.below hB4
      repeat (with_reducible first | refine c_seq ?_ | refine c_block ?_ | refine c_skip ?_ | refine x_then ?_ | refine x_block ?_)
      refine c_reg ?_
      refine l_pure rfl (s_fld  rfl fo_29_1 ?_)
      refine l_read rfl (s_ldo (k := 2)  rfl vi_9 hS rfl rfl rfl (.inr rfl) ?_)
      refine l_heavy rfl (s_call Tryz.call87 rfl (hlp _) ?_)
      rintro vx w5 ⟨hvx, hB5⟩
      replace hS := hS.grow hB5
      refine l_pure rfl (s_move  rfl ?_)
      replace hvp := hvp.below hB5
      replace hvq := hvq.below hB5
      refine l_heavy rfl (s_call Tryz.call86 rfl (rtimes_ok _ _ _ _ _ hvx hvq (by omega) (by omega)) ?_)
      rintro vX w6 ⟨hvX, hB6⟩
      replace hS := hS.grow hB6
      refine l_pure rfl (s_asg  rfl ?_)
      refine l_nil ?_
      repeat (with_reducible first | refine c_seq ?_ | refine c_block ?_ | refine c_skip ?_ | refine x_then ?_ | refine x_block ?_)
      replace hvp := hvp.below hB6
      replace hvq := hvq.below hB6
      repeat (with_reducible first | refine c_seq ?_ | refine c_block ?_ | refine c_skip ?_ | refine x_then ?_ | refine x_block ?_)
      refine c_reg ?_
      refine l_pure rfl (s_fld  rfl fo_29_1 ?_)
      refine l_read rfl (s_ldo (k := 1)  rfl vi_9 hS rfl rfl rfl (.inr rfl) ?_)
      refine l_heavy rfl (s_call Tryz.call87 rfl (hlq _) ?_)
      rintro vy w7 ⟨hvy, hB7⟩
      replace hS := hS.grow hB7
      refine l_pure rfl (s_move  rfl ?_)
      replace hvp := hvp.below hB7
      replace hvq := hvq.below hB7
      replace hvX := hvX.below hB7
      refine l_heavy rfl (s_call Tryz.call86 rfl (rtimes_ok _ _ _ _ _ hvy hvp (by omega) (by omega)) ?_)
      rintro vY w8 ⟨hvY, hB8⟩
      replace hS := hS.grow hB8
      refine l_pure rfl (s_asg  rfl ?_)
      refine l_nil ?_
      repeat (with_reducible first | refine c_seq ?_ | refine c_block ?_ | refine c_skip ?_ | refine x_then ?_ | refine x_block ?_)
      replace hvp := hvp.below hB8
      replace hvq := hvq.below hB8
      replace hvX := hvX.below hB8
      repeat (with_reducible first | refine c_seq ?_ | refine c_block ?_ | refine c_skip ?_ | refine x_then ?_ | refine x_block ?_)
      refine c_reg ?_
      refine l_pure rfl (s_move  rfl ?_)
      refine l_pure rfl (s_move  rfl ?_)
      refine l_heavy rfl (s_call Tryz.call86 rfl (rtimes_ok _ _ _ _ _ hvp hvq (by omega) (by omega)) ?_)
      rintro vD w9 ⟨hvD, hB9⟩
      replace hS := hS.grow hB9
      refine l_pure rfl (s_asg  rfl ?_)
      refine l_nil ?_
      repeat (with_reducible first | refine c_seq ?_ | refine c_block ?_ | refine c_skip ?_ | refine x_then ?_ | refine x_block ?_)
      replace hvX := hvX.below hB9
      replace hvY := hvY.below hB9
      clear hvp hvq hvx hvy hlp hlq hS0
      have hD0 : p.den * q.den ≠ 0 := Nat.mul_ne_zero p.den_nz q.den_nz
      have hXY := mkRat_add_same (sg (decide (p.num < 0)) (p.num.natAbs * q.den)) (sg (decide (q.num < 0)) (q.num.natAbs * p.den)) hD0
      rw [mkRat_sg_mul p q.den_nz, Nat.mul_comm p.den, mkRat_sg_mul q p.den_nz, Nat.mul_comm q.den] at hXY
      rw [hXY]
      obtain ⟨X, hX⟩ : ∃ X, X = p.num.natAbs * q.den := ⟨_, rfl⟩
      obtain ⟨Y, hY⟩ : ∃ Y, Y = q.num.natAbs * p.den := ⟨_, rfl⟩
      obtain ⟨D, hDe⟩ : ∃ D, D = p.den * q.den := ⟨_, rfl⟩
      rw [← hX] at hvX l5 l8 hm1 hsum ⊢
      rw [← hY] at hvY l6 l8 hm2 hsum ⊢
      rw [← hDe] at hvD l7 hm3 hD0 ⊢
      clear hX hY hDe hXY l1 l2 l3 l4
      repeat (with_reducible first | refine c_seq ?_ | refine c_block ?_ | refine c_skip ?_ | refine x_then ?_ | refine x_block ?_)
      refine c_reg ?_
      refine l_pure rfl (s_fld  rfl fo_29_0 ?_)
      refine l_read rfl (s_ldo (k := 2)  rfl vi_4 hS rfl rfl rfl (.inr rfl) ?_)
      refine l_pure rfl (s_fld  rfl fo_29_0 ?_)
      refine l_read rfl (s_ldo (k := 1)  rfl vi_4 hS rfl rfl rfl (.inr rfl) ?_)
      refine l_pure rfl (s_eqb  rfl rfl Tryz.underlying4 ?_)
      refine l_nil ?_
      repeat (with_reducible first | refine c_seq ?_ | refine c_block ?_ | refine c_skip ?_ | refine x_then ?_ | refine x_block ?_)
      by_cases hneg : decide (p.num < 0) = decide (q.num < 0)
      · have hb : (decide (p.num < 0) == decide (q.num < 0)) = true := by rw [hneg]; exact beq_self_eq_true _
        refine c_yes rfl (hb) ?_
        repeat (with_reducible first | refine c_seq ?_ | refine c_block ?_ | refine c_skip ?_ | refine x_then ?_ | refine x_block ?_)
        refine c_draw [(0, .pure), (1, .read), (2, .pure), (3, .pure), (5, .pure), (4, .grow), (6, .grow), (7, .free)] (by kernel_rfl) (by kernel_rfl) hS ?_
        intro wz9 hS hBz9
        refine w_pure rfl rfl (s_fld  rfl fo_29_0 ?_)
        refine w_read rfl rfl (s_ldo (k := 2)  rfl vi_4 hS rfl rfl rfl (.inr rfl) ?_)
        refine w_pure rfl rfl (s_move  rfl ?_)
        refine w_pure rfl rfl (s_move  rfl ?_)
        refine w_pure rfl rfl (s_move  rfl ?_)
        have hBd := hBz9
        refine w_grow rfl rfl (s_call Tryz.call89 rfl (rplus_ok _ _ _ _ _ (hvX.below hBd) (hvY.below hBd) (by omega) (by omega)) ?_)
        rintro v wp ⟨hv, hBp⟩
        refine ⟨hBp, ?_⟩
        replace hS := hS.grow hBp
        refine w_grow rfl rfl (s_call Tryz.call88 rfl (rreduced_ok _ _ _ _ _ _ hv (hvD.below (bt hBd hBp)) (by omega) (by omega) hD0) ?_)
        rintro _ wc10 ⟨rfl, hBc10⟩
        replace hS := hS.grow hBc10
        refine ⟨hBc10, ?_⟩
        refine w_free rfl rfl (s_sta (k := 0)  rfl rfl vi_29 hS rfl rfl rfl (Nat.le_of_ble_eq_true rfl) rfl ?_)
        intro wz11 hS
        refine w_end ?_
        repeat (with_reducible first | refine c_seq ?_ | refine c_block ?_ | refine c_skip ?_ | refine x_then ?_ | refine x_block ?_)
        refine c_ret ?_
        repeat (with_reducible first | refine x_then_ret ?_ | refine x_block_ret ?_)
        refine r_cell (k := 0) rfl rfl vi_29 hS rfl rfl ?_
        rw [← hneg, sg_add]
        exact ⟨rfl, hS.below⟩
      · have hb : (decide (p.num < 0) == decide (q.num < 0)) = false := by rw [beq_eq_false_iff_ne]; exact hneg
        refine c_no rfl (hb) ?_
        repeat (with_reducible first | refine c_seq ?_ | refine c_block ?_ | refine c_skip ?_ | refine x_then ?_ | refine x_block ?_)
        refine c_reg ?_
        refine l_pure rfl (s_move  rfl ?_)
        refine l_pure rfl (s_move  rfl ?_)
        refine l_heavy rfl (s_call Tryz.call90 rfl (rorder_ok _ _ _ _ _ hvX hvY) ?_)
        rintro _ wc12 ⟨rfl, hBc12⟩
        replace hS := hS.grow hBc12
        refine l_pure rfl (s_lss  rfl rfl ?_)
        refine l_nil ?_
        repeat (with_reducible first | refine c_seq ?_ | refine c_block ?_ | refine c_skip ?_ | refine x_then ?_ | refine x_block ?_)
        by_cases hlt : X < Y
        · refine c_yes rfl (decide_eq_true (by rw [cmpI_lt hlt]; decide)) ?_
          repeat (with_reducible first | refine c_seq ?_ | refine c_block ?_ | refine c_skip ?_ | refine x_then ?_ | refine x_block ?_)
          have l8 := limb_len_mono (Nat.sub_le Y X)
          repeat (with_reducible first | refine c_seq ?_ | refine c_block ?_ | refine c_skip ?_ | refine x_then ?_ | refine x_block ?_)
          refine c_draw [(0, .pure), (1, .read), (2, .pure), (3, .pure), (5, .pure), (4, .grow), (6, .grow), (7, .free)] (by kernel_rfl) (by kernel_rfl) hS ?_
          intro wz13 hS hBz13
          refine w_pure rfl rfl (s_fld  rfl fo_29_0 ?_)
          refine w_read rfl rfl (s_ldo (k := 1)  rfl vi_4 hS rfl rfl rfl (.inr rfl) ?_)
          refine w_pure rfl rfl (s_move  rfl ?_)
          refine w_pure rfl rfl (s_move  rfl ?_)
          refine w_pure rfl rfl (s_move  rfl ?_)
          have hBd := (bt hBc12 hBz13)
          refine w_grow rfl rfl (s_call Tryz.call91 rfl (rminus_ok _ _ _ _ _ (hvY.below hBd) (hvX.below hBd) (by omega) (by omega)) ?_)
          rintro v wp ⟨hv, hBp⟩
          refine ⟨hBp, ?_⟩
          replace hS := hS.grow hBp
          refine w_grow rfl rfl (s_call Tryz.call88 rfl (rreduced_ok _ _ _ _ _ _ hv (hvD.below (bt hBd hBp)) (by omega) (by omega) hD0) ?_)
          rintro _ wc14 ⟨rfl, hBc14⟩
          replace hS := hS.grow hBc14
          refine ⟨hBc14, ?_⟩
          refine w_free rfl rfl (s_sta (k := 0)  rfl rfl vi_29 hS rfl rfl rfl (Nat.le_of_ble_eq_true rfl) rfl ?_)
          intro wz15 hS
          refine w_end ?_
          repeat (with_reducible first | refine c_seq ?_ | refine c_block ?_ | refine c_skip ?_ | refine x_then ?_ | refine x_block ?_)
          refine c_ret ?_
          repeat (with_reducible first | refine x_then_ret ?_ | refine x_block_ret ?_)
          refine r_cell (k := 0) rfl rfl vi_29 hS rfl rfl ?_
          rw [sg_sub' hneg (by omega)]
          exact ⟨rfl, hS.below⟩
        · have hcmp : ¬ cmpI X Y < 0 := by
            rcases Nat.lt_or_ge Y X with h | h
            · rw [cmpI_gt h]; decide
            · rw [show X = Y by omega, cmpI_self]; decide
          refine c_no rfl (decide_eq_false hcmp) ?_
          repeat (with_reducible first | refine c_seq ?_ | refine c_block ?_ | refine c_skip ?_ | refine x_then ?_ | refine x_block ?_)
          have l8 := limb_len_mono (Nat.sub_le X Y)
          repeat (with_reducible first | refine c_seq ?_ | refine c_block ?_ | refine c_skip ?_ | refine x_then ?_ | refine x_block ?_)
          refine c_draw [(0, .pure), (1, .read), (2, .pure), (3, .pure), (5, .pure), (4, .grow), (6, .grow), (7, .free)] (by kernel_rfl) (by kernel_rfl) hS ?_
          intro wz16 hS hBz16
          refine w_pure rfl rfl (s_fld  rfl fo_29_0 ?_)
          refine w_read rfl rfl (s_ldo (k := 2)  rfl vi_4 hS rfl rfl rfl (.inr rfl) ?_)
          refine w_pure rfl rfl (s_move  rfl ?_)
          refine w_pure rfl rfl (s_move  rfl ?_)
          refine w_pure rfl rfl (s_move  rfl ?_)
          have hBd := (bt hBc12 hBz16)
          refine w_grow rfl rfl (s_call Tryz.call91 rfl (rminus_ok _ _ _ _ _ (hvX.below hBd) (hvY.below hBd) (by omega) (by omega)) ?_)
          rintro v wp ⟨hv, hBp⟩
          refine ⟨hBp, ?_⟩
          replace hS := hS.grow hBp
          refine w_grow rfl rfl (s_call Tryz.call88 rfl (rreduced_ok _ _ _ _ _ _ hv (hvD.below (bt hBd hBp)) (by omega) (by omega) hD0) ?_)
          rintro _ wc17 ⟨rfl, hBc17⟩
          replace hS := hS.grow hBc17
          refine ⟨hBc17, ?_⟩
          refine w_free rfl rfl (s_sta (k := 0)  rfl rfl vi_29 hS rfl rfl rfl (Nat.le_of_ble_eq_true rfl) rfl ?_)
          intro wz18 hS
          refine w_end ?_
          repeat (with_reducible first | refine c_seq ?_ | refine c_block ?_ | refine c_skip ?_ | refine x_then ?_ | refine x_block ?_)
          refine c_ret ?_
          repeat (with_reducible first | refine x_then_ret ?_ | refine x_block_ret ?_)
          refine r_cell (k := 0) rfl rfl vi_29 hS rfl rfl ?_
          rw [sg_sub hneg (by omega)]
          exact ⟨rfl, hS.below⟩
theorem rOpposite_ok (q : Rat) (w : World) :
    Ret Tryz.prog 60 #[aggR (ofQ q)] w fun v w' => v = aggR (ofQ (-q)) ∧ Below w.heap.size w w' := by
  have hS := St.init w
  have he := ofQ_neg_eq q
  refine enter Tryz.func60 rfl Tryz.ntmps60 rfl ?_
  repeat (with_reducible first | refine c_seq ?_ | refine c_block ?_ | refine c_skip ?_ | refine x_then ?_ | refine x_block ?_)
  refine c_reg ?_
  refine l_heavy rfl (s_box (new := encR (ofQ q))  rfl rfl hS ?_)
  intro b1 wz2 hS hBz2
  refine l_heavy rfl (s_alloc  vi_29 hS ?_)
  intro b3 wz4 hS hBz4
  refine l_nil ?_
  repeat (with_reducible first | refine c_seq ?_ | refine c_block ?_ | refine c_skip ?_ | refine x_then ?_ | refine x_block ?_)
  refine c_reg ?_
  refine l_pure rfl (s_fld  rfl fo_29_1 ?_)
  refine l_read rfl (s_ldo (k := 1)  rfl vi_9 hS rfl rfl rfl (.inr rfl) ?_)
  refine l_pure rfl (s_nes  rfl rfl ?_)
  refine l_nil ?_
  repeat (with_reducible first | refine c_seq ?_ | refine c_block ?_ | refine c_skip ?_ | refine x_then ?_ | refine x_block ?_)
  by_cases h0 : q = 0
  · refine c_no rfl (decide_eq_false (not_not_intro (ofQ_num_nil.2 h0))) ?_
    repeat (with_reducible first | refine c_seq ?_ | refine c_block ?_ | refine c_skip ?_ | refine x_then ?_ | refine x_block ?_)
    refine c_reg ?_
    refine l_read rfl (s_ldo (k := 1)  rfl vi_29 hS rfl rfl rfl (.inl rfl) ?_)
    refine l_heavy rfl (s_sta (k := 0)  rfl rfl vi_29 hS rfl rfl rfl (Nat.le_of_ble_eq_true rfl) rfl ?_)
    intro wz5 hS
    refine l_nil ?_
    repeat (with_reducible first | refine c_seq ?_ | refine c_block ?_ | refine c_skip ?_ | refine x_then ?_ | refine x_block ?_)
    refine c_ret ?_
    repeat (with_reducible first | refine x_then_ret ?_ | refine x_block_ret ?_)
    refine r_cell (k := 0) rfl rfl vi_29 hS rfl rfl ?_
    rw [h0, Rat.neg_zero]
    exact ⟨rfl, hS.below⟩
  · have hne : decide ((ofQ q).num ≠ ⟨#[]⟩) = true := decide_eq_true (fun g => h0 (ofQ_num_nil.1 g))
    refine c_yes rfl (hne) ?_
    repeat (with_reducible first | refine c_seq ?_ | refine c_block ?_ | refine c_skip ?_ | refine x_then ?_ | refine x_block ?_)
    refine c_reg ?_
    refine l_pure rfl (s_fld  rfl fo_29_0 ?_)
    refine l_read rfl (s_ldo (k := 1)  rfl vi_4 hS rfl rfl rfl (.inr rfl) ?_)
    refine l_pure rfl (s_not  rfl ?_)
    refine l_pure rfl (s_fld  rfl fo_29_0 ?_)
    refine l_heavy rfl (s_stc (k := 1)  rfl rfl vi_4 hS rfl (Nat.le_of_ble_eq_true rfl) rfl ?_)
    intro wz6 hS
    refine l_nil ?_
    repeat (with_reducible first | refine c_seq ?_ | refine c_block ?_ | refine c_skip ?_ | refine x_then ?_ | refine x_block ?_)
    refine c_reg ?_
    refine l_read rfl (s_ldo (k := 1)  rfl vi_29 hS rfl rfl rfl (.inl rfl) ?_)
    refine l_heavy rfl (s_sta (k := 0)  rfl rfl vi_29 hS rfl rfl rfl (Nat.le_of_ble_eq_true rfl) rfl ?_)
    intro wz7 hS
    refine l_nil ?_
    repeat (with_reducible first | refine c_seq ?_ | refine c_block ?_ | refine c_skip ?_ | refine x_then ?_ | refine x_block ?_)
    refine c_ret ?_
    repeat (with_reducible first | refine x_then_ret ?_ | refine x_block_ret ?_)
    refine r_cell (k := 0) rfl rfl vi_29 hS rfl rfl ?_
    rw [hne, Bool.and_true] at he
    rw [← he]
    exact ⟨rfl, hS.below⟩
theorem rMinus_ok (p q : Rat) (w : World) (hL : L p + L q ≤ MX) :
    Ret Tryz.prog 32 #[aggR (ofQ p), aggR (ofQ q)] w fun v w' => v = aggR (ofQ (p - q)) ∧ Below w.heap.size w w' := by
  have hL3 := L_neg q
  have hS := St.init w
  refine enter Tryz.func32 rfl Tryz.ntmps32 rfl ?_
  repeat (with_reducible first | refine c_seq ?_ | refine c_block ?_ | refine c_skip ?_ | refine x_then ?_ | refine x_block ?_)
  refine c_reg ?_
  refine l_heavy rfl (s_box (new := encR (ofQ p))  rfl rfl hS ?_)
  intro b1 wz2 hS hBz2
  refine l_heavy rfl (s_box (new := encR (ofQ q))  rfl rfl hS ?_)
  intro b3 wz4 hS hBz4
  refine l_heavy rfl (s_alloc  vi_29 hS ?_)
  intro b5 wz6 hS hBz6
  refine l_nil ?_
  repeat (with_reducible first | refine c_seq ?_ | refine c_block ?_ | refine c_skip ?_ | refine x_then ?_ | refine x_block ?_)
  refine c_draw [(0, .read), (1, .read), (2, .grow), (3, .grow), (4, .free)] (by kernel_rfl) (by kernel_rfl) hS ?_
  intro wz7 hS hBz7
  refine w_read rfl rfl (s_ldo (k := 2)  rfl vi_29 hS rfl rfl rfl (.inl rfl) ?_)
  refine w_read rfl rfl (s_ldo (k := 1)  rfl vi_29 hS rfl rfl rfl (.inl rfl) ?_)
  refine w_grow rfl rfl (s_call Tryz.call60 rfl (rOpposite_ok q _) ?_)
  rintro _ wc8 ⟨rfl, hBc8⟩
  replace hS := hS.grow hBc8
  refine ⟨hBc8, ?_⟩
  refine w_grow rfl rfl (s_call Tryz.call59 rfl (rPlus_ok p (-q) _ (by omega)) ?_)
  rintro _ wc9 ⟨rfl, hBc9⟩
  replace hS := hS.grow hBc9
  refine ⟨hBc9, ?_⟩
  refine w_free rfl rfl (s_sta (k := 0)  rfl rfl vi_29 hS rfl rfl rfl (Nat.le_of_ble_eq_true rfl) rfl ?_)
  intro wz10 hS
  refine w_end ?_
  repeat (with_reducible first | refine c_seq ?_ | refine c_block ?_ | refine c_skip ?_ | refine x_then ?_ | refine x_block ?_)
  refine c_ret ?_
  repeat (with_reducible first | refine x_then_ret ?_ | refine x_block_ret ?_)
  refine r_cell (k := 0) rfl rfl vi_29 hS rfl rfl ?_
  rw [Rat.sub_eq_add_neg]
  exact ⟨rfl, hS.below⟩
theorem rSignum_ok (q : Rat) (w : World) :
    Ret Tryz.prog 82 #[aggR (ofQ q)] w fun v w' => v = .int .i64 (sgnQ q) ∧ Below w.heap.size w w' := by
  have hS := St.init w
  refine enter Tryz.func82 rfl Tryz.ntmps82 rfl ?_
  repeat (with_reducible first | refine c_seq ?_ | refine c_block ?_ | refine c_skip ?_ | refine x_then ?_ | refine x_block ?_)
  refine c_reg ?_
  refine l_heavy rfl (s_box (new := encR (ofQ q))  rfl rfl hS ?_)
  intro b1 wz2 hS hBz2
  refine l_pure rfl (s_asg  rfl ?_)
  refine l_nil ?_
  repeat (with_reducible first | refine c_seq ?_ | refine c_block ?_ | refine c_skip ?_ | refine x_then ?_ | refine x_block ?_)
  refine c_reg ?_
  refine l_pure rfl (s_fld  rfl fo_29_1 ?_)
  refine l_read rfl (s_ldo (k := 0)  rfl vi_9 hS rfl rfl rfl (.inr rfl) ?_)
  refine l_pure rfl (s_eqs  rfl rfl ?_)
  refine l_pure rfl (s_asg  rfl ?_)
  refine l_nil ?_
  repeat (with_reducible first | refine c_seq ?_ | refine c_block ?_ | refine c_skip ?_ | refine x_then ?_ | refine x_block ?_)
  by_cases h : q = 0
  · refine c_yes rfl (decide_eq_true (ofQ_num_nil.2 h)) ?_
    repeat (with_reducible first | refine c_seq ?_ | refine c_block ?_ | refine c_skip ?_ | refine x_then ?_ | refine x_block ?_)
    refine c_reg ?_
    refine l_pure rfl (s_asg  rfl ?_)
    refine l_nil ?_
    repeat (with_reducible first | refine c_seq ?_ | refine c_block ?_ | refine c_skip ?_ | refine x_then ?_ | refine x_block ?_)
    refine c_ret ?_
    repeat (with_reducible first | refine x_then_ret ?_ | refine x_block_ret ?_)
    refine r_one rfl rfl ?_
    exact ⟨vi rfl (sgnQ_zero.2 h).symm, hS.below⟩
  · refine c_no rfl (decide_eq_false (fun g => h (ofQ_num_nil.1 g))) ?_
    repeat (with_reducible first | refine c_seq ?_ | refine c_block ?_ | refine c_skip ?_ | refine x_then ?_ | refine x_block ?_)
    refine c_reg ?_
    refine l_pure rfl (s_fld  rfl fo_29_0 ?_)
    refine l_read rfl (s_ldo (k := 0)  rfl vi_4 hS rfl rfl rfl (.inr rfl) ?_)
    refine l_pure rfl (s_asg  rfl ?_)
    refine l_nil ?_
    repeat (with_reducible first | refine c_seq ?_ | refine c_block ?_ | refine c_skip ?_ | refine x_then ?_ | refine x_block ?_)
    have hn : q.num ≠ 0 := fun g => h (Rat.num_eq_zero.1 g)
    by_cases h2 : q.num < 0
    · refine c_yes rfl (decide_eq_true h2) ?_
      repeat (with_reducible first | refine c_seq ?_ | refine c_block ?_ | refine c_skip ?_ | refine x_then ?_ | refine x_block ?_)
      refine c_reg ?_
      refine l_pure rfl (s_asg  rfl ?_)
      refine l_nil ?_
      repeat (with_reducible first | refine c_seq ?_ | refine c_block ?_ | refine c_skip ?_ | refine x_then ?_ | refine x_block ?_)
      refine c_ret ?_
      repeat (with_reducible first | refine x_then_ret ?_ | refine x_block_ret ?_)
      refine r_one rfl rfl ?_
      exact ⟨vi rfl (by unfold sgnQ; rw [if_neg hn, if_pos h2]), hS.below⟩
    · refine c_no rfl (decide_eq_false h2) ?_
      repeat (with_reducible first | refine c_seq ?_ | refine c_block ?_ | refine c_skip ?_ | refine x_then ?_ | refine x_block ?_)
      refine c_reg ?_
      refine l_pure rfl (s_asg  rfl ?_)
      refine l_nil ?_
      repeat (with_reducible first | refine c_seq ?_ | refine c_block ?_ | refine c_skip ?_ | refine x_then ?_ | refine x_block ?_)
      refine c_ret ?_
      repeat (with_reducible first | refine x_then_ret ?_ | refine x_block_ret ?_)
      refine r_one rfl rfl ?_
      exact ⟨vi rfl (by unfold sgnQ; rw [if_neg hn, if_neg h2]), hS.below⟩
theorem sub_neg_iff {p q : Rat} : sgnQ (p - q) < 0 ↔ p < q := by rw [sgnQ_neg]; constructor <;> intro h <;> grind
theorem rLess_ok (p q : Rat) (w : World) (hL : L p + L q ≤ MX) :
    Ret Tryz.prog 57 #[aggR (ofQ p), aggR (ofQ q)] w fun v w' => v = .bool (decide (p < q)) ∧ Below w.heap.size w w' := by
  have hS := St.init w
  refine enter Tryz.func57 rfl Tryz.ntmps57 rfl ?_
  repeat (with_reducible first | refine c_seq ?_ | refine c_block ?_ | refine c_skip ?_ | refine x_then ?_ | refine x_block ?_)
  refine c_reg ?_
  refine l_heavy rfl (s_box (new := encR (ofQ p))  rfl rfl hS ?_)
  intro b1 wz2 hS hBz2
  refine l_heavy rfl (s_box (new := encR (ofQ q))  rfl rfl hS ?_)
  intro b3 wz4 hS hBz4
  refine l_pure rfl (s_asg  rfl ?_)
  refine l_nil ?_
  repeat (with_reducible first | refine c_seq ?_ | refine c_block ?_ | refine c_skip ?_ | refine x_then ?_ | refine x_block ?_)
  refine c_reg ?_
  refine l_read rfl (s_ldo (k := 1)  rfl vi_29 hS rfl rfl rfl (.inl rfl) ?_)
  refine l_read rfl (s_ldo (k := 0)  rfl vi_29 hS rfl rfl rfl (.inl rfl) ?_)
  refine l_heavy rfl (s_call Tryz.call32 rfl (rMinus_ok p q _ hL) ?_)
  rintro _ wc5 ⟨rfl, hBc5⟩
  replace hS := hS.grow hBc5
  refine l_heavy rfl (s_call Tryz.call82 rfl (rSignum_ok (p - q) _) ?_)
  rintro _ wc6 ⟨rfl, hBc6⟩
  replace hS := hS.grow hBc6
  refine l_pure rfl (s_lss  rfl rfl ?_)
  refine l_pure rfl (s_asg  rfl ?_)
  refine l_nil ?_
  repeat (with_reducible first | refine c_seq ?_ | refine c_block ?_ | refine c_skip ?_ | refine x_then ?_ | refine x_block ?_)
  refine c_ret ?_
  repeat (with_reducible first | refine x_then_ret ?_ | refine x_block_ret ?_)
  refine r_one rfl rfl ?_
  exact ⟨congrArg Value.bool (decide_eq_decide.2 sub_neg_iff), hS.below⟩
theorem rLesser_ok (p q : Rat) (w : World) (hL : L p + L q ≤ MX) :
    Ret Tryz.prog 30 #[aggR (ofQ p), aggR (ofQ q)] w fun v w' => v = aggR (ofQ (minQ p q)) ∧ Below w.heap.size w w' := by
  have hS := St.init w
  refine enter Tryz.func30 rfl Tryz.ntmps30 rfl ?_
  repeat (with_reducible first | refine c_seq ?_ | refine c_block ?_ | refine c_skip ?_ | refine x_then ?_ | refine x_block ?_)
  refine c_reg ?_
  refine l_heavy rfl (s_box (new := encR (ofQ p))  rfl rfl hS ?_)
  intro b1 wz2 hS hBz2
  refine l_heavy rfl (s_box (new := encR (ofQ q))  rfl rfl hS ?_)
  intro b3 wz4 hS hBz4
  refine l_heavy rfl (s_alloc  vi_29 hS ?_)
  intro b5 wz6 hS hBz6
  refine l_nil ?_
  repeat (with_reducible first | refine c_seq ?_ | refine c_block ?_ | refine c_skip ?_ | refine x_then ?_ | refine x_block ?_)
  refine c_reg ?_
  refine l_read rfl (s_ldo (k := 1)  rfl vi_29 hS rfl rfl rfl (.inl rfl) ?_)
  refine l_read rfl (s_ldo (k := 2)  rfl vi_29 hS rfl rfl rfl (.inl rfl) ?_)
  refine l_heavy rfl (s_call Tryz.call57 rfl (rLess_ok q p _ (by omega)) ?_)
  rintro _ wc7 ⟨rfl, hBc7⟩
  replace hS := hS.grow hBc7
  refine l_nil ?_
  repeat (with_reducible first | refine c_seq ?_ | refine c_block ?_ | refine c_skip ?_ | refine x_then ?_ | refine x_block ?_)
  by_cases h : q < p
  · refine c_yes rfl (decide_eq_true h) ?_
    repeat (with_reducible first | refine c_seq ?_ | refine c_block ?_ | refine c_skip ?_ | refine x_then ?_ | refine x_block ?_)
    refine c_reg ?_
    refine l_read rfl (s_ldo (k := 1)  rfl vi_29 hS rfl rfl rfl (.inl rfl) ?_)
    refine l_heavy rfl (s_sta (k := 0)  rfl rfl vi_29 hS rfl rfl rfl (Nat.le_of_ble_eq_true rfl) rfl ?_)
    intro wz8 hS
    refine l_nil ?_
    repeat (with_reducible first | refine c_seq ?_ | refine c_block ?_ | refine c_skip ?_ | refine x_then ?_ | refine x_block ?_)
    refine c_ret ?_
    repeat (with_reducible first | refine x_then_ret ?_ | refine x_block_ret ?_)
    refine r_cell (k := 0) rfl rfl vi_29 hS rfl rfl ?_
    exact ⟨by unfold minQ; rw [if_neg (Rat.not_le.2 h)]; rfl, hS.below⟩
  · refine c_no rfl (decide_eq_false h) ?_
    repeat (with_reducible first | refine c_seq ?_ | refine c_block ?_ | refine c_skip ?_ | refine x_then ?_ | refine x_block ?_)
    refine c_reg ?_
    refine l_read rfl (s_ldo (k := 2)  rfl vi_29 hS rfl rfl rfl (.inl rfl) ?_)
    refine l_heavy rfl (s_sta (k := 0)  rfl rfl vi_29 hS rfl rfl rfl (Nat.le_of_ble_eq_true rfl) rfl ?_)
    intro wz9 hS
    refine l_nil ?_
    repeat (with_reducible first | refine c_seq ?_ | refine c_block ?_ | refine c_skip ?_ | refine x_then ?_ | refine x_block ?_)
    refine c_ret ?_
    repeat (with_reducible first | refine x_then_ret ?_ | refine x_block_ret ?_)
    refine r_cell (k := 0) rfl rfl vi_29 hS rfl rfl ?_
    exact ⟨by unfold minQ; rw [if_pos (Rat.not_lt.1 h)]; rfl, hS.below⟩
def posQ (q : Rat) : Rat := if q < 0 then 0 else q
theorem rPositive_ok (q : Rat) (w : World) :
    Ret Tryz.prog 96 #[aggR (ofQ q)] w fun v w' => v = aggR (ofQ (posQ q)) ∧ Below w.heap.size w w' := by
  have hS := St.init w
  refine enter Tryz.func96 rfl Tryz.ntmps96 rfl ?_
  repeat (with_reducible first | refine c_seq ?_ | refine c_block ?_ | refine c_skip ?_ | refine x_then ?_ | refine x_block ?_)
  refine c_reg ?_
  refine l_heavy rfl (s_box (new := encR (ofQ q))  rfl rfl hS ?_)
  intro b1 wz2 hS hBz2
  refine l_heavy rfl (s_alloc  vi_29 hS ?_)
  intro b3 wz4 hS hBz4
  refine l_nil ?_
  repeat (with_reducible first | refine c_seq ?_ | refine c_block ?_ | refine c_skip ?_ | refine x_then ?_ | refine x_block ?_)
  refine c_reg ?_
  refine l_pure rfl (s_fld  rfl fo_29_0 ?_)
  refine l_read rfl (s_ldo (k := 1)  rfl vi_4 hS rfl rfl rfl (.inr rfl) ?_)
  refine l_nil ?_
  repeat (with_reducible first | refine c_seq ?_ | refine c_block ?_ | refine c_skip ?_ | refine x_then ?_ | refine x_block ?_)
  by_cases h2 : q.num < 0
  · refine c_yes rfl (decide_eq_true h2) ?_
    repeat (with_reducible first | refine c_seq ?_ | refine c_block ?_ | refine c_skip ?_ | refine x_then ?_ | refine x_block ?_)
    refine c_reg ?_
    refine l_pure rfl (s_build  rfl bz_29 ?_)
    refine l_heavy rfl (s_sta (k := 0)  rfl rfl vi_29 hS rfl rfl rfl (Nat.le_of_ble_eq_true rfl) rfl ?_)
    intro wz5 hS
    refine l_nil ?_
    repeat (with_reducible first | refine c_seq ?_ | refine c_block ?_ | refine c_skip ?_ | refine x_then ?_ | refine x_block ?_)
    refine c_ret ?_
    repeat (with_reducible first | refine x_then_ret ?_ | refine x_block_ret ?_)
    refine r_cell (k := 0) rfl rfl vi_29 hS rfl rfl ?_
    exact ⟨by unfold posQ; rw [if_pos (num_neg.1 h2), ofQ_zero]; rfl, hS.below⟩
  · refine c_no rfl (decide_eq_false h2) ?_
    repeat (with_reducible first | refine c_seq ?_ | refine c_block ?_ | refine c_skip ?_ | refine x_then ?_ | refine x_block ?_)
    refine c_reg ?_
    refine l_read rfl (s_ldo (k := 1)  rfl vi_29 hS rfl rfl rfl (.inl rfl) ?_)
    refine l_heavy rfl (s_sta (k := 0)  rfl rfl vi_29 hS rfl rfl rfl (Nat.le_of_ble_eq_true rfl) rfl ?_)
    intro wz6 hS
    refine l_nil ?_
    repeat (with_reducible first | refine c_seq ?_ | refine c_block ?_ | refine c_skip ?_ | refine x_then ?_ | refine x_block ?_)
    refine c_ret ?_
    repeat (with_reducible first | refine x_then_ret ?_ | refine x_block_ret ?_)
    refine r_cell (k := 0) rfl rfl vi_29 hS rfl rfl ?_
    exact ⟨by unfold posQ; rw [if_neg (fun g => h2 (num_neg.2 g))]; rfl, hS.below⟩
theorem rSign_ok (r : RR) (w : World) (hr : Lr r ≤ MX) :
    Ret Tryz.prog 68 #[aggR r] w fun v w' => v = .int .i64 (sgnQ (toQ r)) ∧ Below w.heap.size w w' := by
  have hS := St.init w
  refine enter Tryz.func68 rfl Tryz.ntmps68 rfl ?_
  repeat (with_reducible first | refine c_seq ?_ | refine c_block ?_ | refine c_skip ?_ | refine x_then ?_ | refine x_block ?_)
  refine c_reg ?_
  refine l_heavy rfl (s_box (new := encR r)  rfl rfl hS ?_)
  intro b1 wz2 hS hBz2
  refine l_pure rfl (s_asg  rfl ?_)
  refine l_nil ?_
  repeat (with_reducible first | refine c_seq ?_ | refine c_block ?_ | refine c_skip ?_ | refine x_then ?_ | refine x_block ?_)
  refine c_reg ?_
  refine l_read rfl (s_ldo (k := 0)  rfl vi_29 hS rfl rfl rfl (.inl rfl) ?_)
  refine l_heavy rfl (s_call Tryz.call31 rfl (rFix_ok r _ hr) ?_)
  rintro _ wc3 ⟨rfl, hBc3⟩
  replace hS := hS.grow hBc3
  refine l_heavy rfl (s_call Tryz.call82 rfl (rSignum_ok (toQ r) _) ?_)
  rintro _ wc4 ⟨rfl, hBc4⟩
  replace hS := hS.grow hBc4
  refine l_pure rfl (s_asg  rfl ?_)
  refine l_nil ?_
  repeat (with_reducible first | refine c_seq ?_ | refine c_block ?_ | refine c_skip ?_ | refine x_then ?_ | refine x_block ?_)
  refine c_ret ?_
  repeat (with_reducible first | refine x_then_ret ?_ | refine x_block_ret ?_)
  refine r_one rfl rfl ?_
  exact ⟨rfl, hS.below⟩
end Go.Proofs.YtknccjbkacaelaaGreatDoor
namespace Go.Proofs.YtknccjbkacaelaaGreatDoor
open Go Go.RowKit Go.Sx
theorem tl_iff (a b : ByteArray) : a.toList = b.toList ↔ a = b := by
  have := tl_eq a b
  rw [Bool.eq_iff_iff] at this
  simpa using this
theorem equalIn_Rat (d : Nat) (r s : RR) (w : World) : (Op.equalIn (d + 2) 29 (aggR r) (aggR s)).run Tryz.prog w = .ok (decide (r = s)) w := by
  unfold aggR
  rw [run_equalIn_agg (P := Tryz.prog) w (d + 1) 29 _ _ (by kernel_rfl) (by kernel_rfl)]
  have hb : Tryz.prog.underlying 4 = some .bool := by kernel_rfl
  have hs : Tryz.prog.underlying 9 = some .string := by kernel_rfl
  simp only [Program.fieldsOf, Tryz.underlying29]
  simp [Op.eqFields, part, run_equalIn_bool' (P := Tryz.prog) w _ _ _ _ hb, run_equalIn_string (P := Tryz.prog) w _ _ _ _ hs, tl_iff]
  cases r; cases s
  rename_i a b c a' b' c'
  simp only [RR.mk.injEq]
  by_cases h1 : a = a' <;> by_cases h2 : b = b' <;> by_cases h3 : c = c' <;> simp [h1, h2, h3]
section
variable {N : Nat} {ρ : Nat → Value} {d : Option Tmp} {ty : TypeId} {pos : String} {aft : Array Edge} {g : Option (Nat × Bool)} {x y : Operand} {t' : TypeId} {K : Value → Prop}
theorem s_eqR {r s : RR} (hx : ev N ρ x = aggR r) (hy : ev N ρ y = aggR s) (h : K (.bool (decide (r = s)))) : Pure1 Tryz.prog N ρ ⟨d, .binOp .eql 29 x y t', ty, pos, aft, g⟩ K := by
  refine ⟨_, fun w => ?_, h⟩
  have h1 : (eqGuard .eql 29 x y (aggR r) (aggR s)).run Tryz.prog w = .ok () w := run_eqGuard_agg (P := Tryz.prog) w .eql 29 x y _ _ (by kernel_rfl)
  have h2 : (binOp .eql 29 (aggR r) (aggR s)).run Tryz.prog w = .ok (.bool (decide (r = s))) w := by
    have := run_eql_struct (P := Tryz.prog) w 29 #[.bool r.neg, .string r.num, .string r.den] #[.bool s.neg, .string s.num, .string s.den]
    have h3 := equalIn_Rat 9998 r s w
    unfold aggR at *
    rw [this, h3]; rfl
  simp only [execOp, hx, hy, Sem.run_bind, h1, h2, Result.andThen_ok]
  rfl
theorem s_neR {r s : RR} (hx : ev N ρ x = aggR r) (hy : ev N ρ y = aggR s) (h : K (.bool (decide (r ≠ s)))) : Pure1 Tryz.prog N ρ ⟨d, .binOp .neq 29 x y t', ty, pos, aft, g⟩ K := by
  refine ⟨_, fun w => ?_, h⟩
  have h1 : (eqGuard .neq 29 x y (aggR r) (aggR s)).run Tryz.prog w = .ok () w := run_eqGuard_agg (P := Tryz.prog) w .neq 29 x y _ _ (by kernel_rfl)
  have h2 : (binOp .neq 29 (aggR r) (aggR s)).run Tryz.prog w = .ok (.bool (decide (r ≠ s))) w := by
    have := run_neq_struct (P := Tryz.prog) w 29 #[.bool r.neg, .string r.num, .string r.den] #[.bool s.neg, .string s.num, .string s.den]
    have h3 := equalIn_Rat 9998 r s w
    unfold aggR at *
    rw [this, h3]
    simp [Result.andThen]
  simp only [execOp, hx, hy, Sem.run_bind, h1, h2, Result.andThen_ok]
  rfl
end
theorem SameRats_ok (va vb : Value) (A B : List RR) (w : World) (ha : Sl encR 3 w va A) (hb : Sl encR 3 w vb B) :
    Ret Tryz.prog 18 #[va, vb] w fun v w' => v = .bool (decide (A = B)) ∧ Below w.heap.size w w' := by
  have hS := St.init w
  have hla := ha.maxLen
  have hlb := hb.maxLen
  refine enter Tryz.func18 rfl Tryz.ntmps18 rfl ?_
  repeat (with_reducible first | refine c_seq ?_ | refine c_block ?_ | refine c_skip ?_ | refine x_then ?_ | refine x_block ?_)
  refine c_reg ?_
  refine l_pure rfl (s_asg  rfl ?_)
  refine l_nil ?_
  repeat (with_reducible first | refine c_seq ?_ | refine c_block ?_ | refine c_skip ?_ | refine x_then ?_ | refine x_block ?_)
  refine c_reg ?_
  refine l_pure rfl (s_move  rfl ?_)
  refine l_pure rfl (s_lenr  rfl (ha.below hS.below) ⟨_, Tryz.underlying24⟩ ?_)
  refine l_pure rfl (s_move  rfl ?_)
  refine l_pure rfl (s_lenr  rfl (hb.below hS.below) ⟨_, Tryz.underlying24⟩ ?_)
  refine l_pure rfl (s_neq  rfl rfl ?_)
  refine l_nil ?_
  repeat (with_reducible first | refine c_seq ?_ | refine c_block ?_ | refine c_skip ?_ | refine x_then ?_ | refine x_block ?_)
  by_cases hl : A.length = B.length
  · refine c_no rfl (decide_eq_false (by omega)) ?_
    repeat (with_reducible first | refine c_seq ?_ | refine c_block ?_ | refine c_skip ?_ | refine x_then ?_ | refine x_block ?_)
    refine c_reg ?_
    refine l_pure rfl (s_asg  rfl ?_)
    refine l_nil ?_
    repeat (with_reducible first | refine c_seq ?_ | refine c_block ?_ | refine c_skip ?_ | refine x_then ?_ | refine x_block ?_)
    refine c_loop (σ := Nat) (fun i ρ w' => i ≤ A.length ∧ A.take i = B.take i ∧ ρ 0 = va ∧ ρ 1 = vb ∧ ρ 5 = .int .i64 i ∧ St w w' []) (fun i => A.length - i) 0
      ⟨Nat.zero_le _, rfl, rfl, rfl, rfl, hS⟩ ?_
    clear hS
    rintro i ρ w2 ⟨hi, hq, h0, h1, h5, hS⟩
    repeat (with_reducible first | refine c_seq ?_ | refine c_block ?_ | refine c_skip ?_ | refine x_then ?_ | refine x_block ?_)
    refine c_reg ?_
    refine l_pure rfl (s_move  h5 ?_)
    refine l_pure rfl (s_move  h0 ?_)
    refine l_pure rfl (s_lenr  rfl (ha.below hS.below) ⟨_, Tryz.underlying24⟩ ?_)
    refine l_pure rfl (s_lss  rfl rfl ?_)
    refine l_nil ?_
    repeat (with_reducible first | refine c_seq ?_ | refine c_block ?_ | refine c_skip ?_ | refine x_then ?_ | refine x_block ?_)
    by_cases hlt : i < A.length
    · refine c_yes rfl (decide_eq_true (by omega)) ?_
      repeat (with_reducible first | refine c_seq ?_ | refine c_block ?_ | refine c_skip ?_ | refine x_then ?_ | refine x_block ?_)
      have hltb : i < B.length := by omega
      repeat (with_reducible first | refine c_seq ?_ | refine c_block ?_ | refine c_skip ?_ | refine x_then ?_ | refine x_block ?_)
      refine c_draw [(0, .pure), (1, .pure), (2, .pure), (3, .read), (4, .pure), (5, .pure), (6, .pure), (7, .read), (8, .pure)] (by kernel_rfl) (by kernel_rfl) hS ?_
      intro wz1 hS hBz1
      refine w_pure rfl rfl (s_move  h0 ?_)
      refine w_pure rfl rfl (s_move  h5 ?_)
      refine w_pure rfl rfl (s_ixr (i := i)  rfl rfl (ha.below hS.below) (by omega) (by first | omega | (simp; done) | (simp; omega)) si_24 ?_)
      refine w_read rfl rfl (s_lde (i := i) zRR  rfl vi_29 (ha.below hS.below) (by first | omega | (simp; done) | (simp; omega)) rfl rfl (.inl rfl) ?_)
      refine w_pure rfl rfl (s_move  h1 ?_)
      refine w_pure rfl rfl (s_move  h5 ?_)
      refine w_pure rfl rfl (s_ixr (i := i)  rfl rfl (hb.below hS.below) (by omega) (by first | omega | (simp; done) | (simp; omega)) si_24 ?_)
      refine w_read rfl rfl (s_lde (i := i) zRR  rfl vi_29 (hb.below hS.below) (by first | omega | (simp; done) | (simp; omega)) rfl rfl (.inl rfl) ?_)
      refine w_pure rfl rfl (s_neR  rfl rfl ?_)
      refine w_end ?_
      repeat (with_reducible first | refine c_seq ?_ | refine c_block ?_ | refine c_skip ?_ | refine x_then ?_ | refine x_block ?_)
      have ta := take_succ' A i zRR hlt
      have tb := take_succ' B i zRR hltb
      by_cases he : A.getD i zRR = B.getD i zRR
      · refine c_no rfl (decide_eq_false (not_not_intro he)) ?_
        repeat (with_reducible first | refine c_seq ?_ | refine c_block ?_ | refine c_skip ?_ | refine x_then ?_ | refine x_block ?_)
        refine c_reg ?_
        refine l_pure rfl (s_move  h5 ?_)
        refine l_pure rfl (s_add  rfl rfl (IntWalk.i64_in _ (by omega)) ?_)
        refine l_pure rfl (s_asg  rfl ?_)
        refine l_nil ?_
        repeat (with_reducible first | refine c_seq ?_ | refine c_block ?_ | refine c_skip ?_ | refine x_then ?_ | refine x_block ?_)
        exact ⟨i + 1, _, rfl, ⟨hlt, by rw [ta, tb, hq, he], h0, h1, vi rfl (by omega), hS⟩, by omega⟩
      · refine c_yes rfl (decide_eq_true he) ?_
        repeat (with_reducible first | refine c_seq ?_ | refine c_block ?_ | refine c_skip ?_ | refine x_then ?_ | refine x_block ?_)
        refine c_reg ?_
        refine l_pure rfl (s_asg  rfl ?_)
        refine l_nil ?_
        repeat (with_reducible first | refine c_seq ?_ | refine c_block ?_ | refine c_skip ?_ | refine x_then ?_ | refine x_block ?_)
        refine c_ret ?_
        repeat (with_reducible first | refine x_then_ret ?_ | refine x_block_ret ?_)
        refine r_one rfl rfl ?_
        refine ⟨congrArg Value.bool ?_, hS.below⟩
        symm; rw [decide_eq_false_iff_not]
        intro h
        rw [h] at he
        exact he rfl
    · refine c_no rfl (decide_eq_false (by omega)) ?_
      repeat (with_reducible first | refine c_seq ?_ | refine c_block ?_ | refine c_skip ?_ | refine x_then ?_ | refine x_block ?_)
      refine c_exit ?_
      repeat (with_reducible first | refine x_then_exit ?_ | refine x_block_exit ?_ | refine x_block_pass rfl ?_)
      repeat (with_reducible first | refine c_seq ?_ | refine c_block ?_ | refine c_skip ?_ | refine x_then ?_ | refine x_block ?_)
      obtain rfl : i = A.length := by omega
      rw [List.take_length, hl, List.take_length] at hq
      repeat (with_reducible first | refine c_seq ?_ | refine c_block ?_ | refine c_skip ?_ | refine x_then ?_ | refine x_block ?_)
      refine c_reg ?_
      refine l_pure rfl (s_asg  rfl ?_)
      refine l_nil ?_
      repeat (with_reducible first | refine c_seq ?_ | refine c_block ?_ | refine c_skip ?_ | refine x_then ?_ | refine x_block ?_)
      refine c_ret ?_
      repeat (with_reducible first | refine x_then_ret ?_ | refine x_block_ret ?_)
      refine r_one rfl rfl ?_
      exact ⟨congrArg Value.bool (decide_eq_true hq).symm, hS.below⟩
  · refine c_yes rfl (decide_eq_true (by omega)) ?_
    repeat (with_reducible first | refine c_seq ?_ | refine c_block ?_ | refine c_skip ?_ | refine x_then ?_ | refine x_block ?_)
    refine c_reg ?_
    refine l_pure rfl (s_asg  rfl ?_)
    refine l_nil ?_
    repeat (with_reducible first | refine c_seq ?_ | refine c_block ?_ | refine c_skip ?_ | refine x_then ?_ | refine x_block ?_)
    refine c_ret ?_
    repeat (with_reducible first | refine x_then_ret ?_ | refine x_block_ret ?_)
    refine r_one rfl rfl ?_
    refine ⟨congrArg Value.bool ?_, hS.below⟩
    symm; rw [decide_eq_false_iff_not]
    intro h
    rw [h] at hl
    exact hl rfl
def few (r : RR) : Bool := decide (r.num.size ≤ 24) && decide (r.den.size ≤ 24)
theorem few_Lr {r : RR} (h : few r = true) : Lr r ≤ 24 := by
  simp only [few, Bool.and_eq_true, decide_eq_true_eq] at h
  unfold Lr; omega
theorem Few_ok (r : RR) (w : World) :
    Ret Tryz.prog 40 #[aggR r] w fun v w' => v = .bool (few r) ∧ Below w.heap.size w w' := by
  have hS := St.init w
  refine enter Tryz.func40 rfl Tryz.ntmps40 rfl ?_
  repeat (with_reducible first | refine c_seq ?_ | refine c_block ?_ | refine c_skip ?_ | refine x_then ?_ | refine x_block ?_)
  refine c_reg ?_
  refine l_heavy rfl (s_box (new := encR r)  rfl rfl hS ?_)
  intro b1 wz2 hS hBz2
  refine l_pure rfl (s_asg  rfl ?_)
  refine l_nil ?_
  repeat (with_reducible first | refine c_seq ?_ | refine c_block ?_ | refine c_skip ?_ | refine x_then ?_ | refine x_block ?_)
  by_cases h : r.num.size ≤ 24
  · repeat (with_reducible first | refine c_seq ?_ | refine c_block ?_ | refine c_skip ?_ | refine x_then ?_ | refine x_block ?_)
    refine c_reg ?_
    refine l_pure rfl (s_fld  rfl fo_29_1 ?_)
    refine l_read rfl (s_ldo (k := 0)  rfl vi_9 hS rfl rfl rfl (.inr rfl) ?_)
    refine l_pure rfl (s_lens  rfl Tryz.underlying9 ?_)
    refine l_pure rfl (s_leq  rfl rfl ?_)
    refine l_pure rfl (s_move  rfl ?_)
    refine l_pure (gd_yes 7 (by kernel_rfl) rfl (decide_eq_true (by exact_mod_cast h))) (s_fld  rfl fo_29_2 ?_)
    refine l_read (gd_yes 7 (by kernel_rfl) rfl (decide_eq_true (by exact_mod_cast h))) (s_ldo (k := 0)  rfl vi_9 hS rfl rfl rfl (.inr rfl) ?_)
    refine l_pure (gd_yes 7 (by kernel_rfl) rfl (decide_eq_true (by exact_mod_cast h))) (s_lens  rfl Tryz.underlying9 ?_)
    refine l_pure (gd_yes 7 (by kernel_rfl) rfl (decide_eq_true (by exact_mod_cast h))) (s_leq  rfl rfl ?_)
    refine l_pure rfl (s_pick (vb rfl (decide_eq_true (by exact_mod_cast h))) rfl ?_)
    refine l_pure rfl (s_asg  rfl ?_)
    refine l_nil ?_
    repeat (with_reducible first | refine c_seq ?_ | refine c_block ?_ | refine c_skip ?_ | refine x_then ?_ | refine x_block ?_)
    refine c_ret ?_
    repeat (with_reducible first | refine x_then_ret ?_ | refine x_block_ret ?_)
    refine r_one rfl rfl ?_
    refine ⟨congrArg Value.bool ?_, hS.below⟩
    unfold few; rw [decide_eq_true h, Bool.true_and, decide_eq_decide]; omega
  · repeat (with_reducible first | refine c_seq ?_ | refine c_block ?_ | refine c_skip ?_ | refine x_then ?_ | refine x_block ?_)
    refine c_reg ?_
    refine l_pure rfl (s_fld  rfl fo_29_1 ?_)
    refine l_read rfl (s_ldo (k := 0)  rfl vi_9 hS rfl rfl rfl (.inr rfl) ?_)
    refine l_pure rfl (s_lens  rfl Tryz.underlying9 ?_)
    refine l_pure rfl (s_leq  rfl rfl ?_)
    refine l_pure rfl (s_move  rfl ?_)
    refine l_no (gno_yes 7 (by kernel_rfl) rfl (decide_eq_false (by omega))) ?_
    refine l_no (gno_yes 7 (by kernel_rfl) rfl (decide_eq_false (by omega))) ?_
    refine l_no (gno_yes 7 (by kernel_rfl) rfl (decide_eq_false (by omega))) ?_
    refine l_no (gno_yes 7 (by kernel_rfl) rfl (decide_eq_false (by omega))) ?_
    refine l_pure rfl (s_pick (vb rfl (decide_eq_false (by omega))) rfl ?_)
    refine l_pure rfl (s_asg  rfl ?_)
    refine l_nil ?_
    repeat (with_reducible first | refine c_seq ?_ | refine c_block ?_ | refine c_skip ?_ | refine x_then ?_ | refine x_block ?_)
    refine c_ret ?_
    repeat (with_reducible first | refine x_then_ret ?_ | refine x_block_ret ?_)
    refine r_one rfl rfl ?_
    refine ⟨congrArg Value.bool ?_, hS.below⟩
    unfold few; rw [decide_eq_false h]; rfl
theorem FewRats_ok (va : Value) (A : List RR) (n : Int) (w : World) (ha : Sl encR 3 w va A) :
    Ret Tryz.prog 39 #[va, .int .i64 n] w fun v w' => v = .bool (decide ((A.length : Int) ≤ n) && A.all few) ∧ Below w.heap.size w w' := by
  have hS := St.init w
  have hla := ha.maxLen
  refine enter Tryz.func39 rfl Tryz.ntmps39 rfl ?_
  repeat (with_reducible first | refine c_seq ?_ | refine c_block ?_ | refine c_skip ?_ | refine x_then ?_ | refine x_block ?_)
  refine c_reg ?_
  refine l_pure rfl (s_asg  rfl ?_)
  refine l_nil ?_
  repeat (with_reducible first | refine c_seq ?_ | refine c_block ?_ | refine c_skip ?_ | refine x_then ?_ | refine x_block ?_)
  refine c_reg ?_
  refine l_pure rfl (s_move  rfl ?_)
  refine l_pure rfl (s_lenr  rfl (ha.below hS.below) ⟨_, Tryz.underlying24⟩ ?_)
  refine l_pure rfl (s_move  rfl ?_)
  refine l_pure rfl (s_gtr  rfl rfl ?_)
  refine l_nil ?_
  repeat (with_reducible first | refine c_seq ?_ | refine c_block ?_ | refine c_skip ?_ | refine x_then ?_ | refine x_block ?_)
  by_cases hl : (A.length : Int) ≤ n
  · rw [decide_eq_true hl, Bool.true_and]
    refine c_no rfl (decide_eq_false (by omega)) ?_
    repeat (with_reducible first | refine c_seq ?_ | refine c_block ?_ | refine c_skip ?_ | refine x_then ?_ | refine x_block ?_)
    refine c_reg ?_
    refine l_pure rfl (s_move  rfl ?_)
    refine l_pure rfl (s_lenr  rfl (ha.below hS.below) ⟨_, Tryz.underlying24⟩ ?_)
    refine l_pure rfl (s_move  rfl ?_)
    refine l_nil ?_
    repeat (with_reducible first | refine c_seq ?_ | refine c_block ?_ | refine c_skip ?_ | refine x_then ?_ | refine x_block ?_)
    refine c_loop (σ := Nat) (fun i ρ w' => i ≤ A.length ∧ (A.take i).all few = true ∧ ρ 11 = va ∧ ρ 12 = .int .i64 A.length ∧ ρ 13 = .int .i64 i ∧ St w w' []) (fun i => A.length - i) 0
      ⟨Nat.zero_le _, rfl, rfl, rfl, rfl, hS⟩ ?_
    clear hS
    rintro i ρ w2 ⟨hi, hq, h11, h12, h13, hS⟩
    repeat (with_reducible first | refine c_seq ?_ | refine c_block ?_ | refine c_skip ?_ | refine x_then ?_ | refine x_block ?_)
    refine c_reg ?_
    refine l_pure rfl (s_lss  h13 h12 ?_)
    refine l_nil ?_
    repeat (with_reducible first | refine c_seq ?_ | refine c_block ?_ | refine c_skip ?_ | refine x_then ?_ | refine x_block ?_)
    by_cases hlt : i < A.length
    · refine c_yes rfl (decide_eq_true (by omega)) ?_
      repeat (with_reducible first | refine c_seq ?_ | refine c_block ?_ | refine c_skip ?_ | refine x_then ?_ | refine x_block ?_)
      have ta := take_succ' A i zRR hlt
      have hm := getD_mem A i zRR hlt
      repeat (with_reducible first | refine c_seq ?_ | refine c_block ?_ | refine c_skip ?_ | refine x_then ?_ | refine x_block ?_)
      refine c_reg ?_
      refine l_pure rfl (s_ixr (i := i)  h11 h13 (ha.below hS.below) (by omega) (by first | omega | (simp; done) | (simp; omega)) si_24 ?_)
      refine l_read rfl (s_lde (i := i) zRR  rfl vi_29 (ha.below hS.below) (by first | omega | (simp; done) | (simp; omega)) rfl rfl (.inl rfl) ?_)
      refine l_heavy rfl (s_alloc  vi_29 hS ?_)
      intro b1 wz2 hS hBz2
      refine l_heavy rfl (s_sta (k := 0)  rfl rfl vi_29 hS rfl rfl rfl (Nat.le_of_ble_eq_true rfl) rfl ?_)
      intro wz3 hS
      refine l_nil ?_
      repeat (with_reducible first | refine c_seq ?_ | refine c_block ?_ | refine c_skip ?_ | refine x_then ?_ | refine x_block ?_)
      replace hS : St w _ [(_, 29, encR (A.getD i zRR))] := hS
      repeat (with_reducible first | refine c_seq ?_ | refine c_block ?_ | refine c_skip ?_ | refine x_then ?_ | refine x_block ?_)
      refine c_reg ?_
      refine l_read rfl (s_ldo (k := 0)  rfl vi_29 hS rfl rfl rfl (.inl rfl) ?_)
      refine l_heavy rfl (s_call Tryz.call40 rfl (Few_ok (A.getD i zRR) _) ?_)
      rintro _ wc4 ⟨rfl, hBc4⟩
      replace hS := hS.grow hBc4
      refine l_pure rfl (s_not  rfl ?_)
      refine l_nil ?_
      repeat (with_reducible first | refine c_seq ?_ | refine c_block ?_ | refine c_skip ?_ | refine x_then ?_ | refine x_block ?_)
      by_cases he : few (A.getD i zRR) = true
      · refine c_no rfl (by rw [he]; rfl) ?_
        repeat (with_reducible first | refine c_seq ?_ | refine c_block ?_ | refine c_skip ?_ | refine x_then ?_ | refine x_block ?_)
        refine c_reg ?_
        refine l_pure rfl (s_add  h13 rfl (IntWalk.i64_in _ (by omega)) ?_)
        refine l_pure rfl (s_move  rfl ?_)
        refine l_nil ?_
        repeat (with_reducible first | refine c_seq ?_ | refine c_block ?_ | refine c_skip ?_ | refine x_then ?_ | refine x_block ?_)
        exact ⟨i + 1, _, rfl, ⟨hlt, by rw [ta, List.all_append, hq]; simpa using he, h11, h12, vi rfl (by omega), hS.drop (List.nil_sublist _)⟩, by omega⟩
      · rw [Bool.not_eq_true] at he
        refine c_yes rfl (by rw [he]; rfl) ?_
        repeat (with_reducible first | refine c_seq ?_ | refine c_block ?_ | refine c_skip ?_ | refine x_then ?_ | refine x_block ?_)
        refine c_reg ?_
        refine l_pure rfl (s_asg  rfl ?_)
        refine l_nil ?_
        repeat (with_reducible first | refine c_seq ?_ | refine c_block ?_ | refine c_skip ?_ | refine x_then ?_ | refine x_block ?_)
        refine c_ret ?_
        repeat (with_reducible first | refine x_then_ret ?_ | refine x_block_ret ?_)
        refine r_one rfl rfl ?_
        refine ⟨congrArg Value.bool ?_, hS.below⟩
        symm
        rw [List.all_eq_false]
        exact ⟨_, hm, by rw [he]; decide⟩
    · refine c_no rfl (decide_eq_false (by omega)) ?_
      repeat (with_reducible first | refine c_seq ?_ | refine c_block ?_ | refine c_skip ?_ | refine x_then ?_ | refine x_block ?_)
      refine c_exit ?_
      repeat (with_reducible first | refine x_then_exit ?_ | refine x_block_exit ?_ | refine x_block_pass rfl ?_)
      repeat (with_reducible first | refine c_seq ?_ | refine c_block ?_ | refine c_skip ?_ | refine x_then ?_ | refine x_block ?_)
      obtain rfl : i = A.length := by omega
      rw [List.take_length] at hq
      repeat (with_reducible first | refine c_seq ?_ | refine c_block ?_ | refine c_skip ?_ | refine x_then ?_ | refine x_block ?_)
      refine c_reg ?_
      refine l_pure rfl (s_asg  rfl ?_)
      refine l_nil ?_
      repeat (with_reducible first | refine c_seq ?_ | refine c_block ?_ | refine c_skip ?_ | refine x_then ?_ | refine x_block ?_)
      refine c_ret ?_
      repeat (with_reducible first | refine x_then_ret ?_ | refine x_block_ret ?_)
      refine r_one rfl rfl ?_
      exact ⟨congrArg Value.bool hq.symm, hS.below⟩
  · rw [decide_eq_false hl, Bool.false_and]
    refine c_yes rfl (decide_eq_true (by omega)) ?_
    repeat (with_reducible first | refine c_seq ?_ | refine c_block ?_ | refine c_skip ?_ | refine x_then ?_ | refine x_block ?_)
    refine c_reg ?_
    refine l_pure rfl (s_asg  rfl ?_)
    refine l_nil ?_
    repeat (with_reducible first | refine c_seq ?_ | refine c_block ?_ | refine c_skip ?_ | refine x_then ?_ | refine x_block ?_)
    refine c_ret ?_
    repeat (with_reducible first | refine x_then_ret ?_ | refine x_block_ret ?_)
    refine r_one rfl rfl ?_
    exact ⟨rfl, hS.below⟩
end Go.Proofs.YtknccjbkacaelaaGreatDoor
namespace Go.Sx
open Go Go.RowKit
structure Ch where
  claim : Int
  prio : Int
  lim : Bool
  limit : RR
structure It where
  price : RR
  costs : RR
  charges : List Ch
def encCh (c : Ch) : List Value := [.int .i64 c.claim, .int .i64 c.prio, .bool c.lim, .bool c.limit.neg, .string c.limit.num, .string c.limit.den]
def encIt (x : It × Value) : List Value := [.bool x.1.price.neg, .string x.1.price.num, .string x.1.price.den, .bool x.1.costs.neg, .string x.1.costs.num, .string x.1.costs.den, x.2]
def aggIt (x : It) (cv : Value) : Value := .agg #[.bool x.price.neg, .string x.price.num, .string x.price.den, .bool x.costs.neg, .string x.costs.num, .string x.costs.den, cv]
def zCh : Ch := ⟨0, 0, false, ⟨false, ⟨#[]⟩, ⟨#[]⟩⟩⟩
def zIt : It := ⟨⟨false, ⟨#[]⟩, ⟨#[]⟩⟩, ⟨false, ⟨#[]⟩, ⟨#[]⟩⟩, []⟩
/-- A slice of items: each with its own slice of charges. -/
structure Its (w : World) (v : Value) (X : List It) (cvs : List Value) : Prop where
  len : cvs.length = X.length
  sl : Sl encIt 7 w v (X.zip cvs)
  ch : ∀ i, i < X.length → Sl encCh 6 w (cvs.getD i undef) (X.getD i zIt).charges
theorem Its.below {w w' : World} {v : Value} {X : List It} {cvs : List Value} (h : Its w v X cvs) (hb : Below w.heap.size w w') : Its w' v X cvs := ⟨h.len, h.sl.below hb, fun i hi => (h.ch i hi).below hb⟩
theorem Its.zlen {w : World} {v : Value} {X : List It} {cvs : List Value} (h : Its w v X cvs) : (X.zip cvs).length = X.length := by rw [List.length_zip, h.len]; omega
theorem Its.zget {w : World} {v : Value} {X : List It} {cvs : List Value} (h : Its w v X cvs) {i : Nat} (hi : i < X.length) : (X.zip cvs).getD i (zIt, undef) = (X.getD i zIt, cvs.getD i undef) := by
  have h1 : i < cvs.length := by rw [h.len]; exact hi
  have h2 : i < (X.zip cvs).length := by rw [h.zlen]; exact hi
  rw [List.getD_eq_getElem?_getD, List.getElem?_eq_getElem h2, List.getElem_zip, List.getD_eq_getElem?_getD, List.getElem?_eq_getElem hi, List.getD_eq_getElem?_getD, List.getElem?_eq_getElem h1]; rfl
/-- The first error of a list's members, or 0. -/
def firstE {α : Type} (f : α → Int) : List α → Int
  | [] => 0
  | x :: l => if f x = 0 then firstE f l else f x
theorem firstE_append {α : Type} (f : α → Int) (l m : List α) : firstE f (l ++ m) = if firstE f l = 0 then firstE f m else firstE f l := by
  induction l with
  | nil => simp [firstE]
  | cons x l ih =>
    simp only [List.cons_append, firstE, ih]
    by_cases h : f x = 0 <;> simp [h]
theorem firstE_step {α : Type} (f : α → Int) (l : List α) (d : α) {i : Nat} (hi : i < l.length) (h : firstE f (l.take i) = 0) :
    (f (l.getD i d) = 0 → firstE f (l.take (i + 1)) = 0) ∧ (f (l.getD i d) ≠ 0 → firstE f l = f (l.getD i d)) := by
  have ht : l.take (i + 1) = l.take i ++ [l.getD i d] := by
    rw [List.take_succ_eq_append_getElem hi, List.getD_eq_getElem?_getD, List.getElem?_eq_getElem hi]; rfl
  constructor
  · intro h1
    rw [ht, firstE_append, h, if_pos rfl, firstE, if_pos h1]; rfl
  · intro h1
    have hl : l = l.take i ++ (l.getD i d :: l.drop (i + 1)) := by
      conv => lhs; rw [← List.take_append_drop (i + 1) l, ht, List.append_assoc]
      rfl
    conv => lhs; rw [hl]
    rw [firstE_append, h, if_pos rfl, firstE, if_neg h1]
def chErr (m : Nat) (c : Ch) : Int := if c.claim < 0 ∨ (m : Int) ≤ c.claim then 1 else if c.lim = true ∧ toQ c.limit < 0 then 7 else 0
def itErr (m : Nat) (x : It) : Int := if 8 < x.charges.length then 2 else if toQ x.price < 0 ∨ toQ x.costs < 0 then 7 else firstE (chErr m) x.charges
def negs (l : List RR) : Bool := l.any fun r => decide (toQ r < 0)
def checkE (X : List It) (owed : List RR) : Int := if 8 < X.length ∨ 24 < owed.length then 2 else if negs owed = true then 7 else firstE (itErr owed.length) X
/-- How long the numbers of items are. -/
def ItB (k : Nat) (X : List It) : Prop := ∀ x ∈ X, Lr x.price ≤ k ∧ Lr x.costs ≤ k ∧ ∀ c ∈ x.charges, Lr c.limit ≤ k
def RB (k : Nat) (l : List RR) : Prop := ∀ r ∈ l, Lr r ≤ k
end Go.Sx
namespace Go.Proofs.YtknccjbkacaelaaGreatDoor
open Go Go.RowKit Go.Sx
theorem lam_ok (r : RR) (w : World) (hr : Lr r ≤ MX) :
    Ret Tryz.prog 50 #[aggR r] w fun v w' => v = .bool (decide (toQ r < 0)) ∧ Below w.heap.size w w' := by
  have hS := St.init w
  refine enter Tryz.func50 rfl Tryz.ntmps50 rfl ?_
  repeat (with_reducible first | refine c_seq ?_ | refine c_block ?_ | refine c_skip ?_ | refine x_then ?_ | refine x_block ?_)
  refine c_reg ?_
  refine l_heavy rfl (s_box (new := encR r)  rfl rfl hS ?_)
  intro b1 wz2 hS hBz2
  refine l_pure rfl (s_asg  rfl ?_)
  refine l_nil ?_
  repeat (with_reducible first | refine c_seq ?_ | refine c_block ?_ | refine c_skip ?_ | refine x_then ?_ | refine x_block ?_)
  refine c_reg ?_
  refine l_read rfl (s_ldo (k := 0)  rfl vi_29 hS rfl rfl rfl (.inl rfl) ?_)
  refine l_heavy rfl (s_call Tryz.call11 rfl (Sign_ok r _ hr) ?_)
  rintro _ wc3 ⟨rfl, hBc3⟩
  replace hS := hS.grow hBc3
  refine l_pure rfl (s_lss  rfl rfl ?_)
  refine l_pure rfl (s_asg  rfl ?_)
  refine l_nil ?_
  repeat (with_reducible first | refine c_seq ?_ | refine c_block ?_ | refine c_skip ?_ | refine x_then ?_ | refine x_block ?_)
  refine c_ret ?_
  repeat (with_reducible first | refine x_then_ret ?_ | refine x_block_ret ?_)
  refine r_one rfl rfl ?_
  exact ⟨congrArg Value.bool (decide_eq_decide.2 sgnQ_neg), hS.below⟩
theorem negs_take (l : List RR) {i : Nat} (hi : i < l.length) (h : negs (l.take i) = false) : (¬ toQ (l.getD i zRR) < 0 → negs (l.take (i + 1)) = false) ∧ (toQ (l.getD i zRR) < 0 → negs l = true) := by
  have ht := take_succ' l i zRR hi
  constructor
  · intro h1
    unfold negs at *
    rw [ht, List.any_append, h]
    simpa using h1
  · intro h1
    unfold negs
    rw [List.any_eq_true]
    exact ⟨_, getD_mem l i zRR hi, decide_eq_true h1⟩
theorem IndexFunc_ok (v : Value) (l : List RR) (w : World) (hv : Sl encR 3 w v l) (hl : RB MX l) :
    Ret Tryz.prog 79 #[v, .func (.func 50) #[] #[]] w fun r w' => (∃ k : Int, r = .int .i64 k ∧ (0 ≤ k ↔ negs l = true)) ∧ Below w.heap.size w w' := by
  have hmax := hv.maxLen
  have hS := St.init w
  refine enter Tryz.func79 rfl Tryz.ntmps79 rfl ?_
  repeat (with_reducible first | refine c_seq ?_ | refine c_block ?_ | refine c_skip ?_ | refine x_then ?_ | refine x_block ?_)
  refine c_reg ?_
  refine l_pure rfl (s_asg  rfl ?_)
  refine l_nil ?_
  repeat (with_reducible first | refine c_seq ?_ | refine c_block ?_ | refine c_skip ?_ | refine x_then ?_ | refine x_block ?_)
  refine c_reg ?_
  refine l_pure rfl (s_move  rfl ?_)
  refine l_pure rfl (s_lenr  rfl (hv.below hS.below) ⟨_, Tryz.underlying24⟩ ?_)
  refine l_pure rfl (s_move  rfl ?_)
  refine l_nil ?_
  repeat (with_reducible first | refine c_seq ?_ | refine c_block ?_ | refine c_skip ?_ | refine x_then ?_ | refine x_block ?_)
  refine c_loop (σ := Nat) (fun i ρ w' => i ≤ l.length ∧ negs (l.take i) = false ∧ ρ 0 = v ∧ ρ 1 = .func (.func 50) #[] #[] ∧ ρ 7 = .int .i64 l.length ∧ ρ 8 = .int .i64 i ∧ St w w' []) (fun i => l.length - i) 0
    ⟨Nat.zero_le _, rfl, rfl, rfl, rfl, rfl, hS⟩ ?_
  clear hS
  rintro i ρ w2 ⟨hi, hn, h0, h1, h7, h8, hS⟩
  repeat (with_reducible first | refine c_seq ?_ | refine c_block ?_ | refine c_skip ?_ | refine x_then ?_ | refine x_block ?_)
  refine c_reg ?_
  refine l_pure rfl (s_lss  h8 h7 ?_)
  refine l_nil ?_
  repeat (with_reducible first | refine c_seq ?_ | refine c_block ?_ | refine c_skip ?_ | refine x_then ?_ | refine x_block ?_)
  by_cases hlt : i < l.length
  · refine c_yes rfl (decide_eq_true (by omega)) ?_
    repeat (with_reducible first | refine c_seq ?_ | refine c_block ?_ | refine c_skip ?_ | refine x_then ?_ | refine x_block ?_)
    obtain ⟨t1, t2⟩ := negs_take l hlt hn
    repeat (with_reducible first | refine c_seq ?_ | refine c_block ?_ | refine c_skip ?_ | refine x_then ?_ | refine x_block ?_)
    refine c_reg ?_
    refine l_pure rfl (s_move  h8 ?_)
    refine l_pure rfl (s_asg  rfl ?_)
    refine l_nil ?_
    repeat (with_reducible first | refine c_seq ?_ | refine c_block ?_ | refine c_skip ?_ | refine x_then ?_ | refine x_block ?_)
    refine c_reg ?_
    refine l_pure rfl (s_move  h1 ?_)
    refine l_pure rfl (s_move  h0 ?_)
    refine l_pure rfl (s_move  rfl ?_)
    refine l_pure rfl (s_ixr (i := i)  rfl rfl (hv.below hS.below) (by omega) (by first | omega | (simp; done) | (simp; omega)) si_24 ?_)
    refine l_read rfl (s_lde (i := i) zRR  rfl vi_29 (hv.below hS.below) (by first | omega | (simp; done) | (simp; omega)) rfl rfl (.inl rfl) ?_)
    refine l_heavy rfl (s_callv Tryz.call50 rfl rfl (lam_ok (l.getD i zRR) _ (hl _ (getD_mem l i zRR hlt))) ?_)
    rintro r w3 ⟨rfl, hB3⟩
    replace hS := hS.grow hB3
    refine l_nil ?_
    repeat (with_reducible first | refine c_seq ?_ | refine c_block ?_ | refine c_skip ?_ | refine x_then ?_ | refine x_block ?_)
    by_cases hneg : toQ (l.getD i zRR) < 0
    · refine c_yes rfl (decide_eq_true hneg) ?_
      repeat (with_reducible first | refine c_seq ?_ | refine c_block ?_ | refine c_skip ?_ | refine x_then ?_ | refine x_block ?_)
      refine c_reg ?_
      refine l_pure rfl (s_move  rfl ?_)
      refine l_pure rfl (s_asg  rfl ?_)
      refine l_nil ?_
      repeat (with_reducible first | refine c_seq ?_ | refine c_block ?_ | refine c_skip ?_ | refine x_then ?_ | refine x_block ?_)
      refine c_ret ?_
      repeat (with_reducible first | refine x_then_ret ?_ | refine x_block_ret ?_)
      refine r_one rfl rfl ?_
      exact ⟨⟨_, rfl, ⟨fun _ => t2 hneg, fun _ => by omega⟩⟩, hS.below⟩
    · refine c_no rfl (decide_eq_false hneg) ?_
      repeat (with_reducible first | refine c_seq ?_ | refine c_block ?_ | refine c_skip ?_ | refine x_then ?_ | refine x_block ?_)
      refine c_reg ?_
      refine l_pure rfl (s_add  h8 rfl (IntWalk.i64_in _ (by omega)) ?_)
      refine l_pure rfl (s_move  rfl ?_)
      refine l_nil ?_
      repeat (with_reducible first | refine c_seq ?_ | refine c_block ?_ | refine c_skip ?_ | refine x_then ?_ | refine x_block ?_)
      exact ⟨i + 1, _, rfl, ⟨hlt, t1 hneg, h0, h1, h7, vi rfl (by omega), hS⟩, by omega⟩
  · refine c_no rfl (decide_eq_false (by omega)) ?_
    repeat (with_reducible first | refine c_seq ?_ | refine c_block ?_ | refine c_skip ?_ | refine x_then ?_ | refine x_block ?_)
    refine c_exit ?_
    repeat (with_reducible first | refine x_then_exit ?_ | refine x_block_exit ?_ | refine x_block_pass rfl ?_)
    repeat (with_reducible first | refine c_seq ?_ | refine c_block ?_ | refine c_skip ?_ | refine x_then ?_ | refine x_block ?_)
    obtain rfl : i = l.length := by omega
    rw [List.take_length] at hn
    repeat (with_reducible first | refine c_seq ?_ | refine c_block ?_ | refine c_skip ?_ | refine x_then ?_ | refine x_block ?_)
    refine c_reg ?_
    refine l_pure rfl (s_asg  rfl ?_)
    refine l_nil ?_
    repeat (with_reducible first | refine c_seq ?_ | refine c_block ?_ | refine c_skip ?_ | refine x_then ?_ | refine x_block ?_)
    refine c_ret ?_
    repeat (with_reducible first | refine x_then_ret ?_ | refine x_block_ret ?_)
    refine r_one rfl rfl ?_
    exact ⟨⟨_, rfl, ⟨fun h => by omega, fun h => by rw [hn] at h; cases h⟩⟩, hS.below⟩
theorem ContainsFunc_ok (v : Value) (l : List RR) (w : World) (hv : Sl encR 3 w v l) (hl : RB MX l) :
    Ret Tryz.prog 49 #[v, .func (.func 50) #[] #[]] w fun r w' => r = .bool (negs l) ∧ Below w.heap.size w w' := by
  have hS := St.init w
  refine enter Tryz.func49 rfl Tryz.ntmps49 rfl ?_
  repeat (with_reducible first | refine c_seq ?_ | refine c_block ?_ | refine c_skip ?_ | refine x_then ?_ | refine x_block ?_)
  refine c_reg ?_
  refine l_pure rfl (s_asg  rfl ?_)
  refine l_nil ?_
  repeat (with_reducible first | refine c_seq ?_ | refine c_block ?_ | refine c_skip ?_ | refine x_then ?_ | refine x_block ?_)
  refine c_reg ?_
  refine l_pure rfl (s_move  rfl ?_)
  refine l_pure rfl (s_move  rfl ?_)
  refine l_heavy rfl (s_call Tryz.call79 rfl (IndexFunc_ok v l _ hv hl) ?_)
  rintro r w3 ⟨⟨k, rfl, hk⟩, hB3⟩
  replace hS := hS.grow hB3
  refine l_pure rfl (s_geq  rfl rfl ?_)
  refine l_pure rfl (s_asg  rfl ?_)
  refine l_nil ?_
  repeat (with_reducible first | refine c_seq ?_ | refine c_block ?_ | refine c_skip ?_ | refine x_then ?_ | refine x_block ?_)
  refine c_ret ?_
  repeat (with_reducible first | refine x_then_ret ?_ | refine x_block_ret ?_)
  refine r_one rfl rfl ?_
  refine ⟨congrArg Value.bool ?_, hS.below⟩
  rw [Bool.eq_iff_iff, decide_eq_true_iff]; exact hk
set_option maxHeartbeats 1000000 in
theorem Check_ok (vi_ vo : Value) (X : List It) (cvs : List Value) (owed : List RR) (w : World) (hX : Its w vi_ X cvs) (ho : Sl encR 3 w vo owed) (hXB : ItB MX X) (hoB : RB MX owed) :
    Ret Tryz.prog 26 #[vi_, vo] w fun r w' => r = .int .i64 (checkE X owed) ∧ Below w.heap.size w w' := by
  have hmo := ho.maxLen
  have hmX := hX.sl.maxLen
  rw [hX.zlen] at hmX
  have hzl := hX.zlen
  have hS := St.init w
  obtain ⟨m, hm⟩ : ∃ m, m = owed.length := ⟨_, rfl⟩
  refine enter Tryz.func26 rfl Tryz.ntmps26 rfl ?_
  repeat (with_reducible first | refine c_seq ?_ | refine c_block ?_ | refine c_skip ?_ | refine x_then ?_ | refine x_block ?_)
  refine c_reg ?_
  refine l_pure rfl (s_asg  rfl ?_)
  refine l_nil ?_
  repeat (with_reducible first | refine c_seq ?_ | refine c_block ?_ | refine c_skip ?_ | refine x_then ?_ | refine x_block ?_)
  refine c_cut1 (fun ρ w' => ρ 0 = vi_ ∧ ρ 1 = vo ∧ ρ 16 = .bool (decide (8 < X.length ∨ 24 < owed.length)) ∧ w = w') ?_ ?_
  · by_cases h1 : 8 < X.length
    · repeat (with_reducible first | refine c_seq ?_ | refine c_block ?_ | refine c_skip ?_ | refine x_then ?_ | refine x_block ?_)
      refine c_reg ?_
      refine l_pure rfl (s_move  rfl ?_)
      refine l_pure rfl (s_lenr  rfl (hX.sl.below hS.below) ⟨_, Tryz.underlying26⟩ ?_)
      refine l_pure rfl (s_gtr  rfl rfl ?_)
      refine l_pure rfl (s_move  rfl ?_)
      refine l_no (gno_yes 12 (by kernel_rfl) rfl (decide_eq_true (by omega))) ?_
      refine l_no (gno_yes 12 (by kernel_rfl) rfl (decide_eq_true (by omega))) ?_
      refine l_no (gno_yes 12 (by kernel_rfl) rfl (decide_eq_true (by omega))) ?_
      refine l_pure rfl (s_pick (vb rfl (decide_eq_true (by omega))) rfl ?_)
      refine l_nil ?_
      repeat (with_reducible first | refine c_seq ?_ | refine c_block ?_ | refine c_skip ?_ | refine x_then ?_ | refine x_block ?_)
      exact ⟨_, rfl, rfl, rfl, vb rfl (decide_eq_true (.inl h1)).symm, rfl⟩
    · repeat (with_reducible first | refine c_seq ?_ | refine c_block ?_ | refine c_skip ?_ | refine x_then ?_ | refine x_block ?_)
      refine c_reg ?_
      refine l_pure rfl (s_move  rfl ?_)
      refine l_pure rfl (s_lenr  rfl (hX.sl.below hS.below) ⟨_, Tryz.underlying26⟩ ?_)
      refine l_pure rfl (s_gtr  rfl rfl ?_)
      refine l_pure rfl (s_move  rfl ?_)
      refine l_pure (gd_yes 12 (by kernel_rfl) rfl (decide_eq_false (by omega))) (s_move  rfl ?_)
      refine l_pure (gd_yes 12 (by kernel_rfl) rfl (decide_eq_false (by omega))) (s_lenr  rfl (ho.below hS.below) ⟨_, Tryz.underlying24⟩ ?_)
      refine l_pure (gd_yes 12 (by kernel_rfl) rfl (decide_eq_false (by omega))) (s_gtr  rfl rfl ?_)
      refine l_pure rfl (s_pick (vb rfl (decide_eq_false (by omega))) rfl ?_)
      refine l_nil ?_
      repeat (with_reducible first | refine c_seq ?_ | refine c_block ?_ | refine c_skip ?_ | refine x_then ?_ | refine x_block ?_)
      exact ⟨_, rfl, rfl, rfl, vb rfl (by rw [decide_eq_decide]; omega), rfl⟩
  rintro ρ w' ⟨h0, h1, h16, rfl⟩
  repeat (with_reducible first | refine c_seq ?_ | refine c_block ?_ | refine c_skip ?_ | refine x_then ?_ | refine x_block ?_)
  by_cases hlong : 8 < X.length ∨ 24 < owed.length
  · refine c_yes h16 (decide_eq_true hlong) ?_
    repeat (with_reducible first | refine c_seq ?_ | refine c_block ?_ | refine c_skip ?_ | refine x_then ?_ | refine x_block ?_)
    refine c_reg ?_
    refine l_pure rfl (s_asg  rfl ?_)
    refine l_nil ?_
    repeat (with_reducible first | refine c_seq ?_ | refine c_block ?_ | refine c_skip ?_ | refine x_then ?_ | refine x_block ?_)
    refine c_ret ?_
    repeat (with_reducible first | refine x_then_ret ?_ | refine x_block_ret ?_)
    refine r_one rfl rfl ?_
    exact ⟨vi rfl (by unfold checkE; rw [if_pos hlong]), hS.below⟩
  refine c_no h16 (decide_eq_false hlong) ?_
  repeat (with_reducible first | refine c_seq ?_ | refine c_block ?_ | refine c_skip ?_ | refine x_then ?_ | refine x_block ?_)
  refine c_reg ?_
  refine l_pure rfl (s_move  h1 ?_)
  refine l_heavy rfl (s_call Tryz.call49 rfl (ContainsFunc_ok vo owed _ ho hoB) ?_)
  rintro _ wc1 ⟨rfl, hBc1⟩
  replace hS := hS.grow hBc1
  refine l_nil ?_
  repeat (with_reducible first | refine c_seq ?_ | refine c_block ?_ | refine c_skip ?_ | refine x_then ?_ | refine x_block ?_)
  by_cases hneg : negs owed = true
  · refine c_yes rfl (hneg) ?_
    repeat (with_reducible first | refine c_seq ?_ | refine c_block ?_ | refine c_skip ?_ | refine x_then ?_ | refine x_block ?_)
    refine c_reg ?_
    refine l_pure rfl (s_asg  rfl ?_)
    refine l_nil ?_
    repeat (with_reducible first | refine c_seq ?_ | refine c_block ?_ | refine c_skip ?_ | refine x_then ?_ | refine x_block ?_)
    refine c_ret ?_
    repeat (with_reducible first | refine x_then_ret ?_ | refine x_block_ret ?_)
    refine r_one rfl rfl ?_
    exact ⟨vi rfl (by unfold checkE; rw [if_neg hlong, if_pos hneg]), hS.below⟩
  refine c_no rfl (by rw [← Bool.not_eq_true]; exact hneg) ?_
  repeat (with_reducible first | refine c_seq ?_ | refine c_block ?_ | refine c_skip ?_ | refine x_then ?_ | refine x_block ?_)
  have hfin : checkE X owed = firstE (itErr m) X := by unfold checkE; rw [if_neg hlong, if_neg hneg, hm]
  rw [hfin]
  repeat (with_reducible first | refine c_seq ?_ | refine c_block ?_ | refine c_skip ?_ | refine x_then ?_ | refine x_block ?_)
  refine c_reg ?_
  refine l_pure rfl (s_move  h0 ?_)
  refine l_pure rfl (s_lenr  rfl (hX.sl.below hS.below) ⟨_, Tryz.underlying26⟩ ?_)
  refine l_pure rfl (s_move  rfl ?_)
  refine l_nil ?_
  repeat (with_reducible first | refine c_seq ?_ | refine c_block ?_ | refine c_skip ?_ | refine x_then ?_ | refine x_block ?_)
  refine c_loop (σ := Nat) (fun i ρ w' => i ≤ X.length ∧ firstE (itErr m) (X.take i) = 0 ∧ ρ 1 = vo ∧ ρ 19 = vi_ ∧ ρ 20 = .int .i64 X.length ∧ ρ 21 = .int .i64 i ∧ St w w' []) (fun i => X.length - i) 0
    ⟨Nat.zero_le _, rfl, h1, rfl, vi rfl (by rw [hzl]), rfl, hS⟩ ?_
  clear hS h0 h1 h16
  rintro i ρ w2 ⟨hi, hok1, h1, h19, h20, h21, hS⟩
  repeat (with_reducible first | refine c_seq ?_ | refine c_block ?_ | refine c_skip ?_ | refine x_then ?_ | refine x_block ?_)
  refine c_reg ?_
  refine l_pure rfl (s_lss  h21 h20 ?_)
  refine l_nil ?_
  repeat (with_reducible first | refine c_seq ?_ | refine c_block ?_ | refine c_skip ?_ | refine x_then ?_ | refine x_block ?_)
  by_cases hlt : i < X.length
  · refine c_yes rfl (decide_eq_true (by omega)) ?_
    repeat (with_reducible first | refine c_seq ?_ | refine c_block ?_ | refine c_skip ?_ | refine x_then ?_ | refine x_block ?_)
    obtain ⟨x, hx⟩ : ∃ x, x = X.getD i zIt := ⟨_, rfl⟩
    obtain ⟨cv, hcv⟩ : ∃ cv, cv = cvs.getD i undef := ⟨_, rfl⟩
    have hmem : x ∈ X := by rw [hx]; exact getD_mem X i zIt hlt
    have hxB := hXB x hmem
    have hch := hX.ch i hlt
    rw [← hx, ← hcv] at hch
    have hmc := hch.maxLen
    obtain ⟨ca, ccap, hcve, _⟩ := hch.form
    subst hcve
    have hzg := hX.zget hlt
    rw [← hx, ← hcv] at hzg
    obtain ⟨f1, f2⟩ := firstE_step (itErr m) X zIt hlt hok1
    rw [← hx] at f1 f2
    repeat (with_reducible first | refine c_seq ?_ | refine c_block ?_ | refine c_skip ?_ | refine x_then ?_ | refine x_block ?_)
    refine c_reg ?_
    refine l_pure rfl (s_ixr (i := i)  h19 h21 (hX.sl.below hS.below) (by omega) (by first | omega | (simp; done) | (simp; omega)) si_26 ?_)
    refine l_read rfl (s_lde (v := aggIt x (.slice ca x.charges.length ccap)) (i := i) (zIt, undef)  rfl vi_32 (hX.sl.below hS.below) (by omega) rfl (by rw [hzg]; rfl) (.inl rfl) ?_)
    refine l_heavy rfl (s_alloc  vi_32 hS ?_)
    intro b2 wz3 hS hBz3
    refine l_heavy rfl (s_sta (k := 0)  rfl rfl vi_32 hS rfl rfl rfl (Nat.le_of_ble_eq_true rfl) rfl ?_)
    intro wz4 hS
    refine l_nil ?_
    repeat (with_reducible first | refine c_seq ?_ | refine c_block ?_ | refine c_skip ?_ | refine x_then ?_ | refine x_block ?_)
    replace hS : St w _ [(b2, 32, encIt (x, .slice ca x.charges.length ccap))] := hS
    repeat (with_reducible first | refine c_seq ?_ | refine c_block ?_ | refine c_skip ?_ | refine x_then ?_ | refine x_block ?_)
    refine c_reg ?_
    refine l_pure rfl (s_fld  rfl fo_32_2 ?_)
    refine l_read rfl (s_ldo (k := 0)  rfl vi_30 hS rfl rfl rfl (.inr rfl) ?_)
    refine l_pure rfl (s_lenr  rfl (hch.below hS.below) ⟨_, Tryz.underlying30⟩ ?_)
    refine l_pure rfl (s_gtr  rfl rfl ?_)
    refine l_nil ?_
    repeat (with_reducible first | refine c_seq ?_ | refine c_block ?_ | refine c_skip ?_ | refine x_then ?_ | refine x_block ?_)
    by_cases hl8 : 8 < x.charges.length
    · refine c_yes rfl (decide_eq_true (by omega)) ?_
      repeat (with_reducible first | refine c_seq ?_ | refine c_block ?_ | refine c_skip ?_ | refine x_then ?_ | refine x_block ?_)
      have he : itErr m x = 2 := by unfold itErr; rw [if_pos hl8]
      repeat (with_reducible first | refine c_seq ?_ | refine c_block ?_ | refine c_skip ?_ | refine x_then ?_ | refine x_block ?_)
      refine c_reg ?_
      refine l_pure rfl (s_asg  rfl ?_)
      refine l_nil ?_
      repeat (with_reducible first | refine c_seq ?_ | refine c_block ?_ | refine c_skip ?_ | refine x_then ?_ | refine x_block ?_)
      refine c_ret ?_
      repeat (with_reducible first | refine x_then_ret ?_ | refine x_block_ret ?_)
      refine r_one rfl rfl ?_
      exact ⟨vi rfl (by rw [f2 (by rw [he]; decide), he]), hS.below⟩
    refine c_no rfl (decide_eq_false (by omega)) ?_
    repeat (with_reducible first | refine c_seq ?_ | refine c_block ?_ | refine c_skip ?_ | refine x_then ?_ | refine x_block ?_)
    refine c_cut1 (fun ρ w' => ρ 1 = vo ∧ ρ 6 = .pointer (some ⟨b2, 0, none⟩) ∧ ρ 19 = vi_ ∧ ρ 20 = .int .i64 X.length ∧ ρ 21 = .int .i64 i ∧ ρ 38 = .bool (decide (toQ x.price < 0 ∨ toQ x.costs < 0)) ∧ St w w' [(b2, 32, encIt (x, .slice ca x.charges.length ccap))]) ?_ ?_
    · repeat (with_reducible first | refine c_seq ?_ | refine c_block ?_ | refine c_skip ?_ | refine x_then ?_ | refine x_block ?_)
      by_cases hp : toQ x.price < 0
      · repeat (with_reducible first | refine c_seq ?_ | refine c_block ?_ | refine c_skip ?_ | refine x_then ?_ | refine x_block ?_)
        refine c_reg ?_
        refine l_pure rfl (s_fld  rfl fo_32_0 ?_)
        refine l_read rfl (s_ldo (k := 0)  rfl vi_29 hS rfl rfl rfl (.inl rfl) ?_)
        refine l_heavy rfl (s_call Tryz.call11 rfl (Sign_ok x.price _ hxB.1) ?_)
        rintro _ wc5 ⟨rfl, hBc5⟩
        replace hS := hS.grow hBc5
        refine l_pure rfl (s_lss  rfl rfl ?_)
        refine l_pure rfl (s_move  rfl ?_)
        refine l_no (gno_yes 33 (by kernel_rfl) rfl (decide_eq_true (sgnQ_neg.2 hp))) ?_
        refine l_no (gno_yes 33 (by kernel_rfl) rfl (decide_eq_true (sgnQ_neg.2 hp))) ?_
        refine l_no (gno_yes 33 (by kernel_rfl) rfl (decide_eq_true (sgnQ_neg.2 hp))) ?_
        refine l_no (gno_yes 33 (by kernel_rfl) rfl (decide_eq_true (sgnQ_neg.2 hp))) ?_
        refine l_pure rfl (s_pick (vb rfl (decide_eq_true (sgnQ_neg.2 hp))) rfl ?_)
        refine l_nil ?_
        repeat (with_reducible first | refine c_seq ?_ | refine c_block ?_ | refine c_skip ?_ | refine x_then ?_ | refine x_block ?_)
        exact ⟨_, rfl, h1, rfl, h19, h20, h21, vb rfl (decide_eq_true (.inl hp)).symm, hS⟩
      · repeat (with_reducible first | refine c_seq ?_ | refine c_block ?_ | refine c_skip ?_ | refine x_then ?_ | refine x_block ?_)
        refine c_reg ?_
        refine l_pure rfl (s_fld  rfl fo_32_0 ?_)
        refine l_read rfl (s_ldo (k := 0)  rfl vi_29 hS rfl rfl rfl (.inl rfl) ?_)
        refine l_heavy rfl (s_call Tryz.call11 rfl (Sign_ok x.price _ hxB.1) ?_)
        rintro _ wc6 ⟨rfl, hBc6⟩
        replace hS := hS.grow hBc6
        refine l_pure rfl (s_lss  rfl rfl ?_)
        refine l_pure rfl (s_move  rfl ?_)
        refine l_pure (gd_yes 33 (by kernel_rfl) rfl (decide_eq_false (fun g => hp (sgnQ_neg.1 g)))) (s_fld  rfl fo_32_1 ?_)
        refine l_read (gd_yes 33 (by kernel_rfl) rfl (decide_eq_false (fun g => hp (sgnQ_neg.1 g)))) (s_ldo (k := 0)  rfl vi_29 hS rfl rfl rfl (.inl rfl) ?_)
        refine l_heavy (gd_yes 33 (by kernel_rfl) rfl (decide_eq_false (fun g => hp (sgnQ_neg.1 g)))) (s_call Tryz.call11 rfl (Sign_ok x.costs _ hxB.2.1) ?_)
        rintro _ wc7 ⟨rfl, hBc7⟩
        replace hS := hS.grow hBc7
        refine l_pure (gd_yes 33 (by kernel_rfl) rfl (decide_eq_false (fun g => hp (sgnQ_neg.1 g)))) (s_lss  rfl rfl ?_)
        refine l_pure rfl (s_pick (vb rfl (decide_eq_false (fun g => hp (sgnQ_neg.1 g)))) rfl ?_)
        refine l_nil ?_
        repeat (with_reducible first | refine c_seq ?_ | refine c_block ?_ | refine c_skip ?_ | refine x_then ?_ | refine x_block ?_)
        exact ⟨_, rfl, h1, rfl, h19, h20, h21, vb rfl (by rw [decide_eq_decide, sgnQ_neg]; exact ⟨.inr, fun g => g.resolve_left hp⟩), hS⟩
    clear hS h1 h19 h20 h21
    rintro ρ w3 ⟨h1, h6, h19, h20, h21, h38, hS⟩
    repeat (with_reducible first | refine c_seq ?_ | refine c_block ?_ | refine c_skip ?_ | refine x_then ?_ | refine x_block ?_)
    by_cases hneg2 : toQ x.price < 0 ∨ toQ x.costs < 0
    · refine c_yes h38 (decide_eq_true hneg2) ?_
      repeat (with_reducible first | refine c_seq ?_ | refine c_block ?_ | refine c_skip ?_ | refine x_then ?_ | refine x_block ?_)
      have he : itErr m x = 7 := by unfold itErr; rw [if_neg hl8, if_pos hneg2]
      repeat (with_reducible first | refine c_seq ?_ | refine c_block ?_ | refine c_skip ?_ | refine x_then ?_ | refine x_block ?_)
      refine c_reg ?_
      refine l_pure rfl (s_asg  rfl ?_)
      refine l_nil ?_
      repeat (with_reducible first | refine c_seq ?_ | refine c_block ?_ | refine c_skip ?_ | refine x_then ?_ | refine x_block ?_)
      refine c_ret ?_
      repeat (with_reducible first | refine x_then_ret ?_ | refine x_block_ret ?_)
      refine r_one rfl rfl ?_
      exact ⟨vi rfl (by rw [f2 (by rw [he]; decide), he]), hS.below⟩
    refine c_no h38 (decide_eq_false hneg2) ?_
    repeat (with_reducible first | refine c_seq ?_ | refine c_block ?_ | refine c_skip ?_ | refine x_then ?_ | refine x_block ?_)
    have he : itErr m x = firstE (chErr m) x.charges := by unfold itErr; rw [if_neg hl8, if_neg hneg2]
    rw [he] at f1 f2
    repeat (with_reducible first | refine c_seq ?_ | refine c_block ?_ | refine c_skip ?_ | refine x_then ?_ | refine x_block ?_)
    refine c_reg ?_
    refine l_pure rfl (s_fld  h6 fo_32_2 ?_)
    refine l_read rfl (s_ldo (k := 0)  rfl vi_30 hS rfl rfl rfl (.inr rfl) ?_)
    refine l_pure rfl (s_lenr  rfl (hch.below hS.below) ⟨_, Tryz.underlying30⟩ ?_)
    refine l_pure rfl (s_move  rfl ?_)
    refine l_nil ?_
    repeat (with_reducible first | refine c_seq ?_ | refine c_skip ?_ | refine x_then ?_ | refine x_block ?_)
    refine c_cut1 (fun ρ w' => firstE (chErr m) x.charges = 0 ∧ ρ 1 = vo ∧ ρ 19 = vi_ ∧ ρ 20 = .int .i64 X.length ∧ ρ 21 = .int .i64 i ∧ St w w' []) ?_ ?_
    · repeat (with_reducible first | refine c_seq ?_ | refine c_block ?_ | refine c_skip ?_ | refine x_then ?_ | refine x_block ?_)
      refine c_loop (σ := Nat) (fun k ρ w' => k ≤ x.charges.length ∧ firstE (chErr m) (x.charges.take k) = 0 ∧ ρ 1 = vo ∧ ρ 19 = vi_ ∧ ρ 20 = .int .i64 X.length ∧ ρ 21 = .int .i64 i ∧ ρ 40 = .slice ca x.charges.length ccap ∧ ρ 41 = .int .i64 x.charges.length ∧ ρ 42 = .int .i64 k ∧ St w w' []) (fun k => x.charges.length - k) 0
        ⟨Nat.zero_le _, rfl, h1, h19, h20, h21, rfl, rfl, rfl, hS.drop (List.nil_sublist _)⟩ ?_
      clear hS h1 h6 h19 h20 h21 h38
      rintro k ρ w4 ⟨hk1, hok, h1, h19, h20, h21, h40, h41, h42, hS⟩
      repeat (with_reducible first | refine c_seq ?_ | refine c_block ?_ | refine c_skip ?_ | refine x_then ?_ | refine x_block ?_)
      refine c_reg ?_
      refine l_pure rfl (s_lss  h42 h41 ?_)
      refine l_nil ?_
      repeat (with_reducible first | refine c_seq ?_ | refine c_block ?_ | refine c_skip ?_ | refine x_then ?_ | refine x_block ?_)
      by_cases hk : k < x.charges.length
      · refine c_yes rfl (decide_eq_true (by omega)) ?_
        repeat (with_reducible first | refine c_seq ?_ | refine c_block ?_ | refine c_skip ?_ | refine x_then ?_ | refine x_block ?_)
        obtain ⟨c, hc⟩ : ∃ c, c = x.charges.getD k zCh := ⟨_, rfl⟩
        have hm2 : c ∈ x.charges := by rw [hc]; exact getD_mem x.charges k zCh hk
        have hcl : Lr c.limit ≤ MX := hxB.2.2 c hm2
        obtain ⟨e1, e2⟩ := firstE_step (chErr m) x.charges zCh hk hok
        rw [← hc] at e1 e2
        repeat (with_reducible first | refine c_seq ?_ | refine c_block ?_ | refine c_skip ?_ | refine x_then ?_ | refine x_block ?_)
        refine c_reg ?_
        refine l_pure rfl (s_ixr (i := k)  h40 h42 (hch.below hS.below) (by omega) (by first | omega | (simp; done) | (simp; omega)) si_30 ?_)
        refine l_read rfl (s_lde (i := k) zCh  rfl vi_38 (hch.below hS.below) (by first | omega | (simp; done) | (simp; omega)) rfl rfl (.inl rfl) ?_)
        refine l_heavy rfl (s_alloc  vi_38 hS ?_)
        intro b8 wz9 hS hBz9
        refine l_heavy rfl (s_sta (k := 0)  rfl rfl vi_38 hS rfl rfl rfl (Nat.le_of_ble_eq_true rfl) rfl ?_)
        intro wz10 hS
        refine l_nil ?_
        repeat (with_reducible first | refine c_seq ?_ | refine c_block ?_ | refine c_skip ?_ | refine x_then ?_ | refine x_block ?_)
        rw [← hc] at hS
        replace hS : St w _ [(_, 38, encCh c)] := hS
        refine c_cut1 (fun ρ w' => ρ 1 = vo ∧ ρ 8 = .pointer (some ⟨b8, 0, none⟩) ∧ ρ 19 = vi_ ∧ ρ 20 = .int .i64 X.length ∧ ρ 21 = .int .i64 i ∧ ρ 40 = .slice ca x.charges.length ccap ∧ ρ 41 = .int .i64 x.charges.length ∧ ρ 42 = .int .i64 k ∧ ρ 55 = .bool (decide (c.claim < 0 ∨ (m : Int) ≤ c.claim)) ∧ St w w' [(b8, 38, encCh c)]) ?_ ?_
        · repeat (with_reducible first | refine c_seq ?_ | refine c_block ?_ | refine c_skip ?_ | refine x_then ?_ | refine x_block ?_)
          by_cases hp : c.claim < 0
          · repeat (with_reducible first | refine c_seq ?_ | refine c_block ?_ | refine c_skip ?_ | refine x_then ?_ | refine x_block ?_)
            refine c_reg ?_
            refine l_pure rfl (s_fld  rfl fo_38_0 ?_)
            refine l_read rfl (s_ldo (k := 0)  rfl vi_3 hS rfl rfl rfl (.inr rfl) ?_)
            refine l_pure rfl (s_lss  rfl rfl ?_)
            refine l_pure rfl (s_move  rfl ?_)
            refine l_no (gno_yes 49 (by kernel_rfl) rfl (decide_eq_true hp)) ?_
            refine l_no (gno_yes 49 (by kernel_rfl) rfl (decide_eq_true hp)) ?_
            refine l_no (gno_yes 49 (by kernel_rfl) rfl (decide_eq_true hp)) ?_
            refine l_no (gno_yes 49 (by kernel_rfl) rfl (decide_eq_true hp)) ?_
            refine l_no (gno_yes 49 (by kernel_rfl) rfl (decide_eq_true hp)) ?_
            refine l_pure rfl (s_pick (vb rfl (decide_eq_true hp)) rfl ?_)
            refine l_nil ?_
            repeat (with_reducible first | refine c_seq ?_ | refine c_block ?_ | refine c_skip ?_ | refine x_then ?_ | refine x_block ?_)
            exact ⟨_, rfl, h1, rfl, h19, h20, h21, h40, h41, h42, vb rfl (decide_eq_true (.inl hp)).symm, hS⟩
          · repeat (with_reducible first | refine c_seq ?_ | refine c_block ?_ | refine c_skip ?_ | refine x_then ?_ | refine x_block ?_)
            refine c_reg ?_
            refine l_pure rfl (s_fld  rfl fo_38_0 ?_)
            refine l_read rfl (s_ldo (k := 0)  rfl vi_3 hS rfl rfl rfl (.inr rfl) ?_)
            refine l_pure rfl (s_lss  rfl rfl ?_)
            refine l_pure rfl (s_move  rfl ?_)
            refine l_pure (gd_yes 49 (by kernel_rfl) rfl (decide_eq_false hp)) (s_fld  rfl fo_38_0 ?_)
            refine l_read (gd_yes 49 (by kernel_rfl) rfl (decide_eq_false hp)) (s_ldo (k := 0)  rfl vi_3 hS rfl rfl rfl (.inr rfl) ?_)
            refine l_pure (gd_yes 49 (by kernel_rfl) rfl (decide_eq_false hp)) (s_move  h1 ?_)
            refine l_pure (gd_yes 49 (by kernel_rfl) rfl (decide_eq_false hp)) (s_lenr  rfl (ho.below hS.below) ⟨_, Tryz.underlying24⟩ ?_)
            refine l_pure (gd_yes 49 (by kernel_rfl) rfl (decide_eq_false hp)) (s_geq  rfl rfl ?_)
            refine l_pure rfl (s_pick (vb rfl (decide_eq_false hp)) rfl ?_)
            refine l_nil ?_
            repeat (with_reducible first | refine c_seq ?_ | refine c_block ?_ | refine c_skip ?_ | refine x_then ?_ | refine x_block ?_)
            exact ⟨_, rfl, h1, rfl, h19, h20, h21, h40, h41, h42, vb rfl (by rw [decide_eq_decide]; omega), hS⟩
        clear hS h1 h19 h20 h21 h40 h41 h42
        rintro ρ w5 ⟨h1, h8, h19, h20, h21, h40, h41, h42, h55, hS⟩
        repeat (with_reducible first | refine c_seq ?_ | refine c_block ?_ | refine c_skip ?_ | refine x_then ?_ | refine x_block ?_)
        by_cases hr : c.claim < 0 ∨ (m : Int) ≤ c.claim
        · refine c_yes h55 (decide_eq_true hr) ?_
          repeat (with_reducible first | refine c_seq ?_ | refine c_block ?_ | refine c_skip ?_ | refine x_then ?_ | refine x_block ?_)
          have he1 : chErr m c = 1 := by unfold chErr; rw [if_pos hr]
          repeat (with_reducible first | refine c_seq ?_ | refine c_block ?_ | refine c_skip ?_ | refine x_then ?_ | refine x_block ?_)
          refine c_reg ?_
          refine l_pure rfl (s_asg  rfl ?_)
          refine l_nil ?_
          repeat (with_reducible first | refine c_seq ?_ | refine c_block ?_ | refine c_skip ?_ | refine x_then ?_ | refine x_block ?_)
          refine c_ret ?_
          repeat (with_reducible first | refine x_then_ret ?_ | refine x_block_ret ?_)
          refine r_one rfl rfl ?_
          exact ⟨vi rfl (by rw [f2 (by rw [e2 (by rw [he1]; decide), he1]; decide), e2 (by rw [he1]; decide), he1]), hS.below⟩
        refine c_no h55 (decide_eq_false hr) ?_
        repeat (with_reducible first | refine c_seq ?_ | refine c_block ?_ | refine c_skip ?_ | refine x_then ?_ | refine x_block ?_)
        refine c_cut1 (fun ρ w' => ρ 1 = vo ∧ ρ 19 = vi_ ∧ ρ 20 = .int .i64 X.length ∧ ρ 21 = .int .i64 i ∧ ρ 40 = .slice ca x.charges.length ccap ∧ ρ 41 = .int .i64 x.charges.length ∧ ρ 42 = .int .i64 k ∧ ρ 63 = .bool (decide (c.lim = true ∧ toQ c.limit < 0)) ∧ St w w' [(b8, 38, encCh c)]) ?_ ?_
        · repeat (with_reducible first | refine c_seq ?_ | refine c_block ?_ | refine c_skip ?_ | refine x_then ?_ | refine x_block ?_)
          by_cases hp : c.lim = true
          · repeat (with_reducible first | refine c_seq ?_ | refine c_block ?_ | refine c_skip ?_ | refine x_then ?_ | refine x_block ?_)
            refine c_reg ?_
            refine l_pure rfl (s_fld  h8 fo_38_2 ?_)
            refine l_read rfl (s_ldo (k := 0)  rfl vi_4 hS rfl rfl rfl (.inr rfl) ?_)
            refine l_pure rfl (s_move  rfl ?_)
            refine l_pure (gd_yes 58 (by kernel_rfl) rfl hp) (s_fld  h8 fo_38_3 ?_)
            refine l_read (gd_yes 58 (by kernel_rfl) rfl hp) (s_ldo (k := 0)  rfl vi_29 hS rfl rfl rfl (.inl rfl) ?_)
            refine l_heavy (gd_yes 58 (by kernel_rfl) rfl hp) (s_call Tryz.call11 rfl (Sign_ok c.limit _ hcl) ?_)
            rintro _ wc11 ⟨rfl, hBc11⟩
            replace hS := hS.grow hBc11
            refine l_pure (gd_yes 58 (by kernel_rfl) rfl hp) (s_lss  rfl rfl ?_)
            refine l_pure rfl (s_pick (vb rfl hp) rfl ?_)
            refine l_nil ?_
            repeat (with_reducible first | refine c_seq ?_ | refine c_block ?_ | refine c_skip ?_ | refine x_then ?_ | refine x_block ?_)
            exact ⟨_, rfl, h1, h19, h20, h21, h40, h41, h42, vb rfl (by rw [decide_eq_decide, sgnQ_neg]; exact ⟨fun g => ⟨hp, g⟩, fun g => g.2⟩), hS⟩
          · repeat (with_reducible first | refine c_seq ?_ | refine c_block ?_ | refine c_skip ?_ | refine x_then ?_ | refine x_block ?_)
            refine c_reg ?_
            refine l_pure rfl (s_fld  h8 fo_38_2 ?_)
            refine l_read rfl (s_ldo (k := 0)  rfl vi_4 hS rfl rfl rfl (.inr rfl) ?_)
            refine l_pure rfl (s_move  rfl ?_)
            refine l_no (gno_yes 58 (by kernel_rfl) rfl (show c.lim = false from Bool.eq_false_iff.2 hp)) ?_
            refine l_no (gno_yes 58 (by kernel_rfl) rfl (show c.lim = false from Bool.eq_false_iff.2 hp)) ?_
            refine l_no (gno_yes 58 (by kernel_rfl) rfl (show c.lim = false from Bool.eq_false_iff.2 hp)) ?_
            refine l_no (gno_yes 58 (by kernel_rfl) rfl (show c.lim = false from Bool.eq_false_iff.2 hp)) ?_
            refine l_pure rfl (s_pick (vb rfl (show c.lim = false from Bool.eq_false_iff.2 hp)) rfl ?_)
            refine l_nil ?_
            repeat (with_reducible first | refine c_seq ?_ | refine c_block ?_ | refine c_skip ?_ | refine x_then ?_ | refine x_block ?_)
            exact ⟨_, rfl, h1, h19, h20, h21, h40, h41, h42, vb rfl (decide_eq_false (fun g => hp g.1)).symm, hS⟩
        clear hS h1 h8 h19 h20 h21 h40 h41 h42 h55
        rintro ρ w6 ⟨h1, h19, h20, h21, h40, h41, h42, h63, hS⟩
        repeat (with_reducible first | refine c_seq ?_ | refine c_block ?_ | refine c_skip ?_ | refine x_then ?_ | refine x_block ?_)
        by_cases hlm : c.lim = true ∧ toQ c.limit < 0
        · refine c_yes h63 (decide_eq_true hlm) ?_
          repeat (with_reducible first | refine c_seq ?_ | refine c_block ?_ | refine c_skip ?_ | refine x_then ?_ | refine x_block ?_)
          have he1 : chErr m c = 7 := by unfold chErr; rw [if_neg hr, if_pos hlm]
          repeat (with_reducible first | refine c_seq ?_ | refine c_block ?_ | refine c_skip ?_ | refine x_then ?_ | refine x_block ?_)
          refine c_reg ?_
          refine l_pure rfl (s_asg  rfl ?_)
          refine l_nil ?_
          repeat (with_reducible first | refine c_seq ?_ | refine c_block ?_ | refine c_skip ?_ | refine x_then ?_ | refine x_block ?_)
          refine c_ret ?_
          repeat (with_reducible first | refine x_then_ret ?_ | refine x_block_ret ?_)
          refine r_one rfl rfl ?_
          exact ⟨vi rfl (by rw [f2 (by rw [e2 (by rw [he1]; decide), he1]; decide), e2 (by rw [he1]; decide), he1]), hS.below⟩
        refine c_no h63 (decide_eq_false hlm) ?_
        repeat (with_reducible first | refine c_seq ?_ | refine c_block ?_ | refine c_skip ?_ | refine x_then ?_ | refine x_block ?_)
        have he1 : chErr m c = 0 := by unfold chErr; rw [if_neg hr, if_neg hlm]
        repeat (with_reducible first | refine c_seq ?_ | refine c_block ?_ | refine c_skip ?_ | refine x_then ?_ | refine x_block ?_)
        refine c_reg ?_
        refine l_pure rfl (s_add  h42 rfl (IntWalk.i64_in _ (by omega)) ?_)
        refine l_pure rfl (s_move  rfl ?_)
        refine l_nil ?_
        repeat (with_reducible first | refine c_seq ?_ | refine c_block ?_ | refine c_skip ?_ | refine x_then ?_ | refine x_block ?_)
        exact ⟨k + 1, _, rfl, ⟨hk, e1 he1, h1, h19, h20, h21, h40, h41, vi rfl (by omega), hS.drop (List.nil_sublist _)⟩, by omega⟩
      · refine c_no rfl (decide_eq_false (by omega)) ?_
        repeat (with_reducible first | refine c_seq ?_ | refine c_block ?_ | refine c_skip ?_ | refine x_then ?_ | refine x_block ?_)
        refine c_exit ?_
        repeat (with_reducible first | refine x_then_exit ?_ | refine x_block_exit ?_ | refine x_block_pass rfl ?_)
        repeat (with_reducible first | refine c_seq ?_ | refine c_block ?_ | refine c_skip ?_ | refine x_then ?_ | refine x_block ?_)
        obtain rfl : k = x.charges.length := by omega
        rw [List.take_length] at hok
        exact ⟨_, rfl, hok, h1, h19, h20, h21, hS⟩
    clear hS h1 h6 h19 h20 h21 h38
    rintro ρ w7 ⟨hok2, h1, h19, h20, h21, hS⟩
    repeat (with_reducible first | refine c_seq ?_ | refine c_block ?_ | refine c_skip ?_ | refine x_then ?_ | refine x_block ?_)
    refine c_reg ?_
    refine l_pure rfl (s_add  h21 rfl (IntWalk.i64_in _ (by omega)) ?_)
    refine l_pure rfl (s_move  rfl ?_)
    refine l_nil ?_
    repeat (with_reducible first | refine c_seq ?_ | refine c_block ?_ | refine c_skip ?_ | refine x_then ?_ | refine x_block ?_)
    exact ⟨i + 1, _, rfl, ⟨hlt, f1 hok2, h1, h19, h20, vi rfl (by omega), hS⟩, by omega⟩
  · refine c_no rfl (decide_eq_false (by omega)) ?_
    repeat (with_reducible first | refine c_seq ?_ | refine c_block ?_ | refine c_skip ?_ | refine x_then ?_ | refine x_block ?_)
    refine c_exit ?_
    repeat (with_reducible first | refine x_then_exit ?_ | refine x_block_exit ?_ | refine x_block_pass rfl ?_)
    repeat (with_reducible first | refine c_seq ?_ | refine c_block ?_ | refine c_skip ?_ | refine x_then ?_ | refine x_block ?_)
    obtain rfl : i = X.length := by omega
    rw [List.take_length] at hok1
    repeat (with_reducible first | refine c_seq ?_ | refine c_block ?_ | refine c_skip ?_ | refine x_then ?_ | refine x_block ?_)
    refine c_reg ?_
    refine l_pure rfl (s_asg  rfl ?_)
    refine l_nil ?_
    repeat (with_reducible first | refine c_seq ?_ | refine c_block ?_ | refine c_skip ?_ | refine x_then ?_ | refine x_block ?_)
    refine c_ret ?_
    repeat (with_reducible first | refine x_then_ret ?_ | refine x_block_ret ?_)
    refine r_one rfl rfl ?_
    exact ⟨vi rfl hok1.symm, hS.below⟩
end Go.Proofs.YtknccjbkacaelaaGreatDoor
namespace Go.Proofs.YtknccjbkacaelaaGreatDoor
open Go Go.RowKit Go.Sx
set_option maxHeartbeats 1000000 in
theorem rCheck_ok (vi_ vo : Value) (X : List It) (cvs : List Value) (owed : List RR) (w : World) (hX : Its w vi_ X cvs) (ho : Sl encR 3 w vo owed) (hXB : ItB MX X) (hoB : RB MX owed) :
    Ret Tryz.prog 41 #[vi_, vo] w fun r w' => r = .int .i64 (checkE X owed) ∧ Below w.heap.size w w' := by
  have hmo := ho.maxLen
  have hmX := hX.sl.maxLen
  rw [hX.zlen] at hmX
  have hzl := hX.zlen
  have hS := St.init w
  obtain ⟨m, hm⟩ : ∃ m, m = owed.length := ⟨_, rfl⟩
  refine enter Tryz.func41 rfl Tryz.ntmps41 rfl ?_
  repeat (with_reducible first | refine c_seq ?_ | refine c_block ?_ | refine c_skip ?_ | refine x_then ?_ | refine x_block ?_)
  refine c_reg ?_
  refine l_pure rfl (s_asg  rfl ?_)
  refine l_nil ?_
  repeat (with_reducible first | refine c_seq ?_ | refine c_block ?_ | refine c_skip ?_ | refine x_then ?_ | refine x_block ?_)
  refine c_cut1 (fun ρ w' => ρ 0 = vi_ ∧ ρ 1 = vo ∧ ρ 17 = .bool (decide (8 < X.length ∨ 24 < owed.length)) ∧ w = w') ?_ ?_
  · by_cases h1 : 8 < X.length
    · repeat (with_reducible first | refine c_seq ?_ | refine c_block ?_ | refine c_skip ?_ | refine x_then ?_ | refine x_block ?_)
      refine c_reg ?_
      refine l_pure rfl (s_move  rfl ?_)
      refine l_pure rfl (s_lenr  rfl (hX.sl.below hS.below) ⟨_, Tryz.underlying26⟩ ?_)
      refine l_pure rfl (s_gtr  rfl rfl ?_)
      refine l_pure rfl (s_move  rfl ?_)
      refine l_no (gno_yes 13 (by kernel_rfl) rfl (decide_eq_true (by omega))) ?_
      refine l_no (gno_yes 13 (by kernel_rfl) rfl (decide_eq_true (by omega))) ?_
      refine l_no (gno_yes 13 (by kernel_rfl) rfl (decide_eq_true (by omega))) ?_
      refine l_pure rfl (s_pick (vb rfl (decide_eq_true (by omega))) rfl ?_)
      refine l_nil ?_
      repeat (with_reducible first | refine c_seq ?_ | refine c_block ?_ | refine c_skip ?_ | refine x_then ?_ | refine x_block ?_)
      exact ⟨_, rfl, rfl, rfl, vb rfl (decide_eq_true (.inl h1)).symm, rfl⟩
    · repeat (with_reducible first | refine c_seq ?_ | refine c_block ?_ | refine c_skip ?_ | refine x_then ?_ | refine x_block ?_)
      refine c_reg ?_
      refine l_pure rfl (s_move  rfl ?_)
      refine l_pure rfl (s_lenr  rfl (hX.sl.below hS.below) ⟨_, Tryz.underlying26⟩ ?_)
      refine l_pure rfl (s_gtr  rfl rfl ?_)
      refine l_pure rfl (s_move  rfl ?_)
      refine l_pure (gd_yes 13 (by kernel_rfl) rfl (decide_eq_false (by omega))) (s_move  rfl ?_)
      refine l_pure (gd_yes 13 (by kernel_rfl) rfl (decide_eq_false (by omega))) (s_lenr  rfl (ho.below hS.below) ⟨_, Tryz.underlying24⟩ ?_)
      refine l_pure (gd_yes 13 (by kernel_rfl) rfl (decide_eq_false (by omega))) (s_gtr  rfl rfl ?_)
      refine l_pure rfl (s_pick (vb rfl (decide_eq_false (by omega))) rfl ?_)
      refine l_nil ?_
      repeat (with_reducible first | refine c_seq ?_ | refine c_block ?_ | refine c_skip ?_ | refine x_then ?_ | refine x_block ?_)
      exact ⟨_, rfl, rfl, rfl, vb rfl (by rw [decide_eq_decide]; omega), rfl⟩
  rintro ρ w' ⟨h0, h1, h17, rfl⟩
  repeat (with_reducible first | refine c_seq ?_ | refine c_block ?_ | refine c_skip ?_ | refine x_then ?_ | refine x_block ?_)
  by_cases hlong : 8 < X.length ∨ 24 < owed.length
  · refine c_yes h17 (decide_eq_true hlong) ?_
    repeat (with_reducible first | refine c_seq ?_ | refine c_block ?_ | refine c_skip ?_ | refine x_then ?_ | refine x_block ?_)
    refine c_reg ?_
    refine l_pure rfl (s_asg  rfl ?_)
    refine l_nil ?_
    repeat (with_reducible first | refine c_seq ?_ | refine c_block ?_ | refine c_skip ?_ | refine x_then ?_ | refine x_block ?_)
    refine c_ret ?_
    repeat (with_reducible first | refine x_then_ret ?_ | refine x_block_ret ?_)
    refine r_one rfl rfl ?_
    exact ⟨vi rfl (by unfold checkE; rw [if_pos hlong]), hS.below⟩
  refine c_no h17 (decide_eq_false hlong) ?_
  repeat (with_reducible first | refine c_seq ?_ | refine c_block ?_ | refine c_skip ?_ | refine x_then ?_ | refine x_block ?_)
  refine c_reg ?_
  refine l_pure rfl (s_asg  rfl ?_)
  refine l_nil ?_
  repeat (with_reducible first | refine c_seq ?_ | refine c_skip ?_ | refine x_then ?_ | refine x_block ?_)
  refine c_cut1 (fun ρ w' => negs owed = false ∧ ρ 0 = vi_ ∧ ρ 1 = vo ∧ St w w' []) ?_ ?_
  · repeat (with_reducible first | refine c_seq ?_ | refine c_block ?_ | refine c_skip ?_ | refine x_then ?_ | refine x_block ?_)
    refine c_loop (σ := Nat) (fun i ρ w' => i ≤ owed.length ∧ negs (owed.take i) = false ∧ ρ 0 = vi_ ∧ ρ 1 = vo ∧ ρ 5 = .int .i64 i ∧ St w w' []) (fun i => owed.length - i) 0
      ⟨Nat.zero_le _, rfl, h0, h1, rfl, hS⟩ ?_
    clear hS h0 h1 h17
    rintro i ρ w2 ⟨hi, hn, h0, h1, h5, hS⟩
    repeat (with_reducible first | refine c_seq ?_ | refine c_block ?_ | refine c_skip ?_ | refine x_then ?_ | refine x_block ?_)
    refine c_reg ?_
    refine l_pure rfl (s_move  h5 ?_)
    refine l_pure rfl (s_move  h1 ?_)
    refine l_pure rfl (s_lenr  rfl (ho.below hS.below) ⟨_, Tryz.underlying24⟩ ?_)
    refine l_pure rfl (s_lss  rfl rfl ?_)
    refine l_nil ?_
    repeat (with_reducible first | refine c_seq ?_ | refine c_block ?_ | refine c_skip ?_ | refine x_then ?_ | refine x_block ?_)
    by_cases hlt : i < owed.length
    · refine c_yes rfl (decide_eq_true (by omega)) ?_
      repeat (with_reducible first | refine c_seq ?_ | refine c_block ?_ | refine c_skip ?_ | refine x_then ?_ | refine x_block ?_)
      obtain ⟨t1, t2⟩ := negs_take owed hlt hn
      repeat (with_reducible first | refine c_seq ?_ | refine c_block ?_ | refine c_skip ?_ | refine x_then ?_ | refine x_block ?_)
      refine c_reg ?_
      refine l_pure rfl (s_move  h1 ?_)
      refine l_pure rfl (s_move  h5 ?_)
      refine l_pure rfl (s_ixr (i := i)  rfl rfl (ho.below hS.below) (by omega) (by first | omega | (simp; done) | (simp; omega)) si_24 ?_)
      refine l_read rfl (s_lde (i := i) zRR  rfl vi_29 (ho.below hS.below) (by first | omega | (simp; done) | (simp; omega)) rfl rfl (.inl rfl) ?_)
      refine l_heavy rfl (s_call Tryz.call68 rfl (rSign_ok (owed.getD i zRR) _ (hoB _ (getD_mem owed i zRR hlt))) ?_)
      rintro _ wc1 ⟨rfl, hBc1⟩
      replace hS := hS.grow hBc1
      refine l_pure rfl (s_lss  rfl rfl ?_)
      refine l_nil ?_
      repeat (with_reducible first | refine c_seq ?_ | refine c_block ?_ | refine c_skip ?_ | refine x_then ?_ | refine x_block ?_)
      by_cases hneg : toQ (owed.getD i zRR) < 0
      · refine c_yes rfl (decide_eq_true (sgnQ_neg.2 hneg)) ?_
        repeat (with_reducible first | refine c_seq ?_ | refine c_block ?_ | refine c_skip ?_ | refine x_then ?_ | refine x_block ?_)
        refine c_reg ?_
        refine l_pure rfl (s_asg  rfl ?_)
        refine l_nil ?_
        repeat (with_reducible first | refine c_seq ?_ | refine c_block ?_ | refine c_skip ?_ | refine x_then ?_ | refine x_block ?_)
        refine c_ret ?_
        repeat (with_reducible first | refine x_then_ret ?_ | refine x_block_ret ?_)
        refine r_one rfl rfl ?_
        exact ⟨vi rfl (by unfold checkE; rw [if_neg hlong, if_pos (t2 hneg)]), hS.below⟩
      · refine c_no rfl (decide_eq_false (fun g => hneg (sgnQ_neg.1 g))) ?_
        repeat (with_reducible first | refine c_seq ?_ | refine c_block ?_ | refine c_skip ?_ | refine x_then ?_ | refine x_block ?_)
        refine c_reg ?_
        refine l_pure rfl (s_move  h5 ?_)
        refine l_pure rfl (s_add  rfl rfl (IntWalk.i64_in _ (by omega)) ?_)
        refine l_pure rfl (s_asg  rfl ?_)
        refine l_nil ?_
        repeat (with_reducible first | refine c_seq ?_ | refine c_block ?_ | refine c_skip ?_ | refine x_then ?_ | refine x_block ?_)
        exact ⟨i + 1, _, rfl, ⟨hlt, t1 hneg, h0, h1, vi rfl (by omega), hS⟩, by omega⟩
    · refine c_no rfl (decide_eq_false (by omega)) ?_
      repeat (with_reducible first | refine c_seq ?_ | refine c_block ?_ | refine c_skip ?_ | refine x_then ?_ | refine x_block ?_)
      refine c_exit ?_
      repeat (with_reducible first | refine x_then_exit ?_ | refine x_block_exit ?_ | refine x_block_pass rfl ?_)
      repeat (with_reducible first | refine c_seq ?_ | refine c_block ?_ | refine c_skip ?_ | refine x_then ?_ | refine x_block ?_)
      obtain rfl : i = owed.length := by omega
      rw [List.take_length] at hn
      exact ⟨_, rfl, hn, h0, h1, hS⟩
  clear hS h0 h1 h17
  rintro ρ w2 ⟨hneg, h0, h1, hS⟩
  have hfin : checkE X owed = firstE (itErr m) X := by unfold checkE; rw [if_neg hlong, if_neg (by rw [hneg]; decide), hm]
  rw [hfin]
  repeat (with_reducible first | refine c_seq ?_ | refine c_block ?_ | refine c_skip ?_ | refine x_then ?_ | refine x_block ?_)
  refine c_reg ?_
  refine l_pure rfl (s_asg  rfl ?_)
  refine l_nil ?_
  repeat (with_reducible first | refine c_seq ?_ | refine c_block ?_ | refine c_skip ?_ | refine x_then ?_ | refine x_block ?_)
  refine c_loop (σ := Nat) (fun i ρ w' => i ≤ X.length ∧ firstE (itErr m) (X.take i) = 0 ∧ ρ 0 = vi_ ∧ ρ 1 = vo ∧ ρ 6 = .int .i64 i ∧ St w w' []) (fun i => X.length - i) 0
    ⟨Nat.zero_le _, rfl, h0, h1, rfl, hS⟩ ?_
  clear hS h0 h1
  rintro i ρ w2 ⟨hi, hok1, h0, h1, h6, hS⟩
  repeat (with_reducible first | refine c_seq ?_ | refine c_block ?_ | refine c_skip ?_ | refine x_then ?_ | refine x_block ?_)
  refine c_reg ?_
  refine l_pure rfl (s_move  h6 ?_)
  refine l_pure rfl (s_move  h0 ?_)
  refine l_pure rfl (s_lenr  rfl (hX.sl.below hS.below) ⟨_, Tryz.underlying26⟩ ?_)
  refine l_pure rfl (s_lss  rfl rfl ?_)
  refine l_nil ?_
  repeat (with_reducible first | refine c_seq ?_ | refine c_block ?_ | refine c_skip ?_ | refine x_then ?_ | refine x_block ?_)
  by_cases hlt : i < X.length
  · refine c_yes rfl (decide_eq_true (by omega)) ?_
    repeat (with_reducible first | refine c_seq ?_ | refine c_block ?_ | refine c_skip ?_ | refine x_then ?_ | refine x_block ?_)
    obtain ⟨x, hx⟩ : ∃ x, x = X.getD i zIt := ⟨_, rfl⟩
    obtain ⟨cv, hcv⟩ : ∃ cv, cv = cvs.getD i undef := ⟨_, rfl⟩
    have hmem : x ∈ X := by rw [hx]; exact getD_mem X i zIt hlt
    have hxB := hXB x hmem
    have hch := hX.ch i hlt
    rw [← hx, ← hcv] at hch
    have hmc := hch.maxLen
    obtain ⟨ca, ccap, hcve, _⟩ := hch.form
    subst hcve
    have hzg := hX.zget hlt
    rw [← hx, ← hcv] at hzg
    obtain ⟨f1, f2⟩ := firstE_step (itErr m) X zIt hlt hok1
    rw [← hx] at f1 f2
    repeat (with_reducible first | refine c_seq ?_ | refine c_block ?_ | refine c_skip ?_ | refine x_then ?_ | refine x_block ?_)
    refine c_reg ?_
    refine l_pure rfl (s_move  h0 ?_)
    refine l_pure rfl (s_move  h6 ?_)
    refine l_pure rfl (s_ixr (i := i)  rfl rfl (hX.sl.below hS.below) (by omega) (by first | omega | (simp; done) | (simp; omega)) si_26 ?_)
    refine l_read rfl (s_lde (v := aggIt x (.slice ca x.charges.length ccap)) (i := i) (zIt, undef)  rfl vi_32 (hX.sl.below hS.below) (by omega) rfl (by rw [hzg]; rfl) (.inl rfl) ?_)
    refine l_heavy rfl (s_alloc  vi_32 hS ?_)
    intro bi wz2 hS hBz2
    refine l_heavy rfl (s_sta (k := 0)  rfl rfl vi_32 hS rfl rfl rfl (Nat.le_of_ble_eq_true rfl) rfl ?_)
    intro wz3 hS
    refine l_nil ?_
    repeat (with_reducible first | refine c_seq ?_ | refine c_block ?_ | refine c_skip ?_ | refine x_then ?_ | refine x_block ?_)
    replace hS : St w _ [(bi, 32, encIt (x, .slice ca x.charges.length ccap))] := hS
    repeat (with_reducible first | refine c_seq ?_ | refine c_block ?_ | refine c_skip ?_ | refine x_then ?_ | refine x_block ?_)
    refine c_reg ?_
    refine l_pure rfl (s_fld  rfl fo_32_2 ?_)
    refine l_read rfl (s_ldo (k := 0)  rfl vi_30 hS rfl rfl rfl (.inr rfl) ?_)
    refine l_pure rfl (s_lenr  rfl (hch.below hS.below) ⟨_, Tryz.underlying30⟩ ?_)
    refine l_pure rfl (s_gtr  rfl rfl ?_)
    refine l_nil ?_
    repeat (with_reducible first | refine c_seq ?_ | refine c_block ?_ | refine c_skip ?_ | refine x_then ?_ | refine x_block ?_)
    by_cases hl8 : 8 < x.charges.length
    · refine c_yes rfl (decide_eq_true (by omega)) ?_
      repeat (with_reducible first | refine c_seq ?_ | refine c_block ?_ | refine c_skip ?_ | refine x_then ?_ | refine x_block ?_)
      have he : itErr m x = 2 := by unfold itErr; rw [if_pos hl8]
      repeat (with_reducible first | refine c_seq ?_ | refine c_block ?_ | refine c_skip ?_ | refine x_then ?_ | refine x_block ?_)
      refine c_reg ?_
      refine l_pure rfl (s_asg  rfl ?_)
      refine l_nil ?_
      repeat (with_reducible first | refine c_seq ?_ | refine c_block ?_ | refine c_skip ?_ | refine x_then ?_ | refine x_block ?_)
      refine c_ret ?_
      repeat (with_reducible first | refine x_then_ret ?_ | refine x_block_ret ?_)
      refine r_one rfl rfl ?_
      exact ⟨vi rfl (by rw [f2 (by rw [he]; decide), he]), hS.below⟩
    refine c_no rfl (decide_eq_false (by omega)) ?_
    repeat (with_reducible first | refine c_seq ?_ | refine c_block ?_ | refine c_skip ?_ | refine x_then ?_ | refine x_block ?_)
    refine c_cut1 (fun ρ w' => ρ 0 = vi_ ∧ ρ 1 = vo ∧ ρ 6 = .int .i64 i ∧ ρ 7 = .pointer (some ⟨bi, 0, none⟩) ∧ ρ 53 = .bool (decide (toQ x.price < 0 ∨ toQ x.costs < 0)) ∧ St w w' [(bi, 32, encIt (x, .slice ca x.charges.length ccap))]) ?_ ?_
    · repeat (with_reducible first | refine c_seq ?_ | refine c_block ?_ | refine c_skip ?_ | refine x_then ?_ | refine x_block ?_)
      by_cases hp : toQ x.price < 0
      · repeat (with_reducible first | refine c_seq ?_ | refine c_block ?_ | refine c_skip ?_ | refine x_then ?_ | refine x_block ?_)
        refine c_reg ?_
        refine l_pure rfl (s_fld  rfl fo_32_0 ?_)
        refine l_read rfl (s_ldo (k := 0)  rfl vi_29 hS rfl rfl rfl (.inl rfl) ?_)
        refine l_heavy rfl (s_call Tryz.call68 rfl (rSign_ok x.price _ hxB.1) ?_)
        rintro _ wc4 ⟨rfl, hBc4⟩
        replace hS := hS.grow hBc4
        refine l_pure rfl (s_lss  rfl rfl ?_)
        refine l_pure rfl (s_move  rfl ?_)
        refine l_no (gno_yes 48 (by kernel_rfl) rfl (decide_eq_true (sgnQ_neg.2 hp))) ?_
        refine l_no (gno_yes 48 (by kernel_rfl) rfl (decide_eq_true (sgnQ_neg.2 hp))) ?_
        refine l_no (gno_yes 48 (by kernel_rfl) rfl (decide_eq_true (sgnQ_neg.2 hp))) ?_
        refine l_no (gno_yes 48 (by kernel_rfl) rfl (decide_eq_true (sgnQ_neg.2 hp))) ?_
        refine l_pure rfl (s_pick (vb rfl (decide_eq_true (sgnQ_neg.2 hp))) rfl ?_)
        refine l_nil ?_
        repeat (with_reducible first | refine c_seq ?_ | refine c_block ?_ | refine c_skip ?_ | refine x_then ?_ | refine x_block ?_)
        exact ⟨_, rfl, h0, h1, h6, rfl, vb rfl (decide_eq_true (.inl hp)).symm, hS⟩
      · repeat (with_reducible first | refine c_seq ?_ | refine c_block ?_ | refine c_skip ?_ | refine x_then ?_ | refine x_block ?_)
        refine c_reg ?_
        refine l_pure rfl (s_fld  rfl fo_32_0 ?_)
        refine l_read rfl (s_ldo (k := 0)  rfl vi_29 hS rfl rfl rfl (.inl rfl) ?_)
        refine l_heavy rfl (s_call Tryz.call68 rfl (rSign_ok x.price _ hxB.1) ?_)
        rintro _ wc5 ⟨rfl, hBc5⟩
        replace hS := hS.grow hBc5
        refine l_pure rfl (s_lss  rfl rfl ?_)
        refine l_pure rfl (s_move  rfl ?_)
        refine l_pure (gd_yes 48 (by kernel_rfl) rfl (decide_eq_false (fun g => hp (sgnQ_neg.1 g)))) (s_fld  rfl fo_32_1 ?_)
        refine l_read (gd_yes 48 (by kernel_rfl) rfl (decide_eq_false (fun g => hp (sgnQ_neg.1 g)))) (s_ldo (k := 0)  rfl vi_29 hS rfl rfl rfl (.inl rfl) ?_)
        refine l_heavy (gd_yes 48 (by kernel_rfl) rfl (decide_eq_false (fun g => hp (sgnQ_neg.1 g)))) (s_call Tryz.call68 rfl (rSign_ok x.costs _ hxB.2.1) ?_)
        rintro _ wc6 ⟨rfl, hBc6⟩
        replace hS := hS.grow hBc6
        refine l_pure (gd_yes 48 (by kernel_rfl) rfl (decide_eq_false (fun g => hp (sgnQ_neg.1 g)))) (s_lss  rfl rfl ?_)
        refine l_pure rfl (s_pick (vb rfl (decide_eq_false (fun g => hp (sgnQ_neg.1 g)))) rfl ?_)
        refine l_nil ?_
        repeat (with_reducible first | refine c_seq ?_ | refine c_block ?_ | refine c_skip ?_ | refine x_then ?_ | refine x_block ?_)
        exact ⟨_, rfl, h0, h1, h6, rfl, vb rfl (by rw [decide_eq_decide, sgnQ_neg]; exact ⟨.inr, fun g => g.resolve_left hp⟩), hS⟩
    clear hS h0 h1 h6
    rintro ρ w3 ⟨h0, h1, h6, h7, h53, hS⟩
    repeat (with_reducible first | refine c_seq ?_ | refine c_block ?_ | refine c_skip ?_ | refine x_then ?_ | refine x_block ?_)
    by_cases hneg2 : toQ x.price < 0 ∨ toQ x.costs < 0
    · refine c_yes h53 (decide_eq_true hneg2) ?_
      repeat (with_reducible first | refine c_seq ?_ | refine c_block ?_ | refine c_skip ?_ | refine x_then ?_ | refine x_block ?_)
      have he : itErr m x = 7 := by unfold itErr; rw [if_neg hl8, if_pos hneg2]
      repeat (with_reducible first | refine c_seq ?_ | refine c_block ?_ | refine c_skip ?_ | refine x_then ?_ | refine x_block ?_)
      refine c_reg ?_
      refine l_pure rfl (s_asg  rfl ?_)
      refine l_nil ?_
      repeat (with_reducible first | refine c_seq ?_ | refine c_block ?_ | refine c_skip ?_ | refine x_then ?_ | refine x_block ?_)
      refine c_ret ?_
      repeat (with_reducible first | refine x_then_ret ?_ | refine x_block_ret ?_)
      refine r_one rfl rfl ?_
      exact ⟨vi rfl (by rw [f2 (by rw [he]; decide), he]), hS.below⟩
    refine c_no h53 (decide_eq_false hneg2) ?_
    repeat (with_reducible first | refine c_seq ?_ | refine c_block ?_ | refine c_skip ?_ | refine x_then ?_ | refine x_block ?_)
    have he : itErr m x = firstE (chErr m) x.charges := by unfold itErr; rw [if_neg hl8, if_neg hneg2]
    rw [he] at f1 f2
    repeat (with_reducible first | refine c_seq ?_ | refine c_block ?_ | refine c_skip ?_ | refine x_then ?_ | refine x_block ?_)
    refine c_reg ?_
    refine l_pure rfl (s_asg  rfl ?_)
    refine l_nil ?_
    repeat (with_reducible first | refine c_seq ?_ | refine c_skip ?_ | refine x_then ?_ | refine x_block ?_)
    refine c_cut1 (fun ρ w' => firstE (chErr m) x.charges = 0 ∧ ρ 0 = vi_ ∧ ρ 1 = vo ∧ ρ 6 = .int .i64 i ∧ St w w' []) ?_ ?_
    · repeat (with_reducible first | refine c_seq ?_ | refine c_block ?_ | refine c_skip ?_ | refine x_then ?_ | refine x_block ?_)
      refine c_loop (σ := Nat) (fun k ρ w' => k ≤ x.charges.length ∧ firstE (chErr m) (x.charges.take k) = 0 ∧ ρ 0 = vi_ ∧ ρ 1 = vo ∧ ρ 6 = .int .i64 i ∧ ρ 7 = .pointer (some ⟨bi, 0, none⟩) ∧ ρ 8 = .int .i64 k ∧ St w w' [(bi, 32, encIt (x, .slice ca x.charges.length ccap))]) (fun k => x.charges.length - k) 0
        ⟨Nat.zero_le _, rfl, h0, h1, h6, h7, rfl, hS⟩ ?_
      clear hS h0 h1 h6 h7 h53
      rintro k ρ w4 ⟨hk1, hok, h0, h1, h6, h7, h8, hS⟩
      repeat (with_reducible first | refine c_seq ?_ | refine c_block ?_ | refine c_skip ?_ | refine x_then ?_ | refine x_block ?_)
      refine c_reg ?_
      refine l_pure rfl (s_move  h8 ?_)
      refine l_pure rfl (s_fld  h7 fo_32_2 ?_)
      refine l_read rfl (s_ldo (k := 0)  rfl vi_30 hS rfl rfl rfl (.inr rfl) ?_)
      refine l_pure rfl (s_lenr  rfl (hch.below hS.below) ⟨_, Tryz.underlying30⟩ ?_)
      refine l_pure rfl (s_lss  rfl rfl ?_)
      refine l_nil ?_
      repeat (with_reducible first | refine c_seq ?_ | refine c_block ?_ | refine c_skip ?_ | refine x_then ?_ | refine x_block ?_)
      by_cases hk : k < x.charges.length
      · refine c_yes rfl (decide_eq_true (by omega)) ?_
        repeat (with_reducible first | refine c_seq ?_ | refine c_block ?_ | refine c_skip ?_ | refine x_then ?_ | refine x_block ?_)
        obtain ⟨c, hc⟩ : ∃ c, c = x.charges.getD k zCh := ⟨_, rfl⟩
        have hm2 : c ∈ x.charges := by rw [hc]; exact getD_mem x.charges k zCh hk
        have hcl : Lr c.limit ≤ MX := hxB.2.2 c hm2
        obtain ⟨e1, e2⟩ := firstE_step (chErr m) x.charges zCh hk hok
        rw [← hc] at e1 e2
        repeat (with_reducible first | refine c_seq ?_ | refine c_block ?_ | refine c_skip ?_ | refine x_then ?_ | refine x_block ?_)
        refine c_reg ?_
        refine l_pure rfl (s_fld  h7 fo_32_2 ?_)
        refine l_read rfl (s_ldo (k := 0)  rfl vi_30 hS rfl rfl rfl (.inr rfl) ?_)
        refine l_pure rfl (s_move  h8 ?_)
        refine l_pure rfl (s_ixr (i := k)  rfl rfl (hch.below hS.below) (by omega) (by first | omega | (simp; done) | (simp; omega)) si_30 ?_)
        refine l_read rfl (s_lde (i := k) zCh  rfl vi_38 (hch.below hS.below) (by first | omega | (simp; done) | (simp; omega)) rfl rfl (.inl rfl) ?_)
        refine l_heavy rfl (s_alloc  vi_38 hS ?_)
        intro bc wz7 hS hBz7
        refine l_heavy rfl (s_sta (k := 0)  rfl rfl vi_38 hS rfl rfl rfl (Nat.le_of_ble_eq_true rfl) rfl ?_)
        intro wz8 hS
        refine l_nil ?_
        repeat (with_reducible first | refine c_seq ?_ | refine c_block ?_ | refine c_skip ?_ | refine x_then ?_ | refine x_block ?_)
        rw [← hc] at hS
        replace hS : St w _ [(bc, 38, encCh c), (bi, 32, encIt (x, .slice ca x.charges.length ccap))] := hS
        refine c_cut1 (fun ρ w' => ρ 0 = vi_ ∧ ρ 1 = vo ∧ ρ 6 = .int .i64 i ∧ ρ 7 = .pointer (some ⟨bi, 0, none⟩) ∧ ρ 8 = .int .i64 k ∧ ρ 9 = .pointer (some ⟨bc, 0, none⟩) ∧ ρ 75 = .bool (decide (c.claim < 0 ∨ (m : Int) ≤ c.claim)) ∧ St w w' [(bc, 38, encCh c), (bi, 32, encIt (x, .slice ca x.charges.length ccap))]) ?_ ?_
        · repeat (with_reducible first | refine c_seq ?_ | refine c_block ?_ | refine c_skip ?_ | refine x_then ?_ | refine x_block ?_)
          by_cases hp : c.claim < 0
          · repeat (with_reducible first | refine c_seq ?_ | refine c_block ?_ | refine c_skip ?_ | refine x_then ?_ | refine x_block ?_)
            refine c_reg ?_
            refine l_pure rfl (s_fld  rfl fo_38_0 ?_)
            refine l_read rfl (s_ldo (k := 0)  rfl vi_3 hS rfl rfl rfl (.inr rfl) ?_)
            refine l_pure rfl (s_lss  rfl rfl ?_)
            refine l_pure rfl (s_move  rfl ?_)
            refine l_no (gno_yes 69 (by kernel_rfl) rfl (decide_eq_true hp)) ?_
            refine l_no (gno_yes 69 (by kernel_rfl) rfl (decide_eq_true hp)) ?_
            refine l_no (gno_yes 69 (by kernel_rfl) rfl (decide_eq_true hp)) ?_
            refine l_no (gno_yes 69 (by kernel_rfl) rfl (decide_eq_true hp)) ?_
            refine l_no (gno_yes 69 (by kernel_rfl) rfl (decide_eq_true hp)) ?_
            refine l_pure rfl (s_pick (vb rfl (decide_eq_true hp)) rfl ?_)
            refine l_nil ?_
            repeat (with_reducible first | refine c_seq ?_ | refine c_block ?_ | refine c_skip ?_ | refine x_then ?_ | refine x_block ?_)
            exact ⟨_, rfl, h0, h1, h6, h7, h8, rfl, vb rfl (decide_eq_true (.inl hp)).symm, hS⟩
          · repeat (with_reducible first | refine c_seq ?_ | refine c_block ?_ | refine c_skip ?_ | refine x_then ?_ | refine x_block ?_)
            refine c_reg ?_
            refine l_pure rfl (s_fld  rfl fo_38_0 ?_)
            refine l_read rfl (s_ldo (k := 0)  rfl vi_3 hS rfl rfl rfl (.inr rfl) ?_)
            refine l_pure rfl (s_lss  rfl rfl ?_)
            refine l_pure rfl (s_move  rfl ?_)
            refine l_pure (gd_yes 69 (by kernel_rfl) rfl (decide_eq_false hp)) (s_fld  rfl fo_38_0 ?_)
            refine l_read (gd_yes 69 (by kernel_rfl) rfl (decide_eq_false hp)) (s_ldo (k := 0)  rfl vi_3 hS rfl rfl rfl (.inr rfl) ?_)
            refine l_pure (gd_yes 69 (by kernel_rfl) rfl (decide_eq_false hp)) (s_move  h1 ?_)
            refine l_pure (gd_yes 69 (by kernel_rfl) rfl (decide_eq_false hp)) (s_lenr  rfl (ho.below hS.below) ⟨_, Tryz.underlying24⟩ ?_)
            refine l_pure (gd_yes 69 (by kernel_rfl) rfl (decide_eq_false hp)) (s_geq  rfl rfl ?_)
            refine l_pure rfl (s_pick (vb rfl (decide_eq_false hp)) rfl ?_)
            refine l_nil ?_
            repeat (with_reducible first | refine c_seq ?_ | refine c_block ?_ | refine c_skip ?_ | refine x_then ?_ | refine x_block ?_)
            exact ⟨_, rfl, h0, h1, h6, h7, h8, rfl, vb rfl (by rw [decide_eq_decide]; omega), hS⟩
        clear hS h0 h1 h6 h7 h8
        rintro ρ w5 ⟨h0, h1, h6, h7, h8, h9, h75, hS⟩
        repeat (with_reducible first | refine c_seq ?_ | refine c_block ?_ | refine c_skip ?_ | refine x_then ?_ | refine x_block ?_)
        by_cases hr : c.claim < 0 ∨ (m : Int) ≤ c.claim
        · refine c_yes h75 (decide_eq_true hr) ?_
          repeat (with_reducible first | refine c_seq ?_ | refine c_block ?_ | refine c_skip ?_ | refine x_then ?_ | refine x_block ?_)
          have he1 : chErr m c = 1 := by unfold chErr; rw [if_pos hr]
          repeat (with_reducible first | refine c_seq ?_ | refine c_block ?_ | refine c_skip ?_ | refine x_then ?_ | refine x_block ?_)
          refine c_reg ?_
          refine l_pure rfl (s_asg  rfl ?_)
          refine l_nil ?_
          repeat (with_reducible first | refine c_seq ?_ | refine c_block ?_ | refine c_skip ?_ | refine x_then ?_ | refine x_block ?_)
          refine c_ret ?_
          repeat (with_reducible first | refine x_then_ret ?_ | refine x_block_ret ?_)
          refine r_one rfl rfl ?_
          exact ⟨vi rfl (by rw [f2 (by rw [e2 (by rw [he1]; decide), he1]; decide), e2 (by rw [he1]; decide), he1]), hS.below⟩
        refine c_no h75 (decide_eq_false hr) ?_
        repeat (with_reducible first | refine c_seq ?_ | refine c_block ?_ | refine c_skip ?_ | refine x_then ?_ | refine x_block ?_)
        refine c_cut1 (fun ρ w' => ρ 0 = vi_ ∧ ρ 1 = vo ∧ ρ 6 = .int .i64 i ∧ ρ 7 = .pointer (some ⟨bi, 0, none⟩) ∧ ρ 8 = .int .i64 k ∧ ρ 83 = .bool (decide (c.lim = true ∧ toQ c.limit < 0)) ∧ St w w' [(bc, 38, encCh c), (bi, 32, encIt (x, .slice ca x.charges.length ccap))]) ?_ ?_
        · repeat (with_reducible first | refine c_seq ?_ | refine c_block ?_ | refine c_skip ?_ | refine x_then ?_ | refine x_block ?_)
          by_cases hp : c.lim = true
          · repeat (with_reducible first | refine c_seq ?_ | refine c_block ?_ | refine c_skip ?_ | refine x_then ?_ | refine x_block ?_)
            refine c_reg ?_
            refine l_pure rfl (s_fld  h9 fo_38_2 ?_)
            refine l_read rfl (s_ldo (k := 0)  rfl vi_4 hS rfl rfl rfl (.inr rfl) ?_)
            refine l_pure rfl (s_move  rfl ?_)
            refine l_pure (gd_yes 78 (by kernel_rfl) rfl hp) (s_fld  h9 fo_38_3 ?_)
            refine l_read (gd_yes 78 (by kernel_rfl) rfl hp) (s_ldo (k := 0)  rfl vi_29 hS rfl rfl rfl (.inl rfl) ?_)
            refine l_heavy (gd_yes 78 (by kernel_rfl) rfl hp) (s_call Tryz.call68 rfl (rSign_ok c.limit _ hcl) ?_)
            rintro _ wc9 ⟨rfl, hBc9⟩
            replace hS := hS.grow hBc9
            refine l_pure (gd_yes 78 (by kernel_rfl) rfl hp) (s_lss  rfl rfl ?_)
            refine l_pure rfl (s_pick (vb rfl hp) rfl ?_)
            refine l_nil ?_
            repeat (with_reducible first | refine c_seq ?_ | refine c_block ?_ | refine c_skip ?_ | refine x_then ?_ | refine x_block ?_)
            exact ⟨_, rfl, h0, h1, h6, h7, h8, vb rfl (by rw [decide_eq_decide, sgnQ_neg]; exact ⟨fun g => ⟨hp, g⟩, fun g => g.2⟩), hS⟩
          · repeat (with_reducible first | refine c_seq ?_ | refine c_block ?_ | refine c_skip ?_ | refine x_then ?_ | refine x_block ?_)
            refine c_reg ?_
            refine l_pure rfl (s_fld  h9 fo_38_2 ?_)
            refine l_read rfl (s_ldo (k := 0)  rfl vi_4 hS rfl rfl rfl (.inr rfl) ?_)
            refine l_pure rfl (s_move  rfl ?_)
            refine l_no (gno_yes 78 (by kernel_rfl) rfl (show c.lim = false from Bool.eq_false_iff.2 hp)) ?_
            refine l_no (gno_yes 78 (by kernel_rfl) rfl (show c.lim = false from Bool.eq_false_iff.2 hp)) ?_
            refine l_no (gno_yes 78 (by kernel_rfl) rfl (show c.lim = false from Bool.eq_false_iff.2 hp)) ?_
            refine l_no (gno_yes 78 (by kernel_rfl) rfl (show c.lim = false from Bool.eq_false_iff.2 hp)) ?_
            refine l_pure rfl (s_pick (vb rfl (show c.lim = false from Bool.eq_false_iff.2 hp)) rfl ?_)
            refine l_nil ?_
            repeat (with_reducible first | refine c_seq ?_ | refine c_block ?_ | refine c_skip ?_ | refine x_then ?_ | refine x_block ?_)
            exact ⟨_, rfl, h0, h1, h6, h7, h8, vb rfl (decide_eq_false (fun g => hp g.1)).symm, hS⟩
        clear hS h0 h1 h6 h7 h8 h9 h75
        rintro ρ w6 ⟨h0, h1, h6, h7, h8, h83, hS⟩
        repeat (with_reducible first | refine c_seq ?_ | refine c_block ?_ | refine c_skip ?_ | refine x_then ?_ | refine x_block ?_)
        by_cases hlm : c.lim = true ∧ toQ c.limit < 0
        · refine c_yes h83 (decide_eq_true hlm) ?_
          repeat (with_reducible first | refine c_seq ?_ | refine c_block ?_ | refine c_skip ?_ | refine x_then ?_ | refine x_block ?_)
          have he1 : chErr m c = 7 := by unfold chErr; rw [if_neg hr, if_pos hlm]
          repeat (with_reducible first | refine c_seq ?_ | refine c_block ?_ | refine c_skip ?_ | refine x_then ?_ | refine x_block ?_)
          refine c_reg ?_
          refine l_pure rfl (s_asg  rfl ?_)
          refine l_nil ?_
          repeat (with_reducible first | refine c_seq ?_ | refine c_block ?_ | refine c_skip ?_ | refine x_then ?_ | refine x_block ?_)
          refine c_ret ?_
          repeat (with_reducible first | refine x_then_ret ?_ | refine x_block_ret ?_)
          refine r_one rfl rfl ?_
          exact ⟨vi rfl (by rw [f2 (by rw [e2 (by rw [he1]; decide), he1]; decide), e2 (by rw [he1]; decide), he1]), hS.below⟩
        refine c_no h83 (decide_eq_false hlm) ?_
        repeat (with_reducible first | refine c_seq ?_ | refine c_block ?_ | refine c_skip ?_ | refine x_then ?_ | refine x_block ?_)
        have he1 : chErr m c = 0 := by unfold chErr; rw [if_neg hr, if_neg hlm]
        repeat (with_reducible first | refine c_seq ?_ | refine c_block ?_ | refine c_skip ?_ | refine x_then ?_ | refine x_block ?_)
        refine c_reg ?_
        refine l_pure rfl (s_move  h8 ?_)
        refine l_pure rfl (s_add  rfl rfl (IntWalk.i64_in _ (by omega)) ?_)
        refine l_pure rfl (s_asg  rfl ?_)
        refine l_nil ?_
        repeat (with_reducible first | refine c_seq ?_ | refine c_block ?_ | refine c_skip ?_ | refine x_then ?_ | refine x_block ?_)
        exact ⟨k + 1, _, rfl, ⟨hk, e1 he1, h0, h1, h6, h7, vi rfl (by omega), hS.drop (List.sublist_cons_self _ _)⟩, by omega⟩
      · refine c_no rfl (decide_eq_false (by omega)) ?_
        repeat (with_reducible first | refine c_seq ?_ | refine c_block ?_ | refine c_skip ?_ | refine x_then ?_ | refine x_block ?_)
        refine c_exit ?_
        repeat (with_reducible first | refine x_then_exit ?_ | refine x_block_exit ?_ | refine x_block_pass rfl ?_)
        repeat (with_reducible first | refine c_seq ?_ | refine c_block ?_ | refine c_skip ?_ | refine x_then ?_ | refine x_block ?_)
        obtain rfl : k = x.charges.length := by omega
        rw [List.take_length] at hok
        exact ⟨_, rfl, hok, h0, h1, h6, hS.drop (List.nil_sublist _)⟩
    clear hS h0 h1 h6 h7 h53
    rintro ρ w7 ⟨hok2, h0, h1, h6, hS⟩
    repeat (with_reducible first | refine c_seq ?_ | refine c_block ?_ | refine c_skip ?_ | refine x_then ?_ | refine x_block ?_)
    refine c_reg ?_
    refine l_pure rfl (s_move  h6 ?_)
    refine l_pure rfl (s_add  rfl rfl (IntWalk.i64_in _ (by omega)) ?_)
    refine l_pure rfl (s_asg  rfl ?_)
    refine l_nil ?_
    repeat (with_reducible first | refine c_seq ?_ | refine c_block ?_ | refine c_skip ?_ | refine x_then ?_ | refine x_block ?_)
    exact ⟨i + 1, _, rfl, ⟨hlt, f1 hok2, h0, h1, vi rfl (by omega), hS⟩, by omega⟩
  · refine c_no rfl (decide_eq_false (by omega)) ?_
    repeat (with_reducible first | refine c_seq ?_ | refine c_block ?_ | refine c_skip ?_ | refine x_then ?_ | refine x_block ?_)
    refine c_exit ?_
    repeat (with_reducible first | refine x_then_exit ?_ | refine x_block_exit ?_ | refine x_block_pass rfl ?_)
    repeat (with_reducible first | refine c_seq ?_ | refine c_block ?_ | refine c_skip ?_ | refine x_then ?_ | refine x_block ?_)
    obtain rfl : i = X.length := by omega
    rw [List.take_length] at hok1
    repeat (with_reducible first | refine c_seq ?_ | refine c_block ?_ | refine c_skip ?_ | refine x_then ?_ | refine x_block ?_)
    refine c_reg ?_
    refine l_pure rfl (s_asg  rfl ?_)
    refine l_nil ?_
    repeat (with_reducible first | refine c_seq ?_ | refine c_block ?_ | refine c_skip ?_ | refine x_then ?_ | refine x_block ?_)
    refine c_ret ?_
    repeat (with_reducible first | refine x_then_ret ?_ | refine x_block_ret ?_)
    refine r_one rfl rfl ?_
    exact ⟨vi rfl hok1.symm, hS.below⟩
theorem positive_ok (r : RR) (w : World) (hr : Lr r + 1 ≤ MX) :
    Ret Tryz.prog 44 #[aggR r] w fun v w' => v = aggR (ofQ (maxQ (toQ r) 0)) ∧ Below w.heap.size w w' := by
  have hz : toQ zRR = 0 := by rw [← toQ_ofQ 0, ofQ_zero]; rfl
  have hzl : Lr zRR = 1 := by decide
  have hS := St.init w
  refine enter Tryz.func44 rfl Tryz.ntmps44 rfl ?_
  repeat (with_reducible first | refine c_seq ?_ | refine c_block ?_ | refine c_skip ?_ | refine x_then ?_ | refine x_block ?_)
  refine c_reg ?_
  refine l_heavy rfl (s_box (new := encR r)  rfl rfl hS ?_)
  intro b1 wz2 hS hBz2
  refine l_heavy rfl (s_alloc  vi_29 hS ?_)
  intro b3 wz4 hS hBz4
  refine l_nil ?_
  repeat (with_reducible first | refine c_seq ?_ | refine c_block ?_ | refine c_skip ?_ | refine x_then ?_ | refine x_block ?_)
  refine c_reg ?_
  refine l_read rfl (s_ldo (k := 1)  rfl vi_29 hS rfl rfl rfl (.inl rfl) ?_)
  refine l_pure rfl (s_build  rfl bz_29 ?_)
  refine l_heavy rfl (s_call Tryz.call54 rfl (QMax_ok r zRR _ (by omega)) ?_)
  rintro _ wc5 ⟨rfl, hBc5⟩
  replace hS := hS.grow hBc5
  refine l_heavy rfl (s_sta (k := 0)  rfl rfl vi_29 hS rfl rfl rfl (Nat.le_of_ble_eq_true rfl) rfl ?_)
  intro wz6 hS
  refine l_nil ?_
  repeat (with_reducible first | refine c_seq ?_ | refine c_block ?_ | refine c_skip ?_ | refine x_then ?_ | refine x_block ?_)
  refine c_ret ?_
  repeat (with_reducible first | refine x_then_ret ?_ | refine x_block_ret ?_)
  refine r_cell (k := 0) rfl rfl vi_29 hS rfl rfl ?_
  rw [hz]
  exact ⟨rfl, hS.below⟩
theorem posQ_max (q : Rat) : posQ q = maxQ q 0 := by
  unfold posQ maxQ
  by_cases h : q < 0
  · rw [if_pos h, if_neg (Rat.not_le.2 h)]
  · rw [if_neg h, if_pos (Rat.not_lt.1 h)]
theorem L_max (p q : Rat) : L (maxQ p q) ≤ max (L p) (L q) := by unfold maxQ; split <;> omega
theorem L_max0 (p : Rat) : L (maxQ p 0) ≤ L p := by
  have h1 := L_max p 0
  have h2 := L_pos p
  rw [L_zero] at h1
  omega
/-- The proceeds of an item. -/
def procQ (x : It) : Rat := maxQ (maxQ (toQ x.price) 0 - maxQ (toQ x.costs) 0) 0
theorem L_proc (x : It) : L (procQ x) ≤ Lr x.price + Lr x.costs + 1 := by
  unfold procQ
  have h1 := L_max0 (maxQ (toQ x.price) 0 - maxQ (toQ x.costs) 0)
  have h2 := L_sub (maxQ (toQ x.price) 0) (maxQ (toQ x.costs) 0)
  have h3 := L_max0 (toQ x.price)
  have h4 := L_max0 (toQ x.costs)
  have h5 := L_toQ x.price
  have h6 := L_toQ x.costs
  omega
theorem Proceeds_ok (x : It) (ca : Option Addr) (n cap : Nat) (w : World) (hr : Lr x.price + Lr x.costs + 2 ≤ MX) :
    Ret Tryz.prog 20 #[aggIt x (.slice ca n cap)] w fun v w' => v = aggR (ofQ (procQ x)) ∧ Below w.heap.size w w' := by
  have h1 := L_max0 (toQ x.price)
  have h2 := L_max0 (toQ x.costs)
  have h3 := L_toQ x.price
  have h4 := L_toQ x.costs
  have h5 := L_sub (maxQ (toQ x.price) 0) (maxQ (toQ x.costs) 0)
  have hS := St.init w
  refine enter Tryz.func20 rfl Tryz.ntmps20 rfl ?_
  repeat (with_reducible first | refine c_seq ?_ | refine c_block ?_ | refine c_skip ?_ | refine x_then ?_ | refine x_block ?_)
  refine c_reg ?_
  refine l_heavy rfl (s_box (new := encIt (x, .slice ca n cap))  rfl rfl hS ?_)
  intro b1 wz2 hS hBz2
  refine l_heavy rfl (s_alloc  vi_29 hS ?_)
  intro b3 wz4 hS hBz4
  refine l_nil ?_
  repeat (with_reducible first | refine c_seq ?_ | refine c_block ?_ | refine c_skip ?_ | refine x_then ?_ | refine x_block ?_)
  refine c_draw [(0, .pure), (1, .read), (3, .pure), (4, .read), (2, .grow), (5, .grow), (6, .grow), (7, .grow), (8, .free)] (by kernel_rfl) (by kernel_rfl) hS ?_
  intro wz5 hS hBz5
  refine w_pure rfl rfl (s_fld  rfl fo_32_0 ?_)
  refine w_read rfl rfl (s_ldo (k := 1)  rfl vi_29 hS rfl rfl rfl (.inl rfl) ?_)
  refine w_pure rfl rfl (s_fld  rfl fo_32_1 ?_)
  refine w_read rfl rfl (s_ldo (k := 1)  rfl vi_29 hS rfl rfl rfl (.inl rfl) ?_)
  refine w_grow rfl rfl (s_call Tryz.call44 rfl (positive_ok x.price _ (by omega)) ?_)
  rintro _ wc6 ⟨rfl, hBc6⟩
  replace hS := hS.grow hBc6
  refine ⟨hBc6, ?_⟩
  refine w_grow rfl rfl (s_call Tryz.call44 rfl (positive_ok x.costs _ (by omega)) ?_)
  rintro _ wc7 ⟨rfl, hBc7⟩
  replace hS := hS.grow hBc7
  refine ⟨hBc7, ?_⟩
  refine w_grow rfl rfl (s_call Tryz.call22 rfl (QSubtract_ok (ofQ (maxQ (toQ x.price) 0)) (ofQ (maxQ (toQ x.costs) 0)) _ (by rw [Lr_ofQ, Lr_ofQ]; omega)) ?_)
  rintro _ wc8 ⟨rfl, hBc8⟩
  replace hS := hS.grow hBc8
  refine ⟨hBc8, ?_⟩
  rw [toQ_ofQ, toQ_ofQ]
  refine w_grow rfl rfl (s_call Tryz.call44 rfl (positive_ok (ofQ (maxQ (toQ x.price) 0 - maxQ (toQ x.costs) 0)) _ (by rw [Lr_ofQ]; omega)) ?_)
  rintro _ wc9 ⟨rfl, hBc9⟩
  replace hS := hS.grow hBc9
  refine ⟨hBc9, ?_⟩
  refine w_free rfl rfl (s_sta (k := 0)  rfl rfl vi_29 hS rfl rfl rfl (Nat.le_of_ble_eq_true rfl) rfl ?_)
  intro wz10 hS
  refine w_end ?_
  repeat (with_reducible first | refine c_seq ?_ | refine c_block ?_ | refine c_skip ?_ | refine x_then ?_ | refine x_block ?_)
  refine c_ret ?_
  repeat (with_reducible first | refine x_then_ret ?_ | refine x_block_ret ?_)
  refine r_cell (k := 0) rfl rfl vi_29 hS rfl rfl ?_
  rw [toQ_ofQ]
  exact ⟨rfl, hS.below⟩
theorem rpositive_ok (r : RR) (w : World) (hr : Lr r ≤ MX) :
    Ret Tryz.prog 97 #[aggR r] w fun v w' => v = aggR (ofQ (maxQ (toQ r) 0)) ∧ Below w.heap.size w w' := by
  have hS := St.init w
  refine enter Tryz.func97 rfl Tryz.ntmps97 rfl ?_
  repeat (with_reducible first | refine c_seq ?_ | refine c_block ?_ | refine c_skip ?_ | refine x_then ?_ | refine x_block ?_)
  refine c_reg ?_
  refine l_heavy rfl (s_box (new := encR r)  rfl rfl hS ?_)
  intro b1 wz2 hS hBz2
  refine l_heavy rfl (s_alloc  vi_29 hS ?_)
  intro b3 wz4 hS hBz4
  refine l_nil ?_
  repeat (with_reducible first | refine c_seq ?_ | refine c_block ?_ | refine c_skip ?_ | refine x_then ?_ | refine x_block ?_)
  refine c_reg ?_
  refine l_read rfl (s_ldo (k := 1)  rfl vi_29 hS rfl rfl rfl (.inl rfl) ?_)
  refine l_heavy rfl (s_call Tryz.call31 rfl (rFix_ok r _ hr) ?_)
  rintro _ wc5 ⟨rfl, hBc5⟩
  replace hS := hS.grow hBc5
  refine l_heavy rfl (s_call Tryz.call96 rfl (rPositive_ok (toQ r) _) ?_)
  rintro _ wc6 ⟨rfl, hBc6⟩
  replace hS := hS.grow hBc6
  refine l_heavy rfl (s_sta (k := 0)  rfl rfl vi_29 hS rfl rfl rfl (Nat.le_of_ble_eq_true rfl) rfl ?_)
  intro wz7 hS
  refine l_nil ?_
  repeat (with_reducible first | refine c_seq ?_ | refine c_block ?_ | refine c_skip ?_ | refine x_then ?_ | refine x_block ?_)
  refine c_ret ?_
  repeat (with_reducible first | refine x_then_ret ?_ | refine x_block_ret ?_)
  refine r_cell (k := 0) rfl rfl vi_29 hS rfl rfl ?_
  rw [posQ_max]
  exact ⟨rfl, hS.below⟩
theorem rProceeds_ok (x : It) (ca : Option Addr) (n cap : Nat) (w : World) (hr : Lr x.price + Lr x.costs + 2 ≤ MX) :
    Ret Tryz.prog 69 #[aggIt x (.slice ca n cap)] w fun v w' => v = aggR (ofQ (procQ x)) ∧ Below w.heap.size w w' := by
  have h1 := L_max0 (toQ x.price)
  have h2 := L_max0 (toQ x.costs)
  have h3 := L_toQ x.price
  have h4 := L_toQ x.costs
  have hS := St.init w
  refine enter Tryz.func69 rfl Tryz.ntmps69 rfl ?_
  repeat (with_reducible first | refine c_seq ?_ | refine c_block ?_ | refine c_skip ?_ | refine x_then ?_ | refine x_block ?_)
  refine c_reg ?_
  refine l_heavy rfl (s_box (new := encIt (x, .slice ca n cap))  rfl rfl hS ?_)
  intro b1 wz2 hS hBz2
  refine l_heavy rfl (s_alloc  vi_29 hS ?_)
  intro b3 wz4 hS hBz4
  refine l_nil ?_
  repeat (with_reducible first | refine c_seq ?_ | refine c_block ?_ | refine c_skip ?_ | refine x_then ?_ | refine x_block ?_)
  refine c_draw [(0, .pure), (1, .read), (3, .pure), (4, .read), (2, .grow), (5, .grow), (6, .grow), (7, .grow), (8, .free)] (by kernel_rfl) (by kernel_rfl) hS ?_
  intro wz5 hS hBz5
  refine w_pure rfl rfl (s_fld  rfl fo_32_0 ?_)
  refine w_read rfl rfl (s_ldo (k := 1)  rfl vi_29 hS rfl rfl rfl (.inl rfl) ?_)
  refine w_pure rfl rfl (s_fld  rfl fo_32_1 ?_)
  refine w_read rfl rfl (s_ldo (k := 1)  rfl vi_29 hS rfl rfl rfl (.inl rfl) ?_)
  refine w_grow rfl rfl (s_call Tryz.call97 rfl (rpositive_ok x.price _ (by omega)) ?_)
  rintro _ wc6 ⟨rfl, hBc6⟩
  replace hS := hS.grow hBc6
  refine ⟨hBc6, ?_⟩
  refine w_grow rfl rfl (s_call Tryz.call97 rfl (rpositive_ok x.costs _ (by omega)) ?_)
  rintro _ wc7 ⟨rfl, hBc7⟩
  replace hS := hS.grow hBc7
  refine ⟨hBc7, ?_⟩
  refine w_grow rfl rfl (s_call Tryz.call32 rfl (rMinus_ok (maxQ (toQ x.price) 0) (maxQ (toQ x.costs) 0) _ (by omega)) ?_)
  rintro _ wc8 ⟨rfl, hBc8⟩
  replace hS := hS.grow hBc8
  refine ⟨hBc8, ?_⟩
  refine w_grow rfl rfl (s_call Tryz.call96 rfl (rPositive_ok (maxQ (toQ x.price) 0 - maxQ (toQ x.costs) 0) _) ?_)
  rintro _ wc9 ⟨rfl, hBc9⟩
  replace hS := hS.grow hBc9
  refine ⟨hBc9, ?_⟩
  refine w_free rfl rfl (s_sta (k := 0)  rfl rfl vi_29 hS rfl rfl rfl (Nat.le_of_ble_eq_true rfl) rfl ?_)
  intro wz10 hS
  refine w_end ?_
  repeat (with_reducible first | refine c_seq ?_ | refine c_block ?_ | refine c_skip ?_ | refine x_then ?_ | refine x_block ?_)
  refine c_ret ?_
  repeat (with_reducible first | refine x_then_ret ?_ | refine x_block_ret ?_)
  refine r_cell (k := 0) rfl rfl vi_29 hS rfl rfl ?_
  rw [posQ_max]
  exact ⟨rfl, hS.below⟩
/-- Has a claim a charge on an item? -/
def secures (x : It) (c : Int) : Bool := x.charges.any fun k => decide (k.claim = c)
end Go.Proofs.YtknccjbkacaelaaGreatDoor
namespace Go.Proofs.YtknccjbkacaelaaGreatDoor
open Go Go.RowKit Go.Sx
def owF (owed : List RR) (c : Nat) : Rat := toQ (owed.getD c zRR)
theorem L_owF {owed : List RR} {K : Nat} (h : RB K owed) {c : Nat} (hc : c < owed.length) : L (owF owed c) ≤ K :=
  Nat.le_trans (L_toQ _) (h _ (getD_mem owed c zRR hc))
end Go.Proofs.YtknccjbkacaelaaGreatDoor
namespace Go.Proofs.YtknccjbkacaelaaGreatDoor
open Go Go.RowKit Go.Sx
theorem encR_one (xs : List RR) : ∀ u ∈ xs.flatMap encR, u.oneCell' = true := by
  intro u hu
  obtain ⟨x, _, hx⟩ := List.mem_flatMap.1 hu
  simp only [encR, List.mem_cons, List.not_mem_nil, or_false] at hx
  rcases hx with rfl | rfl | rfl <;> rfl
theorem toQ_zRR : toQ zRR = 0 := by rw [← toQ_ofQ 0, ofQ_zero]; rfl
theorem Lr_zRR : Lr zRR = 1 := by decide
/-- What the claims' masks say, when the first i items are done, and of the next one its first k charges. -/
structure Masks (X : List It) (m i k : Nat) (R : List Nat) : Prop where
  len : R.length = m
  lt : ∀ c, c < m → R.getD c 0 < 256
  bit : ∀ c, c < m → ∀ j, (R.getD c 0).testBit j = ((decide (j < i) && secures (X.getD j zIt) c) || (decide (j = i) && ((X.getD i zIt).charges.take k).any (fun q => decide (q.claim = (c : Int)))))
theorem Masks.next {X : List It} {m i : Nat} {R : List Nat} (h : Masks X m i (X.getD i zIt).charges.length R) : Masks X m (i + 1) 0 R := by
  refine ⟨h.len, h.lt, fun c hc j => ?_⟩
  rw [h.bit c hc j, List.take_length, List.take_zero, List.any_nil, Bool.and_false, Bool.or_false]
  by_cases h1 : j = i
  · subst h1; simp [secures]
  · by_cases h2 : j < i
    · have h3 : j < i + 1 := by omega
      simp [h1, h2, h3]
    · have h3 : ¬ j < i + 1 := by omega
      simp [h1, h2, h3]
theorem Masks.charge {X : List It} {m i k c0 : Nat} {R : List Nat} (h : Masks X m i k R) (hi : i < 8) (hk : k < (X.getD i zIt).charges.length) (hcl0 : ((X.getD i zIt).charges.getD k zCh).claim = (c0 : Int)) (hc0 : c0 < m) :
    Masks X m i (k + 1) (R.set c0 (R.getD c0 0 ||| 2 ^ i)) := by
  have ht := take_succ' (X.getD i zIt).charges k zCh hk
  have hg : ∀ c, c < m → (R.set c0 (R.getD c0 0 ||| 2 ^ i)).getD c 0 = if c = c0 then R.getD c0 0 ||| 2 ^ i else R.getD c 0 := by
    intro c hcm
    rw [List.getD_eq_getElem?_getD, List.getElem?_set]
    by_cases he : c = c0
    · subst he; rw [if_pos rfl, if_pos rfl, if_pos (by rw [h.len]; exact hcm)]; rfl
    · rw [if_neg (fun g => he g.symm), if_neg he, List.getD_eq_getElem?_getD]
  have hp : 2 ^ i < 256 := Nat.lt_of_lt_of_le (Nat.pow_lt_pow_right (by decide) hi) (by decide)
  refine ⟨by simp [h.len], fun c hcm => ?_, fun c hcm j => ?_⟩
  · rw [hg c hcm]
    split
    · exact Nat.or_lt_two_pow (n := 8) (h.lt c0 hc0) hp
    · exact h.lt c hcm
  · rw [hg c hcm, ht, List.any_append]
    simp only [List.any_cons, List.any_nil, Bool.or_false, hcl0]
    by_cases he : c = c0
    · subst he
      rw [if_pos rfl, Nat.testBit_or, h.bit c hcm j, Nat.testBit_two_pow]
      by_cases hj : j = i
      · subst hj; simp
      · have : ¬ i = j := fun e => hj e.symm
        simp [hj, this]
    · rw [if_neg he, h.bit c hcm j]
      have : ¬ ((c0 : Int) = (c : Int)) := by omega
      simp [this]
end Go.Proofs.YtknccjbkacaelaaGreatDoor
namespace Go.Sx
open Go Go.RowKit Go.Proofs.YtknccjbkacaelaaGreatDoor
def tab {α : Type} (n : Nat) (f : Nat → α) : List α := (List.range n).map f
theorem tab_len {α : Type} (n : Nat) (f : Nat → α) : (tab n f).length = n := by simp [tab]
theorem tab_get {α : Type} {n : Nat} (f : Nat → α) (d : α) {i : Nat} (h : i < n) : (tab n f).getD i d = f i := by
  simp [tab, List.getD_eq_getElem?_getD, h]
theorem tab_congr {α : Type} {n : Nat} {f g : Nat → α} (h : ∀ i, i < n → f i = g i) : tab n f = tab n g := by
  unfold tab; exact List.map_congr_left fun i hi => h i (List.mem_range.1 hi)
theorem tab_rep {α : Type} (n : Nat) (d : α) : List.replicate n d = tab n fun _ => d := by
  refine List.ext_getElem (by simp [tab]) fun i h1 h2 => ?_
  simp [tab]
theorem tab_set {α : Type} {n : Nat} (f : Nat → α) (i : Nat) (v : α) : (tab n f).set i v = tab n fun j => if j = i then v else f j := by
  refine List.ext_getElem (by simp [tab]) fun j h1 h2 => ?_
  rw [List.getElem_set]
  simp only [tab, List.getElem_map, List.getElem_range]
  by_cases h : i = j
  · subst h; simp
  · rw [if_neg h, if_neg (fun e => h e.symm)]
theorem tab_mem {α : Type} {n : Nat} {f : Nat → α} {x : α} (h : x ∈ tab n f) : ∃ i, i < n ∧ f i = x := by
  obtain ⟨i, hi, e⟩ := List.mem_map.1 h
  exact ⟨i, List.mem_range.1 hi, e⟩
theorem tab_succ {α : Type} (n : Nat) (f : Nat → α) : tab (n + 1) f = tab n f ++ [f n] := by
  simp [tab, List.range_succ]
end Go.Sx
