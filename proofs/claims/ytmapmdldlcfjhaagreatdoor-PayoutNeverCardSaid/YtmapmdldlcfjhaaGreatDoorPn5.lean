/-
  Part 5 of the texts that the law's proof is made of: the framework and the walks.
-/
import Derived.Test.YtmapmdldlcfjhaaGreatDoorPn4
import Derived.ProofKit
import Derived.OpenShut
import Derived.LaidMore
import Derived.Lay
import Derived.ChangeSlices
import Derived.Carry
import Derived.WideShapes
import Derived.Test.YtmapmdldlcfjhaaGreatDoorTie
import Derived.SevenTiedAt
import Derived.Stop.Joined
namespace Go.Proofs.YtmapmdldlcfjhaaGreatDoor
open Go Go.RowKit Go.Sx
theorem rdivide_ok (vx vy : Value) (X Y : Nat) (w : World) (hx : Sl (uk .u32) 1 w vx (limb X)) (hy : Sl (uk .u32) 1 w vy (limb Y)) (hY0 : 0 < Y) (hmx : (limb X).length ≤ 4398046511104) :
    Ret Tryz.prog 91 #[vx, vy] w fun r w' => (∃ q s, r = .tuple #[q, s] ∧ Sl (uk .u32) 1 w' q (limb (X / Y)) ∧ Sl (uk .u32) 1 w' s (limb (X % Y))) ∧ Below w.heap.size w w' := by
  have hB : B32 = 4294967296 := rfl
  have hS := St.init w
  obtain ⟨n, hn⟩ : ∃ n, n = (limb Y).length := ⟨_, rfl⟩
  have hYn : Y < B32 ^ n := hn ▸ limb_lt_pow Y
  obtain ⟨hn0, _⟩ := top_pos hY0
  rw [← hn] at hn0
  refine enter Tryz.func91 rfl Tryz.ntmps91 rfl ?_
  repeat (with_reducible first | refine c_seq ?_ | refine c_block ?_ | refine c_skip ?_ | refine x_then ?_ | refine x_block ?_)
  refine c_reg ?_
  refine l_pure rfl (s_asg  rfl ?_)
  refine l_pure rfl (s_asg  rfl ?_)
  refine l_nil ?_
  repeat (with_reducible first | refine c_seq ?_ | refine c_block ?_ | refine c_skip ?_ | refine x_then ?_ | refine x_block ?_)
  refine c_reg ?_
  refine l_pure rfl (s_move  rfl ?_)
  refine l_pure rfl (s_move  rfl ?_)
  refine l_heavy rfl (s_call Tryz.call102 rfl (rorder_ok _ _ _ _ _ (hx.below hS.below) (hy.below hS.below)) ?_)
  rintro _ wc1 ⟨rfl, hBc1⟩
  replace hS := hS.grow hBc1
  refine l_pure rfl (s_lss  rfl rfl ?_)
  refine l_nil ?_
  repeat (with_reducible first | refine c_seq ?_ | refine c_block ?_ | refine c_skip ?_ | refine x_then ?_ | refine x_block ?_)
  by_cases hlt : X < Y
  · refine c_yes rfl (decide_eq_true (by rw [cmpI_lt hlt]; decide)) ?_
    repeat (with_reducible first | refine c_seq ?_ | refine c_block ?_ | refine c_skip ?_ | refine x_then ?_ | refine x_block ?_)
    refine c_reg ?_
    refine l_pure rfl (s_move  rfl ?_)
    refine l_pure rfl (s_asg  rfl ?_)
    refine l_pure rfl (s_asg  rfl ?_)
    refine l_nil ?_
    repeat (with_reducible first | refine c_seq ?_ | refine c_block ?_ | refine c_skip ?_ | refine x_then ?_ | refine x_block ?_)
    refine c_ret ?_
    repeat (with_reducible first | refine x_then_ret ?_ | refine x_block_ret ?_)
    refine r_two rfl rfl rfl ?_
    refine ⟨⟨_, _, rfl, ?_, ?_⟩, hS.below⟩
    · rw [Nat.div_eq_of_lt hlt, limb, digs_zero]; exact Sl.nil _ _ _
    · rw [Nat.mod_eq_of_lt hlt]; exact hx.below hS.below
  · have hge : Y ≤ X := Nat.le_of_not_lt hlt
    have hcmp : ¬ cmpI X Y < 0 := by
      rcases Nat.lt_or_ge Y X with h | h
      · rw [cmpI_gt h]; decide
      · rw [show X = Y by omega, cmpI_self]; decide
    refine c_no rfl (decide_eq_false hcmp) ?_
    repeat (with_reducible first | refine c_seq ?_ | refine c_block ?_ | refine c_skip ?_ | refine x_then ?_ | refine x_block ?_)
    refine c_reg ?_
    refine l_pure rfl (s_move  rfl ?_)
    refine l_pure rfl (s_lenr  rfl (hy.below hS.below) ⟨_, Tryz.underlying93⟩ ?_)
    refine l_pure rfl (s_eql  rfl rfl ?_)
    refine l_nil ?_
    repeat (with_reducible first | refine c_seq ?_ | refine c_block ?_ | refine c_skip ?_ | refine x_then ?_ | refine x_block ?_)
    by_cases h1 : n = 1
    · refine c_yes rfl (decide_eq_true (by omega)) ?_
      repeat (with_reducible first | refine c_seq ?_ | refine c_block ?_ | refine c_skip ?_ | refine x_then ?_ | refine x_block ?_)
      have hg : (limb Y).getD 0 0 = Y := by
        rw [limb_getD, dgt, Nat.pow_zero, Nat.div_one]
        rw [h1, Nat.pow_one] at hYn
        exact Nat.mod_eq_of_lt hYn
      have hYl : Y ≤ 4294967295 := by rw [h1, Nat.pow_one] at hYn; omega
      repeat (with_reducible first | refine c_seq ?_ | refine c_block ?_ | refine c_skip ?_ | refine x_then ?_ | refine x_block ?_)
      refine c_reg ?_
      refine l_pure rfl (s_move  rfl ?_)
      refine l_pure rfl (s_move  rfl ?_)
      refine l_pure rfl (s_ixr (i := 0)  rfl rfl (hy.below hS.below) (by omega) (by first | omega | (simp; done) | (simp; omega)) si_93 ?_)
      refine l_read rfl (s_lde (i := 0) 0  rfl vi_99 (hy.below hS.below) (by first | omega | (simp; done) | (simp; omega)) rfl rfl (.inr rfl) ?_)
      rw [hg]
      refine l_heavy rfl (s_call Tryz.call121 rfl (rshort_ok _ _ _ _ (hx.below hS.below) hY0 hYl (by omega)) ?_)
      rintro r w2 ⟨⟨q, rfl, hq⟩, hB2⟩
      replace hS := hS.grow hB2
      refine l_pure rfl (s_move  rfl ?_)
      refine l_pure rfl (s_ext  rfl rfl ?_)
      refine l_pure rfl (s_ext  rfl rfl ?_)
      refine l_pure rfl (s_asg  rfl ?_)
      refine l_pure rfl (s_asg  rfl ?_)
      refine l_nil ?_
      repeat (with_reducible first | refine c_seq ?_ | refine c_block ?_ | refine c_skip ?_ | refine x_then ?_ | refine x_block ?_)
      have hml : X % Y ≤ 4294967295 := by have := Nat.mod_lt X hY0; omega
      repeat (with_reducible first | refine c_seq ?_ | refine c_block ?_ | refine c_skip ?_ | refine x_then ?_ | refine x_block ?_)
      refine c_reg ?_
      refine l_pure rfl (s_move  rfl ?_)
      refine l_pure rfl (s_move  rfl ?_)
      refine l_heavy rfl (s_bsl (vs := [_])  rfl si_93 rfl (by decide) (by decide) (by decide) (by simp [Value.cells]) rfl hS ?_)
      intro b2 wz3 hS hBz3
      have hq1 := hq.below hBz3
      have hsl := St.slk (L := [X % Y]) hS (k := 0) rfl (n := 1) (cap := 1) (by simp) (by omega) (by omega)
      refine l_heavy rfl (s_call Tryz.call122 rfl (rstrip_ok _ _ _ hsl (by intro d hd; rw [List.take_of_length_le (by simp)] at hd; rw [List.mem_singleton.1 hd]; omega)) ?_)
      rintro _ wq4 ⟨hv, hq4⟩
      replace hq4 := hq4.symm
      subst hq4
      refine l_pure rfl (s_asg  rfl ?_)
      refine l_pure rfl (s_asg  rfl ?_)
      refine l_nil ?_
      repeat (with_reducible first | refine c_seq ?_ | refine c_block ?_ | refine c_skip ?_ | refine x_then ?_ | refine x_block ?_)
      refine c_ret ?_
      repeat (with_reducible first | refine x_then_ret ?_ | refine x_block_ret ?_)
      refine r_two rfl rfl rfl ?_
      refine ⟨⟨_, _, rfl, hq1, ?_⟩, hS.below⟩
      have e : ofDigs B32 ([X % Y].take 1) = X % Y := by simp [ofDigs]
      rwa [e] at hv
    · refine c_no rfl (decide_eq_false (by omega)) ?_
      repeat (with_reducible first | refine c_seq ?_ | refine c_block ?_ | refine c_skip ?_ | refine x_then ?_ | refine x_block ?_)
      refine c_reg ?_
      refine l_pure rfl (s_move  rfl ?_)
      refine l_pure rfl (s_move  rfl ?_)
      refine l_heavy rfl (s_call Tryz.call123 rfl (rlong_ok _ _ _ _ _ (hx.below hS.below) (hy.below hS.below) hge (by omega) hmx) ?_)
      rintro r w2 ⟨⟨q, s, rfl, hq, hs⟩, hB2⟩
      replace hS := hS.grow hB2
      refine l_pure rfl (s_ext  rfl rfl ?_)
      refine l_pure rfl (s_ext  rfl rfl ?_)
      refine l_pure rfl (s_asg  rfl ?_)
      refine l_pure rfl (s_asg  rfl ?_)
      refine l_nil ?_
      repeat (with_reducible first | refine c_seq ?_ | refine c_block ?_ | refine c_skip ?_ | refine x_then ?_ | refine x_block ?_)
      refine c_ret ?_
      repeat (with_reducible first | refine x_then_ret ?_ | refine x_block_ret ?_)
      refine r_two rfl rfl rfl ?_
      exact ⟨⟨_, _, rfl, hq, hs⟩, hS.below⟩
theorem rcommon_ok (vx vy : Value) (A B : Nat) (w : World) (hx : Sl (uk .u32) 1 w vx (limb A)) (hy : Sl (uk .u32) 1 w vy (limb B)) (hmx : (limb A).length ≤ 4398046511104) (hmy : (limb B).length ≤ 4398046511104) :
    Ret Tryz.prog 124 #[vx, vy] w fun r w' => Sl (uk .u32) 1 w' r (limb (Nat.gcd A B)) ∧ Below w.heap.size w w' := by
  have hS := St.init w
  refine enter Tryz.func124 rfl Tryz.ntmps124 rfl ?_
  repeat (with_reducible first | refine c_seq ?_ | refine c_block ?_ | refine c_skip ?_ | refine x_then ?_ | refine x_block ?_)
  refine c_reg ?_
  refine l_pure rfl (s_asg  rfl ?_)
  refine l_nil ?_
  repeat (with_reducible first | refine c_seq ?_ | refine c_block ?_ | refine c_skip ?_ | refine x_then ?_ | refine x_block ?_)
  refine c_loop (σ := Nat × Nat) (fun s ρ w' => Nat.gcd s.1 s.2 = Nat.gcd A B ∧ (limb s.1).length ≤ 4398046511104 ∧ (limb s.2).length ≤ 4398046511104 ∧ (∃ vx vy, ρ 0 = vx ∧ ρ 1 = vy ∧ Sl (uk .u32) 1 w' vx (limb s.1) ∧ Sl (uk .u32) 1 w' vy (limb s.2)) ∧ St w w' []) (fun s => s.2) (A, B)
    ⟨rfl, hmx, hmy, ⟨_, _, rfl, rfl, hx, hy⟩, hS⟩ ?_
  clear hS hx hy
  rintro ⟨X, Y⟩ ρ w3 ⟨hg, hX, hY, ⟨vx, vy, h0, h1, hx, hy⟩, hS⟩
  simp only at hg hX hY hx hy
  repeat (with_reducible first | refine c_seq ?_ | refine c_block ?_ | refine c_skip ?_ | refine x_then ?_ | refine x_block ?_)
  refine c_reg ?_
  refine l_pure rfl (s_move  h1 ?_)
  refine l_pure rfl (s_lenr  rfl hy ⟨_, Tryz.underlying93⟩ ?_)
  refine l_pure rfl (s_gtr  rfl rfl ?_)
  refine l_nil ?_
  repeat (with_reducible first | refine c_seq ?_ | refine c_block ?_ | refine c_skip ?_ | refine x_then ?_ | refine x_block ?_)
  have hyn : (limb Y).length = 0 ↔ Y = 0 := limb_nil_iff
  by_cases hY0 : Y = 0
  · refine c_no rfl (decide_eq_false (by omega)) ?_
    repeat (with_reducible first | refine c_seq ?_ | refine c_block ?_ | refine c_skip ?_ | refine x_then ?_ | refine x_block ?_)
    refine c_exit ?_
    repeat (with_reducible first | refine x_then_exit ?_ | refine x_block_exit ?_ | refine x_block_pass rfl ?_)
    repeat (with_reducible first | refine c_seq ?_ | refine c_block ?_ | refine c_skip ?_ | refine x_then ?_ | refine x_block ?_)
    refine c_reg ?_
    refine l_pure rfl (s_move  h0 ?_)
    refine l_pure rfl (s_asg  rfl ?_)
    refine l_nil ?_
    repeat (with_reducible first | refine c_seq ?_ | refine c_block ?_ | refine c_skip ?_ | refine x_then ?_ | refine x_block ?_)
    refine c_ret ?_
    repeat (with_reducible first | refine x_then_ret ?_ | refine x_block_ret ?_)
    refine r_one rfl rfl ?_
    rw [hY0, Nat.gcd_zero_right] at hg
    rw [← hg]
    exact ⟨hx, hS.below⟩
  · refine c_yes rfl (decide_eq_true (by omega)) ?_
    repeat (with_reducible first | refine c_seq ?_ | refine c_block ?_ | refine c_skip ?_ | refine x_then ?_ | refine x_block ?_)
    have hlt : X % Y < Y := Nat.mod_lt _ (by omega)
    have hls := limb_len_mono (Nat.le_of_lt hlt)
    repeat (with_reducible first | refine c_seq ?_ | refine c_block ?_ | refine c_skip ?_ | refine x_then ?_ | refine x_block ?_)
    refine c_reg ?_
    refine l_pure rfl (s_move  h0 ?_)
    refine l_pure rfl (s_move  h1 ?_)
    refine l_heavy rfl (s_call Tryz.call91 rfl (rdivide_ok _ _ _ _ _ hx hy (by omega) (by omega)) ?_)
    rintro r w4 ⟨⟨q, s, rfl, hq, hs⟩, hB4⟩
    refine l_pure rfl (s_move  rfl ?_)
    refine l_pure rfl (s_ext  rfl rfl ?_)
    refine l_pure rfl (s_ext  rfl rfl ?_)
    refine l_pure rfl (s_asg  rfl ?_)
    refine l_pure rfl (s_asg  rfl ?_)
    refine l_nil ?_
    repeat (with_reducible first | refine c_seq ?_ | refine c_block ?_ | refine c_skip ?_ | refine x_then ?_ | refine x_block ?_)
    refine c_reg ?_
    refine l_pure rfl (s_move  h1 ?_)
    refine l_pure rfl (s_asg  rfl ?_)
    refine l_nil ?_
    repeat (with_reducible first | refine c_seq ?_ | refine c_block ?_ | refine c_skip ?_ | refine x_then ?_ | refine x_block ?_)
    refine c_reg ?_
    refine l_pure rfl (s_move  rfl ?_)
    refine l_pure rfl (s_asg  rfl ?_)
    refine l_nil ?_
    repeat (with_reducible first | refine c_seq ?_ | refine c_block ?_ | refine c_skip ?_ | refine x_then ?_ | refine x_block ?_)
    refine ⟨(Y, X % Y), _, rfl, ⟨?_, hY, by simp only; omega, ⟨vy, s, rfl, rfl, hy.below hB4, hs⟩, hS.grow hB4⟩, hlt⟩
    simp only
    rw [← hg, Nat.gcd_comm Y, ← Nat.gcd_rec, Nat.gcd_comm]
theorem rGCD_ok (a b : ByteArray) (w : World) (ha : a.size ≤ 4398046511104) (hb : b.size ≤ 4398046511104) :
    Ret Tryz.prog 125 #[.string a, .string b] w fun r w' => r = .string (natS (Nat.gcd (val a) (val b))) ∧ Below w.heap.size w w' := by
  have hla := limb_val_len a
  have hlb := limb_val_len b
  have hS := St.init w
  refine enter Tryz.func125 rfl Tryz.ntmps125 rfl ?_
  repeat (with_reducible first | refine c_seq ?_ | refine c_block ?_ | refine c_skip ?_ | refine x_then ?_ | refine x_block ?_)
  refine c_reg ?_
  refine l_pure rfl (s_asg  rfl ?_)
  refine l_nil ?_
  repeat (with_reducible first | refine c_seq ?_ | refine c_block ?_ | refine c_skip ?_ | refine x_then ?_ | refine x_block ?_)
  refine c_reg ?_
  refine l_pure rfl (s_move  rfl ?_)
  refine l_heavy rfl (s_call Tryz.call92 rfl (rlimbs_ok _ _ (by omega)) ?_)
  rintro vx w1 ⟨hx, hB1⟩
  replace hS := hS.grow hB1
  refine l_pure rfl (s_move  rfl ?_)
  refine l_heavy rfl (s_call Tryz.call92 rfl (rlimbs_ok _ _ (by omega)) ?_)
  rintro vy w2 ⟨hy, hB2⟩
  replace hS := hS.grow hB2
  refine l_heavy rfl (s_call Tryz.call124 rfl (rcommon_ok _ _ _ _ _ (hx.below hB2) hy (by omega) (by omega)) ?_)
  rintro vg w3 ⟨hg, hB3⟩
  replace hS := hS.grow hB3
  have hgl : (limb (Nat.gcd (val a) (val b))).length ≤ 8796093022208 := by
    rcases Nat.eq_zero_or_pos (val a) with h | h
    · rw [h, Nat.gcd_zero_left]; omega
    · have := limb_len_mono (Nat.gcd_le_left (val b) h); omega
  refine l_heavy rfl (s_call Tryz.call99 rfl (rtext_ok _ _ _ hg (limb_lt _) (by omega)) ?_)
  rintro r w4 ⟨rfl, hB4⟩
  replace hS := hS.grow hB4
  refine l_pure rfl (s_asg  rfl ?_)
  refine l_nil ?_
  repeat (with_reducible first | refine c_seq ?_ | refine c_block ?_ | refine c_skip ?_ | refine x_then ?_ | refine x_block ?_)
  refine c_ret ?_
  repeat (with_reducible first | refine x_then_ret ?_ | refine x_block_ret ?_)
  refine r_one rfl rfl ?_
  rw [ofDigs_limb]
  exact ⟨rfl, hS.below⟩
theorem rValid_ok (r : RR) (w : World) (hr : Lr r ≤ MX) :
    Ret Tryz.prog 97 #[aggR r] w fun v w' => v = .bool (decide (Vld r)) ∧ Below w.heap.size w w' := by
  have hM : MX = 1099511627776 := rfl
  have hn := num_size_le r
  have hd := den_size_le r
  have hV := Vld_iff r
  have hS := St.init w
  refine enter Tryz.func97 rfl Tryz.ntmps97 rfl ?_
  repeat (with_reducible first | refine c_seq ?_ | refine c_block ?_ | refine c_skip ?_ | refine x_then ?_ | refine x_block ?_)
  refine c_reg ?_
  refine l_heavy rfl (s_box (new := encR r)  rfl rfl hS ?_)
  intro b1 wz2 hS hBz2
  refine l_pure rfl (s_asg  rfl ?_)
  refine l_nil ?_
  repeat (with_reducible first | refine c_seq ?_ | refine c_block ?_ | refine c_skip ?_ | refine x_then ?_ | refine x_block ?_)
  by_cases h1 : natS (val r.num) = r.num
  · by_cases h2 : natS (val r.den) = r.den
    · by_cases h5 : r.den = ⟨#[1]⟩
      · repeat (with_reducible first | refine c_seq ?_ | refine c_block ?_ | refine c_skip ?_ | refine x_then ?_ | refine x_block ?_)
        refine c_draw [(0, .pure), (1, .read), (3, .pure), (4, .read), (2, .grow), (5, .pure), (6, .pure), (7, .pure), (8, .read), (10, .pure), (11, .read), (9, .grow), (12, .pure), (13, .pure), (14, .pure), (15, .pure), (16, .read), (17, .pure), (18, .pure)] (by kernel_rfl) (by kernel_rfl) hS ?_
        intro wz3 hS hBz3
        refine w_pure rfl rfl (s_fld  rfl fo_37_1 ?_)
        refine w_read rfl rfl (s_ldo (k := 0)  rfl vi_9 hS rfl rfl rfl (.inr rfl) ?_)
        refine w_pure rfl rfl (s_fld  rfl fo_37_1 ?_)
        refine w_read rfl rfl (s_ldo (k := 0)  rfl vi_9 hS rfl rfl rfl (.inr rfl) ?_)
        refine w_grow rfl rfl (s_call Tryz.call120 rfl (rNormalize_ok _ _ (show r.num.size ≤ _ by omega)) ?_)
        rintro _ wq4 ⟨rfl, hq4⟩
        replace hq4 := hq4.symm
        subst hq4
        refine ⟨Below.refl _ _, ?_⟩
        refine w_pure rfl rfl (s_nes  rfl rfl ?_)
        refine w_pure rfl rfl (s_move  rfl ?_)
        refine w_pure rfl (gd_yes 9 (by kernel_rfl) rfl (decide_eq_false (by exact not_not_intro h1))) (s_fld  rfl fo_37_2 ?_)
        refine w_read rfl (gd_yes 9 (by kernel_rfl) rfl (decide_eq_false (by exact not_not_intro h1))) (s_ldo (k := 0)  rfl vi_9 hS rfl rfl rfl (.inr rfl) ?_)
        refine w_pure rfl (gd_yes 9 (by kernel_rfl) rfl (decide_eq_false (by exact not_not_intro h1))) (s_fld  rfl fo_37_2 ?_)
        refine w_read rfl (gd_yes 9 (by kernel_rfl) rfl (decide_eq_false (by exact not_not_intro h1))) (s_ldo (k := 0)  rfl vi_9 hS rfl rfl rfl (.inr rfl) ?_)
        refine w_grow rfl (gd_yes 9 (by kernel_rfl) rfl (decide_eq_false (not_not_intro h1))) (s_call Tryz.call120 rfl (rNormalize_ok _ _ (show r.den.size ≤ _ by omega)) ?_)
        rintro _ wq5 ⟨rfl, hq5⟩
        replace hq5 := hq5.symm
        subst hq5
        refine ⟨Below.refl _ _, ?_⟩
        refine w_pure rfl (gd_yes 9 (by kernel_rfl) rfl (decide_eq_false (by exact not_not_intro h1))) (s_nes  rfl rfl ?_)
        refine w_pure rfl rfl (s_pick (vb rfl (decide_eq_false (by exact not_not_intro h1))) rfl ?_)
        refine w_pure rfl rfl (s_move  rfl ?_)
        refine w_pure rfl (gd_yes 17 (by kernel_rfl) rfl (decide_eq_false (by exact not_not_intro h2))) (s_fld  rfl fo_37_2 ?_)
        refine w_read rfl (gd_yes 17 (by kernel_rfl) rfl (decide_eq_false (by exact not_not_intro h2))) (s_ldo (k := 0)  rfl vi_9 hS rfl rfl rfl (.inr rfl) ?_)
        refine w_pure rfl (gd_yes 17 (by kernel_rfl) rfl (decide_eq_false (by exact not_not_intro h2))) (s_eqs  rfl rfl ?_)
        refine w_pure rfl rfl (s_pick (vb rfl (decide_eq_false (by exact not_not_intro h2))) rfl ?_)
        refine w_end ?_
        repeat (with_reducible first | refine c_seq ?_ | refine c_block ?_ | refine c_skip ?_ | refine x_then ?_ | refine x_block ?_)
        refine c_yes rfl (decide_eq_true h5) ?_
        repeat (with_reducible first | refine c_seq ?_ | refine c_block ?_ | refine c_skip ?_ | refine x_then ?_ | refine x_block ?_)
        refine c_reg ?_
        refine l_pure rfl (s_asg  rfl ?_)
        refine l_nil ?_
        repeat (with_reducible first | refine c_seq ?_ | refine c_block ?_ | refine c_skip ?_ | refine x_then ?_ | refine x_block ?_)
        refine c_ret ?_
        repeat (with_reducible first | refine x_then_ret ?_ | refine x_block_ret ?_)
        refine r_one rfl rfl ?_
        refine ⟨congrArg Value.bool ?_, hS.below⟩
        symm; rw [decide_eq_false_iff_not, hV]
        intro h
        by_cases h3 : r.num = ⟨#[]⟩
        · have := (h.2.2.1 h3).2; rw [h5] at this; cases this
        · exact (h.2.2.2 h3).elim (fun g => by rw [h5] at g; cases g) (fun g => g.1 h5)
      · repeat (with_reducible first | refine c_seq ?_ | refine c_block ?_ | refine c_skip ?_ | refine x_then ?_ | refine x_block ?_)
        refine c_draw [(0, .pure), (1, .read), (3, .pure), (4, .read), (2, .grow), (5, .pure), (6, .pure), (7, .pure), (8, .read), (10, .pure), (11, .read), (9, .grow), (12, .pure), (13, .pure), (14, .pure), (15, .pure), (16, .read), (17, .pure), (18, .pure)] (by kernel_rfl) (by kernel_rfl) hS ?_
        intro wz6 hS hBz6
        refine w_pure rfl rfl (s_fld  rfl fo_37_1 ?_)
        refine w_read rfl rfl (s_ldo (k := 0)  rfl vi_9 hS rfl rfl rfl (.inr rfl) ?_)
        refine w_pure rfl rfl (s_fld  rfl fo_37_1 ?_)
        refine w_read rfl rfl (s_ldo (k := 0)  rfl vi_9 hS rfl rfl rfl (.inr rfl) ?_)
        refine w_grow rfl rfl (s_call Tryz.call120 rfl (rNormalize_ok _ _ (show r.num.size ≤ _ by omega)) ?_)
        rintro _ wq7 ⟨rfl, hq7⟩
        replace hq7 := hq7.symm
        subst hq7
        refine ⟨Below.refl _ _, ?_⟩
        refine w_pure rfl rfl (s_nes  rfl rfl ?_)
        refine w_pure rfl rfl (s_move  rfl ?_)
        refine w_pure rfl (gd_yes 9 (by kernel_rfl) rfl (decide_eq_false (by exact not_not_intro h1))) (s_fld  rfl fo_37_2 ?_)
        refine w_read rfl (gd_yes 9 (by kernel_rfl) rfl (decide_eq_false (by exact not_not_intro h1))) (s_ldo (k := 0)  rfl vi_9 hS rfl rfl rfl (.inr rfl) ?_)
        refine w_pure rfl (gd_yes 9 (by kernel_rfl) rfl (decide_eq_false (by exact not_not_intro h1))) (s_fld  rfl fo_37_2 ?_)
        refine w_read rfl (gd_yes 9 (by kernel_rfl) rfl (decide_eq_false (by exact not_not_intro h1))) (s_ldo (k := 0)  rfl vi_9 hS rfl rfl rfl (.inr rfl) ?_)
        refine w_grow rfl (gd_yes 9 (by kernel_rfl) rfl (decide_eq_false (not_not_intro h1))) (s_call Tryz.call120 rfl (rNormalize_ok _ _ (show r.den.size ≤ _ by omega)) ?_)
        rintro _ wq8 ⟨rfl, hq8⟩
        replace hq8 := hq8.symm
        subst hq8
        refine ⟨Below.refl _ _, ?_⟩
        refine w_pure rfl (gd_yes 9 (by kernel_rfl) rfl (decide_eq_false (by exact not_not_intro h1))) (s_nes  rfl rfl ?_)
        refine w_pure rfl rfl (s_pick (vb rfl (decide_eq_false (by exact not_not_intro h1))) rfl ?_)
        refine w_pure rfl rfl (s_move  rfl ?_)
        refine w_pure rfl (gd_yes 17 (by kernel_rfl) rfl (decide_eq_false (by exact not_not_intro h2))) (s_fld  rfl fo_37_2 ?_)
        refine w_read rfl (gd_yes 17 (by kernel_rfl) rfl (decide_eq_false (by exact not_not_intro h2))) (s_ldo (k := 0)  rfl vi_9 hS rfl rfl rfl (.inr rfl) ?_)
        refine w_pure rfl (gd_yes 17 (by kernel_rfl) rfl (decide_eq_false (by exact not_not_intro h2))) (s_eqs  rfl rfl ?_)
        refine w_pure rfl rfl (s_pick (vb rfl (decide_eq_false (by exact not_not_intro h2))) rfl ?_)
        refine w_end ?_
        repeat (with_reducible first | refine c_seq ?_ | refine c_block ?_ | refine c_skip ?_ | refine x_then ?_ | refine x_block ?_)
        refine c_no rfl (decide_eq_false h5) ?_
        repeat (with_reducible first | refine c_seq ?_ | refine c_block ?_ | refine c_skip ?_ | refine x_then ?_ | refine x_block ?_)
        refine c_reg ?_
        refine l_pure rfl (s_fld  rfl fo_37_1 ?_)
        refine l_read rfl (s_ldo (k := 0)  rfl vi_9 hS rfl rfl rfl (.inr rfl) ?_)
        refine l_pure rfl (s_eqs  rfl rfl ?_)
        refine l_nil ?_
        repeat (with_reducible first | refine c_seq ?_ | refine c_block ?_ | refine c_skip ?_ | refine x_then ?_ | refine x_block ?_)
        by_cases h3 : r.num = ⟨#[]⟩
        · refine c_yes rfl (decide_eq_true h3) ?_
          repeat (with_reducible first | refine c_seq ?_ | refine c_block ?_ | refine c_skip ?_ | refine x_then ?_ | refine x_block ?_)
          by_cases h4 : r.neg = false
          · repeat (with_reducible first | refine c_seq ?_ | refine c_block ?_ | refine c_skip ?_ | refine x_then ?_ | refine x_block ?_)
            refine c_reg ?_
            refine l_pure rfl (s_fld  rfl fo_37_0 ?_)
            refine l_read rfl (s_ldo (k := 0)  rfl vi_4 hS rfl rfl rfl (.inr rfl) ?_)
            refine l_pure rfl (s_not  rfl ?_)
            refine l_pure rfl (s_move  rfl ?_)
            refine l_pure (gd_yes 28 (by kernel_rfl) rfl (by show (!r.neg) = true; rw [h4]; rfl)) (s_fld  rfl fo_37_2 ?_)
            refine l_read (gd_yes 28 (by kernel_rfl) rfl (by show (!r.neg) = true; rw [h4]; rfl)) (s_ldo (k := 0)  rfl vi_9 hS rfl rfl rfl (.inr rfl) ?_)
            refine l_pure (gd_yes 28 (by kernel_rfl) rfl (by show (!r.neg) = true; rw [h4]; rfl)) (s_eqs  rfl rfl ?_)
            refine l_pure rfl (s_pick (vb rfl (by show (!r.neg) = true; rw [h4]; rfl)) rfl ?_)
            refine l_pure rfl (s_asg  rfl ?_)
            refine l_nil ?_
            repeat (with_reducible first | refine c_seq ?_ | refine c_block ?_ | refine c_skip ?_ | refine x_then ?_ | refine x_block ?_)
            refine c_ret ?_
            repeat (with_reducible first | refine x_then_ret ?_ | refine x_block_ret ?_)
            refine r_one rfl rfl ?_
            refine ⟨congrArg Value.bool ?_, hS.below⟩
            rw [decide_eq_decide, hV]
            exact ⟨fun h => ⟨h1, h2, fun _ => ⟨h4, h⟩, fun h => absurd h3 h⟩, fun h => (h.2.2.1 h3).2⟩
          · repeat (with_reducible first | refine c_seq ?_ | refine c_block ?_ | refine c_skip ?_ | refine x_then ?_ | refine x_block ?_)
            refine c_reg ?_
            refine l_pure rfl (s_fld  rfl fo_37_0 ?_)
            refine l_read rfl (s_ldo (k := 0)  rfl vi_4 hS rfl rfl rfl (.inr rfl) ?_)
            refine l_pure rfl (s_not  rfl ?_)
            refine l_pure rfl (s_move  rfl ?_)
            refine l_no (gno_yes 28 (by kernel_rfl) rfl (by show (!r.neg) = false; rw [Bool.not_eq_false] at h4; rw [h4]; rfl)) ?_
            refine l_no (gno_yes 28 (by kernel_rfl) rfl (by show (!r.neg) = false; rw [Bool.not_eq_false] at h4; rw [h4]; rfl)) ?_
            refine l_no (gno_yes 28 (by kernel_rfl) rfl (by show (!r.neg) = false; rw [Bool.not_eq_false] at h4; rw [h4]; rfl)) ?_
            refine l_pure rfl (s_pick (vb rfl (by show (!r.neg) = false; rw [Bool.not_eq_false] at h4; rw [h4]; rfl)) rfl ?_)
            refine l_pure rfl (s_asg  rfl ?_)
            refine l_nil ?_
            repeat (with_reducible first | refine c_seq ?_ | refine c_block ?_ | refine c_skip ?_ | refine x_then ?_ | refine x_block ?_)
            refine c_ret ?_
            repeat (with_reducible first | refine x_then_ret ?_ | refine x_block_ret ?_)
            refine r_one rfl rfl ?_
            refine ⟨congrArg Value.bool ?_, hS.below⟩
            symm; rw [decide_eq_false_iff_not, hV]
            exact fun h => h4 (h.2.2.1 h3).1
        · refine c_no rfl (decide_eq_false h3) ?_
          repeat (with_reducible first | refine c_seq ?_ | refine c_block ?_ | refine c_skip ?_ | refine x_then ?_ | refine x_block ?_)
          by_cases h4 : r.den = ⟨#[]⟩
          · repeat (with_reducible first | refine c_seq ?_ | refine c_block ?_ | refine c_skip ?_ | refine x_then ?_ | refine x_block ?_)
            refine c_reg ?_
            refine l_pure rfl (s_fld  rfl fo_37_2 ?_)
            refine l_read rfl (s_ldo (k := 0)  rfl vi_9 hS rfl rfl rfl (.inr rfl) ?_)
            refine l_pure rfl (s_eqs  rfl rfl ?_)
            refine l_pure rfl (s_move  rfl ?_)
            refine l_no (gno_yes 36 (by kernel_rfl) rfl (decide_eq_true h4)) ?_
            refine l_no (gno_yes 36 (by kernel_rfl) rfl (decide_eq_true h4)) ?_
            refine l_no (gno_yes 36 (by kernel_rfl) rfl (decide_eq_true h4)) ?_
            refine l_no (gno_yes 36 (by kernel_rfl) rfl (decide_eq_true h4)) ?_
            refine l_no (gno_yes 36 (by kernel_rfl) rfl (decide_eq_true h4)) ?_
            refine l_no (gno_yes 36 (by kernel_rfl) rfl (decide_eq_true h4)) ?_
            refine l_pure rfl (s_pick (vb rfl (decide_eq_true h4)) rfl ?_)
            refine l_pure rfl (s_asg  rfl ?_)
            refine l_nil ?_
            repeat (with_reducible first | refine c_seq ?_ | refine c_block ?_ | refine c_skip ?_ | refine x_then ?_ | refine x_block ?_)
            refine c_ret ?_
            repeat (with_reducible first | refine x_then_ret ?_ | refine x_block_ret ?_)
            refine r_one rfl rfl ?_
            refine ⟨congrArg Value.bool ?_, hS.below⟩
            symm; rw [decide_eq_true_iff, hV]
            exact ⟨h1, h2, fun h => absurd h h3, fun _ => .inl h4⟩
          · repeat (with_reducible first | refine c_seq ?_ | refine c_block ?_ | refine c_skip ?_ | refine x_then ?_ | refine x_block ?_)
            refine c_reg ?_
            refine l_pure rfl (s_fld  rfl fo_37_2 ?_)
            refine l_read rfl (s_ldo (k := 0)  rfl vi_9 hS rfl rfl rfl (.inr rfl) ?_)
            refine l_pure rfl (s_eqs  rfl rfl ?_)
            refine l_pure rfl (s_move  rfl ?_)
            refine l_pure (gd_yes 36 (by kernel_rfl) rfl (decide_eq_false h4)) (s_fld  rfl fo_37_1 ?_)
            refine l_read (gd_yes 36 (by kernel_rfl) rfl (decide_eq_false h4)) (s_ldo (k := 0)  rfl vi_9 hS rfl rfl rfl (.inr rfl) ?_)
            refine l_pure (gd_yes 36 (by kernel_rfl) rfl (decide_eq_false h4)) (s_fld  rfl fo_37_2 ?_)
            refine l_read (gd_yes 36 (by kernel_rfl) rfl (decide_eq_false h4)) (s_ldo (k := 0)  rfl vi_9 hS rfl rfl rfl (.inr rfl) ?_)
            refine l_heavy (gd_yes 36 (by kernel_rfl) rfl (decide_eq_false h4)) (s_call Tryz.call125 rfl (rGCD_ok _ _ _ (show r.num.size ≤ _ by omega) (show r.den.size ≤ _ by omega)) ?_)
            rintro _ wc9 ⟨rfl, hBc9⟩
            replace hS := hS.grow hBc9
            refine l_pure (gd_yes 36 (by kernel_rfl) rfl (decide_eq_false h4)) (s_eqs  rfl rfl ?_)
            refine l_pure rfl (s_pick (vb rfl (decide_eq_false h4)) rfl ?_)
            refine l_pure rfl (s_asg  rfl ?_)
            refine l_nil ?_
            repeat (with_reducible first | refine c_seq ?_ | refine c_block ?_ | refine c_skip ?_ | refine x_then ?_ | refine x_block ?_)
            refine c_ret ?_
            repeat (with_reducible first | refine x_then_ret ?_ | refine x_block_ret ?_)
            refine r_one rfl rfl ?_
            refine ⟨congrArg Value.bool ?_, hS.below⟩
            rw [decide_eq_decide, hV, one_eq]
            exact ⟨fun h => ⟨h1, h2, fun h => absurd h h3, fun _ => .inr ⟨h5, h⟩⟩, fun h => (h.2.2.2 h3).elim (fun g => absurd g h4) (fun g => g.2)⟩
    · repeat (with_reducible first | refine c_seq ?_ | refine c_block ?_ | refine c_skip ?_ | refine x_then ?_ | refine x_block ?_)
      refine c_draw [(0, .pure), (1, .read), (3, .pure), (4, .read), (2, .grow), (5, .pure), (6, .pure), (7, .pure), (8, .read), (10, .pure), (11, .read), (9, .grow), (12, .pure), (13, .pure), (14, .pure), (15, .pure), (16, .read), (17, .pure), (18, .pure)] (by kernel_rfl) (by kernel_rfl) hS ?_
      intro wz10 hS hBz10
      refine w_pure rfl rfl (s_fld  rfl fo_37_1 ?_)
      refine w_read rfl rfl (s_ldo (k := 0)  rfl vi_9 hS rfl rfl rfl (.inr rfl) ?_)
      refine w_pure rfl rfl (s_fld  rfl fo_37_1 ?_)
      refine w_read rfl rfl (s_ldo (k := 0)  rfl vi_9 hS rfl rfl rfl (.inr rfl) ?_)
      refine w_grow rfl rfl (s_call Tryz.call120 rfl (rNormalize_ok _ _ (show r.num.size ≤ _ by omega)) ?_)
      rintro _ wq11 ⟨rfl, hq11⟩
      replace hq11 := hq11.symm
      subst hq11
      refine ⟨Below.refl _ _, ?_⟩
      refine w_pure rfl rfl (s_nes  rfl rfl ?_)
      refine w_pure rfl rfl (s_move  rfl ?_)
      refine w_pure rfl (gd_yes 9 (by kernel_rfl) rfl (decide_eq_false (by exact not_not_intro h1))) (s_fld  rfl fo_37_2 ?_)
      refine w_read rfl (gd_yes 9 (by kernel_rfl) rfl (decide_eq_false (by exact not_not_intro h1))) (s_ldo (k := 0)  rfl vi_9 hS rfl rfl rfl (.inr rfl) ?_)
      refine w_pure rfl (gd_yes 9 (by kernel_rfl) rfl (decide_eq_false (by exact not_not_intro h1))) (s_fld  rfl fo_37_2 ?_)
      refine w_read rfl (gd_yes 9 (by kernel_rfl) rfl (decide_eq_false (by exact not_not_intro h1))) (s_ldo (k := 0)  rfl vi_9 hS rfl rfl rfl (.inr rfl) ?_)
      refine w_grow rfl (gd_yes 9 (by kernel_rfl) rfl (decide_eq_false (not_not_intro h1))) (s_call Tryz.call120 rfl (rNormalize_ok _ _ (show r.den.size ≤ _ by omega)) ?_)
      rintro _ wq12 ⟨rfl, hq12⟩
      replace hq12 := hq12.symm
      subst hq12
      refine ⟨Below.refl _ _, ?_⟩
      refine w_pure rfl (gd_yes 9 (by kernel_rfl) rfl (decide_eq_false (by exact not_not_intro h1))) (s_nes  rfl rfl ?_)
      refine w_pure rfl rfl (s_pick (vb rfl (decide_eq_false (by exact not_not_intro h1))) rfl ?_)
      refine w_pure rfl rfl (s_move  rfl ?_)
      refine w_no rfl (gno_yes 17 (by kernel_rfl) rfl (decide_eq_true h2)) ?_
      refine w_no rfl (gno_yes 17 (by kernel_rfl) rfl (decide_eq_true h2)) ?_
      refine w_no rfl (gno_yes 17 (by kernel_rfl) rfl (decide_eq_true h2)) ?_
      refine w_pure rfl rfl (s_pick (vb rfl (decide_eq_true h2)) rfl ?_)
      refine w_end ?_
      repeat (with_reducible first | refine c_seq ?_ | refine c_block ?_ | refine c_skip ?_ | refine x_then ?_ | refine x_block ?_)
      refine c_yes rfl (rfl) ?_
      repeat (with_reducible first | refine c_seq ?_ | refine c_block ?_ | refine c_skip ?_ | refine x_then ?_ | refine x_block ?_)
      refine c_reg ?_
      refine l_pure rfl (s_asg  rfl ?_)
      refine l_nil ?_
      repeat (with_reducible first | refine c_seq ?_ | refine c_block ?_ | refine c_skip ?_ | refine x_then ?_ | refine x_block ?_)
      refine c_ret ?_
      repeat (with_reducible first | refine x_then_ret ?_ | refine x_block_ret ?_)
      refine r_one rfl rfl ?_
      refine ⟨congrArg Value.bool ?_, hS.below⟩
      symm; rw [decide_eq_false_iff_not, hV]
      exact fun h => h2 h.2.1
  · repeat (with_reducible first | refine c_seq ?_ | refine c_block ?_ | refine c_skip ?_ | refine x_then ?_ | refine x_block ?_)
    refine c_draw [(0, .pure), (1, .read), (3, .pure), (4, .read), (2, .grow), (5, .pure), (6, .pure), (7, .pure), (8, .read), (10, .pure), (11, .read), (9, .grow), (12, .pure), (13, .pure), (14, .pure), (15, .pure), (16, .read), (17, .pure), (18, .pure)] (by kernel_rfl) (by kernel_rfl) hS ?_
    intro wz13 hS hBz13
    refine w_pure rfl rfl (s_fld  rfl fo_37_1 ?_)
    refine w_read rfl rfl (s_ldo (k := 0)  rfl vi_9 hS rfl rfl rfl (.inr rfl) ?_)
    refine w_pure rfl rfl (s_fld  rfl fo_37_1 ?_)
    refine w_read rfl rfl (s_ldo (k := 0)  rfl vi_9 hS rfl rfl rfl (.inr rfl) ?_)
    refine w_grow rfl rfl (s_call Tryz.call120 rfl (rNormalize_ok _ _ (show r.num.size ≤ _ by omega)) ?_)
    rintro _ wq14 ⟨rfl, hq14⟩
    replace hq14 := hq14.symm
    subst hq14
    refine ⟨Below.refl _ _, ?_⟩
    refine w_pure rfl rfl (s_nes  rfl rfl ?_)
    refine w_pure rfl rfl (s_move  rfl ?_)
    refine w_no rfl (gno_yes 9 (by kernel_rfl) rfl (decide_eq_true h1)) ?_
    refine w_no rfl (gno_yes 9 (by kernel_rfl) rfl (decide_eq_true h1)) ?_
    refine w_no rfl (gno_yes 9 (by kernel_rfl) rfl (decide_eq_true h1)) ?_
    refine w_no rfl (gno_yes 9 (by kernel_rfl) rfl (decide_eq_true h1)) ?_
    refine w_no rfl (gno_yes 9 (by kernel_rfl) rfl (decide_eq_true h1)) ?_
    refine w_no rfl (gno_yes 9 (by kernel_rfl) rfl (decide_eq_true h1)) ?_
    refine w_pure rfl rfl (s_pick (vb rfl (decide_eq_true h1)) rfl ?_)
    refine w_pure rfl rfl (s_move  rfl ?_)
    refine w_no rfl (gno_yes 17 (by kernel_rfl) rfl rfl) ?_
    refine w_no rfl (gno_yes 17 (by kernel_rfl) rfl rfl) ?_
    refine w_no rfl (gno_yes 17 (by kernel_rfl) rfl rfl) ?_
    refine w_pure rfl rfl (s_pick (vb rfl rfl) rfl ?_)
    refine w_end ?_
    repeat (with_reducible first | refine c_seq ?_ | refine c_block ?_ | refine c_skip ?_ | refine x_then ?_ | refine x_block ?_)
    refine c_yes rfl (rfl) ?_
    repeat (with_reducible first | refine c_seq ?_ | refine c_block ?_ | refine c_skip ?_ | refine x_then ?_ | refine x_block ?_)
    refine c_reg ?_
    refine l_pure rfl (s_asg  rfl ?_)
    refine l_nil ?_
    repeat (with_reducible first | refine c_seq ?_ | refine c_block ?_ | refine c_skip ?_ | refine x_then ?_ | refine x_block ?_)
    refine c_ret ?_
    repeat (with_reducible first | refine x_then_ret ?_ | refine x_block_ret ?_)
    refine r_one rfl rfl ?_
    refine ⟨congrArg Value.bool ?_, hS.below⟩
    symm; rw [decide_eq_false_iff_not, hV]
    exact fun h => h1 h.1
theorem rFix_ok (r : RR) (w : World) (hr : Lr r ≤ MX) :
    Ret Tryz.prog 52 #[aggR r] w fun v w' => v = aggR (fx r) ∧ Below w.heap.size w w' := by
  have hS := St.init w
  refine enter Tryz.func52 rfl Tryz.ntmps52 rfl ?_
  repeat (with_reducible first | refine c_seq ?_ | refine c_block ?_ | refine c_skip ?_ | refine x_then ?_ | refine x_block ?_)
  refine c_reg ?_
  refine l_heavy rfl (s_box (new := encR r)  rfl rfl hS ?_)
  intro b1 wz2 hS hBz2
  refine l_heavy rfl (s_alloc  vi_37 hS ?_)
  intro b3 wz4 hS hBz4
  refine l_nil ?_
  repeat (with_reducible first | refine c_seq ?_ | refine c_block ?_ | refine c_skip ?_ | refine x_then ?_ | refine x_block ?_)
  refine c_reg ?_
  refine l_read rfl (s_ldo (k := 1)  rfl vi_37 hS rfl rfl rfl (.inl rfl) ?_)
  refine l_heavy rfl (s_call Tryz.call97 rfl (rValid_ok r _ hr) ?_)
  rintro _ wc5 ⟨rfl, hBc5⟩
  replace hS := hS.grow hBc5
  refine l_nil ?_
  repeat (with_reducible first | refine c_seq ?_ | refine c_block ?_ | refine c_skip ?_ | refine x_then ?_ | refine x_block ?_)
  by_cases h : Vld r
  · refine c_yes rfl (decide_eq_true h) ?_
    repeat (with_reducible first | refine c_seq ?_ | refine c_block ?_ | refine c_skip ?_ | refine x_then ?_ | refine x_block ?_)
    refine c_reg ?_
    refine l_read rfl (s_ldo (k := 1)  rfl vi_37 hS rfl rfl rfl (.inl rfl) ?_)
    refine l_heavy rfl (s_sta (k := 0)  rfl rfl vi_37 hS rfl rfl rfl (Nat.le_of_ble_eq_true rfl) rfl ?_)
    intro wz6 hS
    refine l_nil ?_
    repeat (with_reducible first | refine c_seq ?_ | refine c_block ?_ | refine c_skip ?_ | refine x_then ?_ | refine x_block ?_)
    refine c_ret ?_
    repeat (with_reducible first | refine x_then_ret ?_ | refine x_block_ret ?_)
    refine r_cell (k := 0) rfl rfl vi_37 hS rfl rfl ?_
    rw [fx_vld h]
    exact ⟨rfl, hS.below⟩
  · refine c_no rfl (decide_eq_false h) ?_
    repeat (with_reducible first | refine c_seq ?_ | refine c_block ?_ | refine c_skip ?_ | refine x_then ?_ | refine x_block ?_)
    refine c_reg ?_
    refine l_pure rfl (s_build  rfl bz_37 ?_)
    refine l_heavy rfl (s_sta (k := 0)  rfl rfl vi_37 hS rfl rfl rfl (Nat.le_of_ble_eq_true rfl) rfl ?_)
    intro wz7 hS
    refine l_nil ?_
    repeat (with_reducible first | refine c_seq ?_ | refine c_block ?_ | refine c_skip ?_ | refine x_then ?_ | refine x_block ?_)
    refine c_ret ?_
    repeat (with_reducible first | refine x_then_ret ?_ | refine x_block_ret ?_)
    refine r_cell (k := 0) rfl rfl vi_37 hS rfl rfl ?_
    rw [fx_bad h]
    exact ⟨rfl, hS.below⟩
end Go.Proofs.YtmapmdldlcfjhaaGreatDoor
namespace Go.Proofs.YtmapmdldlcfjhaaGreatDoor
open Go Go.RowKit Go.Sx
theorem limb_len_le_size (n : Nat) : (limb n).length ≤ (natS n).size := by
  have := limb_len_natS n
  omega
theorem limb_one : limb 1 = [1] := by unfold limb; rw [digs_pos (by decide) (by decide), show 1 / B32 = 0 from rfl, digs_zero]; rfl
theorem limb_get0 {g : Nat} (h : ¬ 1 < (limb g).length) (hg : 0 < g) : (limb g).length = 1 ∧ (limb g).getD 0 0 = g := by
  have h1 := (top_pos hg).1
  have h2 : (limb g).length = 1 := by omega
  have h3 := limb_lt_pow g
  rw [h2, Nat.pow_one] at h3
  refine ⟨h2, ?_⟩
  rw [limb_getD, dgt, Nat.pow_zero, Nat.div_one, Nat.mod_eq_of_lt h3]
theorem limb_big_ne {g : Nat} (h : 1 < (limb g).length) : g ≠ 1 := by
  rintro rfl
  rw [limb_one] at h; exact absurd h (by decide)
theorem rden_ok (q : Rat) (w : World) (hL : L q ≤ MX) :
    Ret Tryz.prog 93 #[aggR (ofQ q)] w fun v w' => Sl (uk .u32) 1 w' v (limb q.den) ∧ Below w.heap.size w w' := by
  have hM : MX = 1099511627776 := rfl
  have hS := St.init w
  have hq := den_eq q
  have hd := L_den q
  refine enter Tryz.func93 rfl Tryz.ntmps93 rfl ?_
  repeat (with_reducible first | refine c_seq ?_ | refine c_block ?_ | refine c_skip ?_ | refine x_then ?_ | refine x_block ?_)
  refine c_reg ?_
  refine l_heavy rfl (s_box (new := encR (ofQ q))  rfl rfl hS ?_)
  intro b1 wz2 hS hBz2
  refine l_pure rfl (s_asg  rfl ?_)
  refine l_nil ?_
  repeat (with_reducible first | refine c_seq ?_ | refine c_block ?_ | refine c_skip ?_ | refine x_then ?_ | refine x_block ?_)
  refine c_reg ?_
  refine l_pure rfl (s_fld  rfl fo_37_2 ?_)
  refine l_read rfl (s_ldo (k := 0)  rfl vi_9 hS rfl rfl rfl (.inr rfl) ?_)
  refine l_pure rfl (s_eqs  rfl rfl ?_)
  refine l_nil ?_
  repeat (with_reducible first | refine c_seq ?_ | refine c_block ?_ | refine c_skip ?_ | refine x_then ?_ | refine x_block ?_)
  by_cases h : (ofQ q).den = ⟨#[]⟩
  · refine c_yes rfl (decide_eq_true h) ?_
    repeat (with_reducible first | refine c_seq ?_ | refine c_block ?_ | refine c_skip ?_ | refine x_then ?_ | refine x_block ?_)
    have h1 : q.den = 1 := by
      rw [if_pos h] at hq
      exact (one_eq.1 hq.symm)
    repeat (with_reducible first | refine c_seq ?_ | refine c_block ?_ | refine c_skip ?_ | refine x_then ?_ | refine x_block ?_)
    refine c_reg ?_
    refine l_heavy rfl (s_bsl (vs := [_])  rfl si_93 rfl (by decide) (by decide) (by decide) (by simp [Value.cells]) rfl hS ?_)
    intro b3 wz4 hS hBz4
    refine l_pure rfl (s_asg  rfl ?_)
    refine l_nil ?_
    repeat (with_reducible first | refine c_seq ?_ | refine c_block ?_ | refine c_skip ?_ | refine x_then ?_ | refine x_block ?_)
    have hsl := St.slk (L := [1]) hS (k := 0) rfl (n := 1) (cap := 1) (by simp) (by omega) (by omega)
    refine c_ret ?_
    repeat (with_reducible first | refine x_then_ret ?_ | refine x_block_ret ?_)
    refine r_one rfl rfl ?_
    rw [h1, limb_one]
    exact ⟨hsl, hS.below⟩
  · refine c_no rfl (decide_eq_false h) ?_
    repeat (with_reducible first | refine c_seq ?_ | refine c_block ?_ | refine c_skip ?_ | refine x_then ?_ | refine x_block ?_)
    rw [if_neg h] at hq
    rw [hq]
    repeat (with_reducible first | refine c_seq ?_ | refine c_block ?_ | refine c_skip ?_ | refine x_then ?_ | refine x_block ?_)
    refine c_reg ?_
    refine l_pure rfl (s_fld  rfl fo_37_2 ?_)
    refine l_read rfl (s_ldo (k := 0)  rfl vi_9 hS rfl rfl rfl (.inr rfl) ?_)
    refine l_heavy rfl (s_call Tryz.call92 rfl (rlimbs_ok (ofQ q).den _ (by rw [hq]; omega)) ?_)
    rintro v w3 ⟨hv, hB3⟩
    refine l_pure rfl (s_asg  rfl ?_)
    refine l_nil ?_
    repeat (with_reducible first | refine c_seq ?_ | refine c_block ?_ | refine c_skip ?_ | refine x_then ?_ | refine x_block ?_)
    refine c_ret ?_
    repeat (with_reducible first | refine x_then_ret ?_ | refine x_block_ret ?_)
    refine r_one rfl rfl ?_
    rw [hq, val_natS] at hv
    exact ⟨hv, hS.below.trans (hB3.mono hS.below.size)⟩
theorem built_Rat2 (b : Bool) (s : ByteArray) : Tryz.prog.built 37 [(0, .bool b), (1, .string s)] = some #[.bool b, .string s, .string ⟨#[]⟩] := by kernel_rfl
set_option maxHeartbeats 1000000 in
theorem rreduced_ok (b : Bool) (vn vd : Value) (n d : Nat) (w : World) (hvn : Sl (uk .u32) 1 w vn (limb n)) (hvd : Sl (uk .u32) 1 w vd (limb d)) (hn : (limb n).length ≤ 4398046511104) (hd : (limb d).length ≤ 4398046511104) (h0 : d ≠ 0) :
    Ret Tryz.prog 95 #[.bool b, vn, vd] w fun v w' => v = aggR (ofQ (mkRat (sg b n) d)) ∧ Below w.heap.size w w' := by
  have hS := St.init w
  refine enter Tryz.func95 rfl Tryz.ntmps95 rfl ?_
  repeat (with_reducible first | refine c_seq ?_ | refine c_block ?_ | refine c_skip ?_ | refine x_then ?_ | refine x_block ?_)
  refine c_reg ?_
  refine l_heavy rfl (s_alloc  vi_37 hS ?_)
  intro b1 wz2 hS hBz2
  refine l_nil ?_
  repeat (with_reducible first | refine c_seq ?_ | refine c_block ?_ | refine c_skip ?_ | refine x_then ?_ | refine x_block ?_)
  refine c_reg ?_
  refine l_pure rfl (s_move  rfl ?_)
  refine l_pure rfl (s_lenr  rfl (hvn.below hS.below) ⟨_, Tryz.underlying93⟩ ?_)
  refine l_pure rfl (s_eql  rfl rfl ?_)
  refine l_nil ?_
  repeat (with_reducible first | refine c_seq ?_ | refine c_block ?_ | refine c_skip ?_ | refine x_then ?_ | refine x_block ?_)
  have hzn : (limb n).length = 0 ↔ n = 0 := limb_nil_iff
  by_cases hz : n = 0
  · refine c_yes rfl (decide_eq_true (by omega)) ?_
    repeat (with_reducible first | refine c_seq ?_ | refine c_block ?_ | refine c_skip ?_ | refine x_then ?_ | refine x_block ?_)
    refine c_reg ?_
    refine l_pure rfl (s_build  rfl bz_37 ?_)
    refine l_heavy rfl (s_sta (k := 0)  rfl rfl vi_37 hS rfl rfl rfl (Nat.le_of_ble_eq_true rfl) rfl ?_)
    intro wz3 hS
    refine l_nil ?_
    repeat (with_reducible first | refine c_seq ?_ | refine c_block ?_ | refine c_skip ?_ | refine x_then ?_ | refine x_block ?_)
    refine c_ret ?_
    repeat (with_reducible first | refine x_then_ret ?_ | refine x_block_ret ?_)
    refine r_cell (k := 0) rfl rfl vi_37 hS rfl rfl ?_
    refine ⟨?_, hS.below⟩
    have : mkRat (sg b 0) d = 0 := by cases b <;> simp [sg]
    rw [hz, this, ofQ_zero]; rfl
  · refine c_no rfl (decide_eq_false (by omega)) ?_
    repeat (with_reducible first | refine c_seq ?_ | refine c_block ?_ | refine c_skip ?_ | refine x_then ?_ | refine x_block ?_)
    obtain ⟨g, hg⟩ : ∃ g, g = Nat.gcd n d := ⟨_, rfl⟩
    have hgp : 0 < g := by rw [hg]; exact Nat.gcd_pos_of_pos_right _ (by omega)
    have hgn : g ≤ n := by rw [hg]; exact Nat.gcd_le_left _ (by omega)
    have hgd : g ≤ d := by rw [hg]; exact Nat.gcd_le_right _ (by omega)
    have hgl := limb_len_mono hgn
    repeat (with_reducible first | refine c_seq ?_ | refine c_block ?_ | refine c_skip ?_ | refine x_then ?_ | refine x_block ?_)
    refine c_reg ?_
    refine l_pure rfl (s_move  rfl ?_)
    refine l_pure rfl (s_move  rfl ?_)
    refine l_heavy rfl (s_call Tryz.call124 rfl (rcommon_ok _ _ n d _ (hvn.below hS.below) (hvd.below hS.below) (by omega) (by omega)) ?_)
    rintro vg w2 ⟨hvg, hB2⟩
    replace hS := hS.grow hB2
    rw [← hg] at hvg
    refine l_pure rfl (s_asg  rfl ?_)
    refine l_nil ?_
    repeat (with_reducible first | refine c_seq ?_ | refine c_block ?_ | refine c_skip ?_ | refine x_then ?_ | refine x_block ?_)
    refine c_cut1 (fun ρ w' => ρ 0 = .bool b ∧ ρ 1 = vn ∧ ρ 2 = vd ∧ ρ 6 = .pointer (some ⟨b1, 0, none⟩) ∧ ρ 7 = vg ∧ ρ 24 = .bool (decide (g ≠ 1)) ∧ w2 = w') ?_ ?_
    · by_cases hl1 : 1 < (limb g).length
      · repeat (with_reducible first | refine c_seq ?_ | refine c_block ?_ | refine c_skip ?_ | refine x_then ?_ | refine x_block ?_)
        refine c_reg ?_
        refine l_pure rfl (s_move  rfl ?_)
        refine l_pure rfl (s_lenr  rfl hvg ⟨_, Tryz.underlying93⟩ ?_)
        refine l_pure rfl (s_gtr  rfl rfl ?_)
        refine l_pure rfl (s_move  rfl ?_)
        refine l_no (gno_yes 19 (by kernel_rfl) rfl (decide_eq_true (by omega))) ?_
        refine l_no (gno_yes 19 (by kernel_rfl) rfl (decide_eq_true (by omega))) ?_
        refine l_no (gno_yes 19 (by kernel_rfl) rfl (decide_eq_true (by omega))) ?_
        refine l_no (gno_yes 19 (by kernel_rfl) rfl (decide_eq_true (by omega))) ?_
        refine l_pure rfl (s_pick (vb rfl (decide_eq_true (by omega))) rfl ?_)
        refine l_nil ?_
        repeat (with_reducible first | refine c_seq ?_ | refine c_block ?_ | refine c_skip ?_ | refine x_then ?_ | refine x_block ?_)
        exact ⟨_, rfl, rfl, rfl, rfl, rfl, rfl, vb rfl (decide_eq_true (limb_big_ne hl1)).symm, rfl⟩
      · have hl2 := limb_get0 hl1 hgp
        repeat (with_reducible first | refine c_seq ?_ | refine c_block ?_ | refine c_skip ?_ | refine x_then ?_ | refine x_block ?_)
        refine c_reg ?_
        refine l_pure rfl (s_move  rfl ?_)
        refine l_pure rfl (s_lenr  rfl hvg ⟨_, Tryz.underlying93⟩ ?_)
        refine l_pure rfl (s_gtr  rfl rfl ?_)
        refine l_pure rfl (s_move  rfl ?_)
        refine l_pure (gd_yes 19 (by kernel_rfl) rfl (decide_eq_false (by omega))) (s_move  rfl ?_)
        refine l_pure (gd_yes 19 (by kernel_rfl) rfl (decide_eq_false (by omega))) (s_ixr (i := 0)  rfl rfl hvg (by omega) (by first | omega | (simp; done) | (simp; omega)) si_93 ?_)
        refine l_read (gd_yes 19 (by kernel_rfl) rfl (decide_eq_false (by omega))) (s_lde (i := 0) 0  rfl vi_99 hvg (by first | omega | (simp; done) | (simp; omega)) rfl rfl (.inr rfl) ?_)
        refine l_pure (gd_yes 19 (by kernel_rfl) rfl (decide_eq_false (by omega))) (s_gtr  rfl rfl ?_)
        refine l_pure rfl (s_pick (vb rfl (decide_eq_false (by omega))) rfl ?_)
        refine l_nil ?_
        repeat (with_reducible first | refine c_seq ?_ | refine c_block ?_ | refine c_skip ?_ | refine x_then ?_ | refine x_block ?_)
        exact ⟨_, rfl, rfl, rfl, rfl, rfl, rfl, vb rfl (by rw [hl2.2, decide_eq_decide]; omega), rfl⟩
    rintro ρ w' ⟨k0, k1, k2, k6, k7, k24, rfl⟩
    repeat (with_reducible first | refine c_seq ?_ | refine c_block ?_ | refine c_skip ?_ | refine x_then ?_ | refine x_block ?_)
    refine c_cut1 (fun ρ w' => ∃ (n' d' : Nat) (v1 v2 : Value), 0 < n' ∧ d' ≠ 0 ∧ Nat.gcd n' d' = 1 ∧ mkRat (sg b n) d = mkRat (sg b n') d' ∧ (limb n').length ≤ 4398046511104 ∧ (limb d').length ≤ 4398046511104 ∧ ρ 0 = .bool b ∧ ρ 1 = v1 ∧ ρ 2 = v2 ∧ ρ 6 = .pointer (some ⟨b1, 0, none⟩) ∧
      Sl (uk .u32) 1 w' v1 (limb n') ∧ Sl (uk .u32) 1 w' v2 (limb d') ∧ St w w' [(b1, 37, encR ⟨false, ⟨#[]⟩, ⟨#[]⟩⟩)]) ?_ ?_
    · repeat (with_reducible first | refine c_seq ?_ | refine c_block ?_ | refine c_skip ?_ | refine x_then ?_ | refine x_block ?_)
      by_cases hg1 : g = 1
      · refine c_no k24 (decide_eq_false (not_not_intro hg1)) ?_
        repeat (with_reducible first | refine c_seq ?_ | refine c_block ?_ | refine c_skip ?_ | refine x_then ?_ | refine x_block ?_)
        exact ⟨_, rfl, n, d, _, _, by omega, h0, by rw [← hg, hg1], rfl, by omega, by omega, k0, k1, k2, k6, hvn.below hS.below, hvd.below hS.below, hS⟩
      · refine c_yes k24 (decide_eq_true hg1) ?_
        repeat (with_reducible first | refine c_seq ?_ | refine c_block ?_ | refine c_skip ?_ | refine x_then ?_ | refine x_block ?_)
        have hnp : 0 < n / g := Nat.div_pos hgn hgp
        have hdp : 0 < d / g := Nat.div_pos hgd hgp
        have hln := limb_len_mono (Nat.div_le_self n g)
        have hld := limb_len_mono (Nat.div_le_self d g)
        repeat (with_reducible first | refine c_seq ?_ | refine c_block ?_ | refine c_skip ?_ | refine x_then ?_ | refine x_block ?_)
        refine c_reg ?_
        refine l_pure rfl (s_move  k1 ?_)
        refine l_pure rfl (s_move  k7 ?_)
        refine l_heavy rfl (s_call Tryz.call91 rfl (rdivide_ok _ _ n g _ (hvn.below hS.below) hvg hgp (by omega)) ?_)
        rintro r w3 ⟨⟨q1, s1, rfl, hq1, _⟩, hB3⟩
        replace hS := hS.grow hB3
        refine l_pure rfl (s_move  rfl ?_)
        refine l_pure rfl (s_ext  rfl rfl ?_)
        refine l_pure rfl (s_ext  rfl rfl ?_)
        refine l_pure rfl (s_asg  rfl ?_)
        refine l_nil ?_
        repeat (with_reducible first | refine c_seq ?_ | refine c_block ?_ | refine c_skip ?_ | refine x_then ?_ | refine x_block ?_)
        refine c_reg ?_
        refine l_pure rfl (s_move  k2 ?_)
        refine l_pure rfl (s_move  k7 ?_)
        refine l_heavy rfl (s_call Tryz.call91 rfl (rdivide_ok _ _ d g _ (hvd.below hS.below) (hvg.below hB3) hgp (by omega)) ?_)
        rintro r w4 ⟨⟨q2, s2, rfl, hq2, _⟩, hB4⟩
        replace hS := hS.grow hB4
        refine l_pure rfl (s_move  rfl ?_)
        refine l_pure rfl (s_ext  rfl rfl ?_)
        refine l_pure rfl (s_ext  rfl rfl ?_)
        refine l_pure rfl (s_asg  rfl ?_)
        refine l_nil ?_
        repeat (with_reducible first | refine c_seq ?_ | refine c_block ?_ | refine c_skip ?_ | refine x_then ?_ | refine x_block ?_)
        exact ⟨_, rfl, n / g, d / g, q1, q2, hnp, by omega, by rw [hg, Nat.gcd_div (Nat.gcd_dvd_left _ _) (Nat.gcd_dvd_right _ _), ← hg, Nat.div_self hgp], mkRat_red h0 hg, by omega, by omega, k0, rfl, rfl, k6, hq1.below hB4, hq2, hS⟩
    clear k0 k1 k2 k6 k7 k24
    clear hS hvn hvd
    rintro ρ w' ⟨n', d', v1, v2, hn', hd', hc, he, hln', hld', k0, k1, k2, k6, hvn, hvd, hS⟩
    rw [he, ofQ_mk hn' hd' hc]
    repeat (with_reducible first | refine c_seq ?_ | refine c_block ?_ | refine c_skip ?_ | refine x_then ?_ | refine x_block ?_)
    refine c_reg ?_
    refine l_pure rfl (s_move  k0 ?_)
    refine l_pure rfl (s_move  k1 ?_)
    refine l_heavy rfl (s_call Tryz.call99 rfl (rtext_ok _ _ _ hvn (limb_lt _) (by omega)) ?_)
    rintro r w5 ⟨rfl, hB5⟩
    replace hS := hS.grow hB5
    rw [ofDigs_limb]
    have hvd5 := hvd.below hB5
    have hS0 := hS
    replace hS := St.init w5
    refine l_pure rfl (s_build  rfl (built_Rat2 _ _) ?_)
    refine l_heavy rfl (s_alloc  vi_37 hS ?_)
    intro b4 wz5 hS hBz5
    refine l_heavy rfl (s_sta (k := 0)  rfl rfl vi_37 hS rfl rfl rfl (Nat.le_of_ble_eq_true rfl) rfl ?_)
    intro wz6 hS
    refine l_nil ?_
    repeat (with_reducible first | refine c_seq ?_ | refine c_block ?_ | refine c_skip ?_ | refine x_then ?_ | refine x_block ?_)
    replace hS : St w5 _ [(_, 37, encR ⟨b, natS n', ⟨#[]⟩⟩)] := hS
    repeat (with_reducible first | refine c_seq ?_ | refine c_block ?_ | refine c_skip ?_ | refine x_then ?_ | refine x_block ?_)
    refine c_cut1 (fun ρ w' => ρ 2 = v2 ∧ ρ 6 = .pointer (some ⟨b1, 0, none⟩) ∧ ρ 8 = .pointer (some ⟨b4, 0, none⟩) ∧ ρ 49 = .bool (decide (d' ≠ 1)) ∧ wz6 = w') ?_ ?_
    · by_cases hl1 : 1 < (limb d').length
      · repeat (with_reducible first | refine c_seq ?_ | refine c_block ?_ | refine c_skip ?_ | refine x_then ?_ | refine x_block ?_)
        refine c_reg ?_
        refine l_pure rfl (s_move  k2 ?_)
        refine l_pure rfl (s_lenr  rfl (hvd5.below hS.below) ⟨_, Tryz.underlying93⟩ ?_)
        refine l_pure rfl (s_gtr  rfl rfl ?_)
        refine l_pure rfl (s_move  rfl ?_)
        refine l_no (gno_yes 44 (by kernel_rfl) rfl (decide_eq_true (by omega))) ?_
        refine l_no (gno_yes 44 (by kernel_rfl) rfl (decide_eq_true (by omega))) ?_
        refine l_no (gno_yes 44 (by kernel_rfl) rfl (decide_eq_true (by omega))) ?_
        refine l_no (gno_yes 44 (by kernel_rfl) rfl (decide_eq_true (by omega))) ?_
        refine l_pure rfl (s_pick (vb rfl (decide_eq_true (by omega))) rfl ?_)
        refine l_nil ?_
        repeat (with_reducible first | refine c_seq ?_ | refine c_block ?_ | refine c_skip ?_ | refine x_then ?_ | refine x_block ?_)
        exact ⟨_, rfl, k2, k6, rfl, vb rfl (decide_eq_true (limb_big_ne hl1)).symm, rfl⟩
      · have hl2 := limb_get0 hl1 (by omega)
        repeat (with_reducible first | refine c_seq ?_ | refine c_block ?_ | refine c_skip ?_ | refine x_then ?_ | refine x_block ?_)
        refine c_reg ?_
        refine l_pure rfl (s_move  k2 ?_)
        refine l_pure rfl (s_lenr  rfl (hvd5.below hS.below) ⟨_, Tryz.underlying93⟩ ?_)
        refine l_pure rfl (s_gtr  rfl rfl ?_)
        refine l_pure rfl (s_move  rfl ?_)
        refine l_pure (gd_yes 44 (by kernel_rfl) rfl (decide_eq_false (by omega))) (s_move  k2 ?_)
        refine l_pure (gd_yes 44 (by kernel_rfl) rfl (decide_eq_false (by omega))) (s_ixr (i := 0)  rfl rfl (hvd5.below hS.below) (by omega) (by first | omega | (simp; done) | (simp; omega)) si_93 ?_)
        refine l_read (gd_yes 44 (by kernel_rfl) rfl (decide_eq_false (by omega))) (s_lde (i := 0) 0  rfl vi_99 (hvd5.below hS.below) (by first | omega | (simp; done) | (simp; omega)) rfl rfl (.inr rfl) ?_)
        refine l_pure (gd_yes 44 (by kernel_rfl) rfl (decide_eq_false (by omega))) (s_gtr  rfl rfl ?_)
        refine l_pure rfl (s_pick (vb rfl (decide_eq_false (by omega))) rfl ?_)
        refine l_nil ?_
        repeat (with_reducible first | refine c_seq ?_ | refine c_block ?_ | refine c_skip ?_ | refine x_then ?_ | refine x_block ?_)
        exact ⟨_, rfl, k2, k6, rfl, vb rfl (by rw [hl2.2, decide_eq_decide]; omega), rfl⟩
    clear k0 k1 k2 k6
    rintro ρ w' ⟨k2, k6, k8, k49, rfl⟩
    repeat (with_reducible first | refine c_seq ?_ | refine c_block ?_ | refine c_skip ?_ | refine x_then ?_ | refine x_block ?_)
    refine c_cut1 (fun ρ w' => ∃ b8, ρ 6 = .pointer (some ⟨b1, 0, none⟩) ∧ ρ 8 = .pointer (some ⟨b8, 0, none⟩) ∧ St w w' [(b8, 37, encR ⟨b, natS n', if d' = 1 then ⟨#[]⟩ else natS d'⟩), (b1, 37, encR ⟨false, ⟨#[]⟩, ⟨#[]⟩⟩)]) ?_ ?_
    · repeat (with_reducible first | refine c_seq ?_ | refine c_block ?_ | refine c_skip ?_ | refine x_then ?_ | refine x_block ?_)
      by_cases hd1 : d' = 1
      · refine c_no k49 (decide_eq_false (not_not_intro hd1)) ?_
        repeat (with_reducible first | refine c_seq ?_ | refine c_block ?_ | refine c_skip ?_ | refine x_then ?_ | refine x_block ?_)
        exact ⟨_, rfl, _, k6, k8, by rw [if_pos hd1]; exact hS0.join hS⟩
      · refine c_yes k49 (decide_eq_true hd1) ?_
        repeat (with_reducible first | refine c_seq ?_ | refine c_block ?_ | refine c_skip ?_ | refine x_then ?_ | refine x_block ?_)
        refine c_reg ?_
        refine l_pure rfl (s_move  k2 ?_)
        refine l_heavy rfl (s_call Tryz.call99 rfl (rtext_ok _ _ _ (hvd5.below hS.below) (limb_lt _) (by omega)) ?_)
        rintro r w6 ⟨rfl, hB6⟩
        replace hS := hS.grow hB6
        rw [ofDigs_limb]
        refine l_pure rfl (s_fld  k8 fo_37_2 ?_)
        refine l_heavy rfl (s_stc (k := 0)  rfl rfl vi_9 hS rfl (Nat.le_of_ble_eq_true rfl) rfl ?_)
        intro wz7 hS
        refine l_nil ?_
        repeat (with_reducible first | refine c_seq ?_ | refine c_block ?_ | refine c_skip ?_ | refine x_then ?_ | refine x_block ?_)
        exact ⟨_, rfl, _, k6, k8, by rw [if_neg hd1]; exact hS0.join hS⟩
    clear hS hS0 hvd5 hvn hvd
    rintro ρ w' ⟨b8, k6, k8, hS⟩
    repeat (with_reducible first | refine c_seq ?_ | refine c_block ?_ | refine c_skip ?_ | refine x_then ?_ | refine x_block ?_)
    refine c_reg ?_
    refine l_read rfl (s_ldo (k := 0)  k8 vi_37 hS rfl rfl rfl (.inl rfl) ?_)
    refine l_heavy rfl (s_sta (k := 1)  k6 rfl vi_37 hS rfl rfl rfl (Nat.le_of_ble_eq_true rfl) rfl ?_)
    intro wz8 hS
    refine l_nil ?_
    repeat (with_reducible first | refine c_seq ?_ | refine c_block ?_ | refine c_skip ?_ | refine x_then ?_ | refine x_block ?_)
    refine c_ret ?_
    repeat (with_reducible first | refine x_then_ret ?_ | refine x_block_ret ?_)
    refine r_cell (k := 1) rfl k6 vi_37 hS rfl rfl ?_
    exact ⟨rfl, hS.below⟩
end Go.Proofs.YtmapmdldlcfjhaaGreatDoor
namespace Go.Proofs.YtmapmdldlcfjhaaGreatDoor
open Go Go.RowKit Go.Sx
theorem rsize_ok (n : Int) (w : World) (h1 : -9223372036854775808 ≤ n) (h2 : n ≤ 9223372036854775807) :
    Ret Tryz.prog 65 #[.int .i64 n] w fun v w' => v = .int .u64 (n.natAbs : Nat) ∧ w' = w := by
  refine enter Tryz.func65 rfl Tryz.ntmps65 rfl ?_
  repeat (with_reducible first | refine c_seq ?_ | refine c_block ?_ | refine c_skip ?_ | refine x_then ?_ | refine x_block ?_)
  refine c_reg ?_
  refine l_pure rfl (s_asg  rfl ?_)
  refine l_nil ?_
  repeat (with_reducible first | refine c_seq ?_ | refine c_block ?_ | refine c_skip ?_ | refine x_then ?_ | refine x_block ?_)
  refine c_reg ?_
  refine l_pure rfl (s_move  rfl ?_)
  refine l_pure rfl (s_lss  rfl rfl ?_)
  refine l_nil ?_
  repeat (with_reducible first | refine c_seq ?_ | refine c_block ?_ | refine c_skip ?_ | refine x_then ?_ | refine x_block ?_)
  by_cases h : n < 0
  · refine c_yes rfl (decide_eq_true h) ?_
    repeat (with_reducible first | refine c_seq ?_ | refine c_block ?_ | refine c_skip ?_ | refine x_then ?_ | refine x_block ?_)
    refine c_reg ?_
    refine l_pure rfl (s_move  rfl ?_)
    refine l_pure rfl (s_add  rfl rfl (IntWalk.i64_in _ (by omega)) ?_)
    refine l_pure rfl (s_neg  rfl (r := (-(n + 1))) (by exact wr_i64 _ ⟨by omega, by omega, by omega⟩) ?_)
    refine l_pure rfl (s_conv  rfl Tryz.underlying76 ⟨_, Tryz.underlying2⟩ (r := (-(n + 1))) (by exact IntWalk.u64_in _ (by omega)) ?_)
    refine l_pure rfl (s_add  rfl rfl (r := ((n.natAbs : Nat) : Int)) (by exact wr_u64 _ ⟨by omega, by omega, by omega⟩) ?_)
    refine l_pure rfl (s_asg  rfl ?_)
    refine l_nil ?_
    repeat (with_reducible first | refine c_seq ?_ | refine c_block ?_ | refine c_skip ?_ | refine x_then ?_ | refine x_block ?_)
    refine c_ret ?_
    repeat (with_reducible first | refine x_then_ret ?_ | refine x_block_ret ?_)
    refine r_one rfl rfl ?_
    exact ⟨rfl, rfl⟩
  · refine c_no rfl (decide_eq_false h) ?_
    repeat (with_reducible first | refine c_seq ?_ | refine c_block ?_ | refine c_skip ?_ | refine x_then ?_ | refine x_block ?_)
    refine c_reg ?_
    refine l_pure rfl (s_move  rfl ?_)
    refine l_pure rfl (s_conv  rfl Tryz.underlying76 ⟨_, Tryz.underlying2⟩ (r := ((n.natAbs : Nat) : Int)) (by exact wr_u64 _ ⟨by omega, by omega, by omega⟩) ?_)
    refine l_pure rfl (s_asg  rfl ?_)
    refine l_nil ?_
    repeat (with_reducible first | refine c_seq ?_ | refine c_block ?_ | refine c_skip ?_ | refine x_then ?_ | refine x_block ?_)
    refine c_ret ?_
    repeat (with_reducible first | refine x_then_ret ?_ | refine x_block_ret ?_)
    refine r_one rfl rfl ?_
    exact ⟨rfl, rfl⟩
theorem rInt_ok (n : Int) (w : World) (h1 : -9223372036854775808 ≤ n) (h2 : n ≤ 9223372036854775807) :
    Ret Tryz.prog 31 #[.int .i64 n] w fun v w' => v = aggR (ofQ (n : Rat)) ∧ Below w.heap.size w w' := by
  have hS := St.init w
  refine enter Tryz.func31 rfl Tryz.ntmps31 rfl ?_
  repeat (with_reducible first | refine c_seq ?_ | refine c_block ?_ | refine c_skip ?_ | refine x_then ?_ | refine x_block ?_)
  refine c_reg ?_
  refine l_heavy rfl (s_alloc  vi_37 hS ?_)
  intro b1 wz2 hS hBz2
  refine l_nil ?_
  repeat (with_reducible first | refine c_seq ?_ | refine c_block ?_ | refine c_skip ?_ | refine x_then ?_ | refine x_block ?_)
  refine c_reg ?_
  refine l_pure rfl (s_move  rfl ?_)
  refine l_pure rfl (s_lss  rfl rfl ?_)
  refine l_pure rfl (s_move  rfl ?_)
  refine l_heavy rfl (s_call Tryz.call65 rfl (rsize_ok n _ h1 h2) ?_)
  rintro _ wq3 ⟨rfl, hq3⟩
  replace hq3 := hq3.symm
  subst hq3
  refine l_heavy rfl (s_call Tryz.call64 rfl (rFromUint_ok n.natAbs _ (by omega)) ?_)
  rintro _ wc4 ⟨rfl, hBc4⟩
  replace hS := hS.grow hBc4
  refine l_pure rfl (s_build  rfl (built_Rat2 _ _) ?_)
  refine l_heavy rfl (s_sta (k := 0)  rfl rfl vi_37 hS rfl rfl rfl (Nat.le_of_ble_eq_true rfl) rfl ?_)
  intro wz5 hS
  refine l_nil ?_
  repeat (with_reducible first | refine c_seq ?_ | refine c_block ?_ | refine c_skip ?_ | refine x_then ?_ | refine x_block ?_)
  refine c_ret ?_
  repeat (with_reducible first | refine x_then_ret ?_ | refine x_block_ret ?_)
  refine r_cell (k := 0) rfl rfl vi_37 hS rfl rfl ?_
  exact ⟨rfl, hS.below⟩
theorem rMake_ok (b : Bool) (num den : ByteArray) (w : World) (hn : num.size ≤ 4398046511104) (hd : den.size ≤ 4398046511104) (h0 : val den ≠ 0) :
    Ret Tryz.prog 63 #[.bool b, .string num, .string den] w fun v w' => v = .tuple #[aggR (ofQ (mkRat (sg b (val num)) (val den))), .bool true] ∧ Below w.heap.size w w' := by
  have hla := limb_val_len num
  have hlb := limb_val_len den
  have hne : (limb (val den)).length ≠ 0 := fun h => h0 (limb_nil_iff.1 h)
  have hS := St.init w
  refine enter Tryz.func63 rfl Tryz.ntmps63 rfl ?_
  repeat (with_reducible first | refine c_seq ?_ | refine c_block ?_ | refine c_skip ?_ | refine x_then ?_ | refine x_block ?_)
  refine c_reg ?_
  refine l_heavy rfl (s_alloc  vi_37 hS ?_)
  intro b1 wz2 hS hBz2
  refine l_pure rfl (s_asg  rfl ?_)
  refine l_nil ?_
  repeat (with_reducible first | refine c_seq ?_ | refine c_block ?_ | refine c_skip ?_ | refine x_then ?_ | refine x_block ?_)
  refine c_reg ?_
  refine l_pure rfl (s_move  rfl ?_)
  refine l_heavy rfl (s_call Tryz.call92 rfl (rlimbs_ok _ _ (by omega)) ?_)
  rintro vd w2 ⟨hvd, hB2⟩
  replace hS := hS.grow hB2
  refine l_pure rfl (s_asg  rfl ?_)
  refine l_nil ?_
  repeat (with_reducible first | refine c_seq ?_ | refine c_block ?_ | refine c_skip ?_ | refine x_then ?_ | refine x_block ?_)
  refine c_reg ?_
  refine l_pure rfl (s_move  rfl ?_)
  refine l_pure rfl (s_lenr  rfl hvd ⟨_, Tryz.underlying93⟩ ?_)
  refine l_pure rfl (s_eql  rfl rfl ?_)
  refine l_nil ?_
  repeat (with_reducible first | refine c_seq ?_ | refine c_block ?_ | refine c_skip ?_ | refine x_then ?_ | refine x_block ?_)
  refine c_no rfl (decide_eq_false (by omega)) ?_
  repeat (with_reducible first | refine c_seq ?_ | refine c_block ?_ | refine c_skip ?_ | refine x_then ?_ | refine x_block ?_)
  refine c_reg ?_
  refine l_pure rfl (s_move  rfl ?_)
  refine l_pure rfl (s_move  rfl ?_)
  refine l_heavy rfl (s_call Tryz.call92 rfl (rlimbs_ok _ _ (by omega)) ?_)
  rintro vn w3 ⟨hvn, hB3⟩
  replace hS := hS.grow hB3
  refine l_pure rfl (s_move  rfl ?_)
  refine l_heavy rfl (s_call Tryz.call95 rfl (rreduced_ok b vn vd _ _ _ hvn (hvd.below hB3) (by omega) (by omega) h0) ?_)
  rintro r w4 ⟨rfl, hB4⟩
  replace hS := hS.grow hB4
  refine l_heavy rfl (s_sta (k := 0)  rfl rfl vi_37 hS rfl rfl rfl (Nat.le_of_ble_eq_true rfl) rfl ?_)
  intro wz3 hS
  refine l_pure rfl (s_asg  rfl ?_)
  refine l_nil ?_
  repeat (with_reducible first | refine c_seq ?_ | refine c_block ?_ | refine c_skip ?_ | refine x_then ?_ | refine x_block ?_)
  refine c_ret ?_
  repeat (with_reducible first | refine x_then_ret ?_ | refine x_block_ret ?_)
  refine r_cell_tmp (k := 0) rfl rfl rfl vi_37 hS rfl rfl ?_
  exact ⟨rfl, hS.below⟩
theorem frac_sg (a : Int) (n : Nat) : sg (decide (a < 0) != decide (((n : Nat) : Int) < 0)) a.natAbs = a := by
  have h : decide (((n : Nat) : Int) < 0) = false := by simp
  rw [h]
  unfold sg
  by_cases ha : a < 0 <;> simp [ha] <;> omega
theorem rFraction_ok (a : Int) (n : Nat) (w : World) (h1 : -9223372036854775808 ≤ a) (h2 : a ≤ 9223372036854775807) (hn0 : 0 < n) (hn : n ≤ 9223372036854775807) :
    Ret Tryz.prog 22 #[.int .i64 a, .int .i64 n] w fun v w' => v = .tuple #[aggR (ofQ (mkRat a n)), .bool true] ∧ Below w.heap.size w w' := by
  have hS := St.init w
  have hs1 := natS_u64 (n := a.natAbs) (by omega)
  have hs2 := natS_u64 (n := n) (by omega)
  have hmk := fun w => rMake_ok (decide (a < 0) != decide (((n : Nat) : Int) < 0)) (natS a.natAbs) (natS n) w (by omega) (by omega) (by rw [val_natS]; omega)
  rw [val_natS, val_natS, frac_sg] at hmk
  refine enter Tryz.func22 rfl Tryz.ntmps22 rfl ?_
  repeat (with_reducible first | refine c_seq ?_ | refine c_block ?_ | refine c_skip ?_ | refine x_then ?_ | refine x_block ?_)
  refine c_reg ?_
  refine l_heavy rfl (s_alloc  vi_37 hS ?_)
  intro b1 wz2 hS hBz2
  refine l_pure rfl (s_asg  rfl ?_)
  refine l_nil ?_
  repeat (with_reducible first | refine c_seq ?_ | refine c_block ?_ | refine c_skip ?_ | refine x_then ?_ | refine x_block ?_)
  refine c_reg ?_
  refine l_pure rfl (s_move  rfl ?_)
  refine l_pure rfl (s_lss  rfl rfl ?_)
  refine l_pure rfl (s_move  rfl ?_)
  refine l_pure rfl (s_lss  rfl rfl ?_)
  refine l_pure rfl (s_neb  rfl rfl Tryz.underlying4 ?_)
  refine l_pure rfl (s_move  rfl ?_)
  refine l_heavy rfl (s_call Tryz.call65 rfl (rsize_ok a _ h1 h2) ?_)
  rintro _ wq3 ⟨rfl, hq3⟩
  replace hq3 := hq3.symm
  subst hq3
  refine l_heavy rfl (s_call Tryz.call64 rfl (rFromUint_ok a.natAbs _ (by omega)) ?_)
  rintro _ wc4 ⟨rfl, hBc4⟩
  replace hS := hS.grow hBc4
  refine l_pure rfl (s_move  rfl ?_)
  refine l_heavy rfl (s_call Tryz.call65 rfl (rsize_ok n _ (by omega) (by omega)) ?_)
  rintro _ wq5 ⟨rfl, hq5⟩
  replace hq5 := hq5.symm
  subst hq5
  rw [Int.natAbs_natCast]
  refine l_heavy rfl (s_call Tryz.call64 rfl (rFromUint_ok n _ (by omega)) ?_)
  rintro _ wc6 ⟨rfl, hBc6⟩
  replace hS := hS.grow hBc6
  refine l_heavy rfl (s_call Tryz.call63 rfl (hmk _) ?_)
  rintro _ wc7 ⟨rfl, hBc7⟩
  replace hS := hS.grow hBc7
  refine l_pure rfl (s_ext  rfl rfl ?_)
  refine l_pure rfl (s_ext  rfl rfl ?_)
  refine l_heavy rfl (s_sta (k := 0)  rfl rfl vi_37 hS rfl rfl rfl (Nat.le_of_ble_eq_true rfl) rfl ?_)
  intro wz8 hS
  refine l_pure rfl (s_asg  rfl ?_)
  refine l_nil ?_
  repeat (with_reducible first | refine c_seq ?_ | refine c_block ?_ | refine c_skip ?_ | refine x_then ?_ | refine x_block ?_)
  refine c_ret ?_
  repeat (with_reducible first | refine x_then_ret ?_ | refine x_block_ret ?_)
  refine r_cell_tmp (k := 0) rfl rfl rfl vi_37 hS rfl rfl ?_
  exact ⟨rfl, hS.below⟩
set_option maxHeartbeats 1000000 in
theorem rPlus_ok (p q : Rat) (w : World) (hL : L p + L q ≤ MX) :
    Ret Tryz.prog 71 #[aggR (ofQ p), aggR (ofQ q)] w fun v w' => v = aggR (ofQ (p + q)) ∧ Below w.heap.size w w' := by
  have hM : MX = 1099511627776 := rfl
  have hn1 := L_num p
  have hn2 := L_num q
  have hd1 := L_den p
  have hd2 := L_den q
  have hm1 := natS_size_mul p.num.natAbs q.den
  have hm2 := natS_size_mul q.num.natAbs p.den
  have hm3 := natS_size_mul p.den q.den
  have l1 := limb_len_le_size p.num.natAbs
  have l2 := limb_len_le_size q.num.natAbs
  have l3 := limb_len_le_size p.den
  have l4 := limb_len_le_size q.den
  have l5 := limb_len_le_size (p.num.natAbs * q.den)
  have l6 := limb_len_le_size (q.num.natAbs * p.den)
  have l7 := limb_len_le_size (p.den * q.den)
  have l8 := limb_len_le_size (p.num.natAbs * q.den + q.num.natAbs * p.den)
  have hsum := natS_size_add (p.num.natAbs * q.den) (q.num.natAbs * p.den)
  have hS := St.init w
  refine enter Tryz.func71 rfl Tryz.ntmps71 rfl ?_
  repeat (with_reducible first | refine c_seq ?_ | refine c_block ?_ | refine c_skip ?_ | refine x_then ?_ | refine x_block ?_)
  refine c_reg ?_
  refine l_heavy rfl (s_box (new := encR (ofQ p))  rfl rfl hS ?_)
  intro b1 wz2 hS hBz2
  refine l_heavy rfl (s_box (new := encR (ofQ q))  rfl rfl hS ?_)
  intro b3 wz4 hS hBz4
  refine l_heavy rfl (s_alloc  vi_37 hS ?_)
  intro b5 wz6 hS hBz6
  refine l_nil ?_
  repeat (with_reducible first | refine c_seq ?_ | refine c_block ?_ | refine c_skip ?_ | refine x_then ?_ | refine x_block ?_)
  refine c_reg ?_
  refine l_pure rfl (s_fld  rfl fo_37_1 ?_)
  refine l_read rfl (s_ldo (k := 2)  rfl vi_9 hS rfl rfl rfl (.inr rfl) ?_)
  refine l_pure rfl (s_eqs  rfl rfl ?_)
  refine l_nil ?_
  repeat (with_reducible first | refine c_seq ?_ | refine c_block ?_ | refine c_skip ?_ | refine x_then ?_ | refine x_block ?_)
  by_cases hp0 : p = 0
  · refine c_yes rfl (decide_eq_true (ofQ_num_nil.2 hp0)) ?_
    repeat (with_reducible first | refine c_seq ?_ | refine c_block ?_ | refine c_skip ?_ | refine x_then ?_ | refine x_block ?_)
    refine c_reg ?_
    refine l_read rfl (s_ldo (k := 1)  rfl vi_37 hS rfl rfl rfl (.inl rfl) ?_)
    refine l_heavy rfl (s_sta (k := 0)  rfl rfl vi_37 hS rfl rfl rfl (Nat.le_of_ble_eq_true rfl) rfl ?_)
    intro wz7 hS
    refine l_nil ?_
    repeat (with_reducible first | refine c_seq ?_ | refine c_block ?_ | refine c_skip ?_ | refine x_then ?_ | refine x_block ?_)
    refine c_ret ?_
    repeat (with_reducible first | refine x_then_ret ?_ | refine x_block_ret ?_)
    refine r_cell (k := 0) rfl rfl vi_37 hS rfl rfl ?_
    rw [hp0, Rat.zero_add]
    exact ⟨rfl, hS.below⟩
  · refine c_no rfl (decide_eq_false (fun g => hp0 (ofQ_num_nil.1 g))) ?_
    repeat (with_reducible first | refine c_seq ?_ | refine c_block ?_ | refine c_skip ?_ | refine x_then ?_ | refine x_block ?_)
    refine c_reg ?_
    refine l_pure rfl (s_fld  rfl fo_37_1 ?_)
    refine l_read rfl (s_ldo (k := 1)  rfl vi_9 hS rfl rfl rfl (.inr rfl) ?_)
    refine l_pure rfl (s_eqs  rfl rfl ?_)
    refine l_nil ?_
    repeat (with_reducible first | refine c_seq ?_ | refine c_block ?_ | refine c_skip ?_ | refine x_then ?_ | refine x_block ?_)
    by_cases hq0 : q = 0
    · refine c_yes rfl (decide_eq_true (ofQ_num_nil.2 hq0)) ?_
      repeat (with_reducible first | refine c_seq ?_ | refine c_block ?_ | refine c_skip ?_ | refine x_then ?_ | refine x_block ?_)
      refine c_reg ?_
      refine l_read rfl (s_ldo (k := 2)  rfl vi_37 hS rfl rfl rfl (.inl rfl) ?_)
      refine l_heavy rfl (s_sta (k := 0)  rfl rfl vi_37 hS rfl rfl rfl (Nat.le_of_ble_eq_true rfl) rfl ?_)
      intro wz8 hS
      refine l_nil ?_
      repeat (with_reducible first | refine c_seq ?_ | refine c_block ?_ | refine c_skip ?_ | refine x_then ?_ | refine x_block ?_)
      refine c_ret ?_
      repeat (with_reducible first | refine x_then_ret ?_ | refine x_block_ret ?_)
      refine r_cell (k := 0) rfl rfl vi_37 hS rfl rfl ?_
      rw [hq0, Rat.add_zero]
      exact ⟨rfl, hS.below⟩
    · refine c_no rfl (decide_eq_false (fun g => hq0 (ofQ_num_nil.1 g))) ?_
      repeat (with_reducible first | refine c_seq ?_ | refine c_block ?_ | refine c_skip ?_ | refine x_then ?_ | refine x_block ?_)
      have hlp := fun w => rlimbs_ok (natS p.num.natAbs) w (by omega)
      have hlq := fun w => rlimbs_ok (natS q.num.natAbs) w (by omega)
      rw [val_natS] at hlp hlq
      have hS0 := hS
      repeat (with_reducible first | refine c_seq ?_ | refine c_block ?_ | refine c_skip ?_ | refine x_then ?_ | refine x_block ?_)
      refine c_reg ?_
      refine l_read rfl (s_ldo (k := 2)  rfl vi_37 hS rfl rfl rfl (.inl rfl) ?_)
      refine l_heavy rfl (s_call Tryz.call93 rfl (rden_ok p _ (by omega)) ?_)
      rintro vp w3 ⟨hvp, hB3⟩
      replace hS := hS.grow hB3
      refine l_pure rfl (s_asg  rfl ?_)
      refine l_nil ?_
      repeat (with_reducible first | refine c_seq ?_ | refine c_block ?_ | refine c_skip ?_ | refine x_then ?_ | refine x_block ?_)
      refine c_reg ?_
      refine l_read rfl (s_ldo (k := 1)  rfl vi_37 hS rfl rfl rfl (.inl rfl) ?_)
      refine l_heavy rfl (s_call Tryz.call93 rfl (rden_ok q _ (by omega)) ?_)
      rintro vq w4 ⟨hvq, hB4⟩
      replace hS := hS.grow hB4
      refine l_pure rfl (s_asg  rfl ?_)
      refine l_nil ?_
      repeat (with_reducible first | refine c_seq ?_ | refine c_block ?_ | refine c_skip ?_ | refine x_then ?_ | refine x_block ?_)
      replace hvp := hvp.below hB4
      repeat (with_reducible first | refine c_seq ?_ | refine c_block ?_ | refine c_skip ?_ | refine x_then ?_ | refine x_block ?_)
      refine c_reg ?_
      refine l_pure rfl (s_fld  rfl fo_37_1 ?_)
      refine l_read rfl (s_ldo (k := 2)  rfl vi_9 hS rfl rfl rfl (.inr rfl) ?_)
      refine l_heavy rfl (s_call Tryz.call92 rfl (hlp _) ?_)
      rintro vx w5 ⟨hvx, hB5⟩
      replace hS := hS.grow hB5
      refine l_pure rfl (s_move  rfl ?_)
      replace hvp := hvp.below hB5
      replace hvq := hvq.below hB5
      refine l_heavy rfl (s_call Tryz.call98 rfl (rtimes_ok _ _ _ _ _ hvx hvq (by omega) (by omega)) ?_)
      rintro vX w6 ⟨hvX, hB6⟩
      replace hS := hS.grow hB6
      refine l_pure rfl (s_asg  rfl ?_)
      refine l_nil ?_
      repeat (with_reducible first | refine c_seq ?_ | refine c_block ?_ | refine c_skip ?_ | refine x_then ?_ | refine x_block ?_)
      replace hvp := hvp.below hB6
      replace hvq := hvq.below hB6
      repeat (with_reducible first | refine c_seq ?_ | refine c_block ?_ | refine c_skip ?_ | refine x_then ?_ | refine x_block ?_)
      refine c_reg ?_
      refine l_pure rfl (s_fld  rfl fo_37_1 ?_)
      refine l_read rfl (s_ldo (k := 1)  rfl vi_9 hS rfl rfl rfl (.inr rfl) ?_)
      refine l_heavy rfl (s_call Tryz.call92 rfl (hlq _) ?_)
      rintro vy w7 ⟨hvy, hB7⟩
      replace hS := hS.grow hB7
      refine l_pure rfl (s_move  rfl ?_)
      replace hvp := hvp.below hB7
      replace hvq := hvq.below hB7
      replace hvX := hvX.below hB7
      refine l_heavy rfl (s_call Tryz.call98 rfl (rtimes_ok _ _ _ _ _ hvy hvp (by omega) (by omega)) ?_)
      rintro vY w8 ⟨hvY, hB8⟩
      replace hS := hS.grow hB8
      refine l_pure rfl (s_asg  rfl ?_)
      refine l_nil ?_
      repeat (with_reducible first | refine c_seq ?_ | refine c_block ?_ | refine c_skip ?_ | refine x_then ?_ | refine x_block ?_)
      replace hvp := hvp.below hB8
      replace hvq := hvq.below hB8
      replace hvX := hvX.below hB8
      repeat (with_reducible first | refine c_seq ?_ | refine c_block ?_ | refine c_skip ?_ | refine x_then ?_ | refine x_block ?_)
      refine c_reg ?_
      refine l_pure rfl (s_move  rfl ?_)
      refine l_pure rfl (s_move  rfl ?_)
      refine l_heavy rfl (s_call Tryz.call98 rfl (rtimes_ok _ _ _ _ _ hvp hvq (by omega) (by omega)) ?_)
      rintro vD w9 ⟨hvD, hB9⟩
      replace hS := hS.grow hB9
      refine l_pure rfl (s_asg  rfl ?_)
      refine l_nil ?_
      repeat (with_reducible first | refine c_seq ?_ | refine c_block ?_ | refine c_skip ?_ | refine x_then ?_ | refine x_block ?_)
      replace hvX := hvX.below hB9
      replace hvY := hvY.below hB9
      clear hvp hvq hvx hvy hlp hlq hS0
      have hD0 : p.den * q.den ≠ 0 := Nat.mul_ne_zero p.den_nz q.den_nz
      have hXY := mkRat_add_same (sg (decide (p.num < 0)) (p.num.natAbs * q.den)) (sg (decide (q.num < 0)) (q.num.natAbs * p.den)) hD0
      rw [mkRat_sg_mul p q.den_nz, Nat.mul_comm p.den, mkRat_sg_mul q p.den_nz, Nat.mul_comm q.den] at hXY
      rw [hXY]
      obtain ⟨X, hX⟩ : ∃ X, X = p.num.natAbs * q.den := ⟨_, rfl⟩
      obtain ⟨Y, hY⟩ : ∃ Y, Y = q.num.natAbs * p.den := ⟨_, rfl⟩
      obtain ⟨D, hDe⟩ : ∃ D, D = p.den * q.den := ⟨_, rfl⟩
      rw [← hX] at hvX l5 l8 hm1 hsum ⊢
      rw [← hY] at hvY l6 l8 hm2 hsum ⊢
      rw [← hDe] at hvD l7 hm3 hD0 ⊢
      clear hX hY hDe hXY l1 l2 l3 l4
      repeat (with_reducible first | refine c_seq ?_ | refine c_block ?_ | refine c_skip ?_ | refine x_then ?_ | refine x_block ?_)
      refine c_reg ?_
      refine l_pure rfl (s_fld  rfl fo_37_0 ?_)
      refine l_read rfl (s_ldo (k := 2)  rfl vi_4 hS rfl rfl rfl (.inr rfl) ?_)
      refine l_pure rfl (s_fld  rfl fo_37_0 ?_)
      refine l_read rfl (s_ldo (k := 1)  rfl vi_4 hS rfl rfl rfl (.inr rfl) ?_)
      refine l_pure rfl (s_eqb  rfl rfl Tryz.underlying4 ?_)
      refine l_nil ?_
      repeat (with_reducible first | refine c_seq ?_ | refine c_block ?_ | refine c_skip ?_ | refine x_then ?_ | refine x_block ?_)
      by_cases hneg : decide (p.num < 0) = decide (q.num < 0)
      · have hb : (decide (p.num < 0) == decide (q.num < 0)) = true := by rw [hneg]; exact beq_self_eq_true _
        refine c_yes rfl (hb) ?_
        repeat (with_reducible first | refine c_seq ?_ | refine c_block ?_ | refine c_skip ?_ | refine x_then ?_ | refine x_block ?_)
        refine c_draw [(0, .pure), (1, .read), (2, .pure), (3, .pure), (5, .pure), (4, .grow), (6, .grow), (7, .free)] (by kernel_rfl) (by kernel_rfl) hS ?_
        intro wz9 hS hBz9
        refine w_pure rfl rfl (s_fld  rfl fo_37_0 ?_)
        refine w_read rfl rfl (s_ldo (k := 2)  rfl vi_4 hS rfl rfl rfl (.inr rfl) ?_)
        refine w_pure rfl rfl (s_move  rfl ?_)
        refine w_pure rfl rfl (s_move  rfl ?_)
        refine w_pure rfl rfl (s_move  rfl ?_)
        have hBd := hBz9
        refine w_grow rfl rfl (s_call Tryz.call94 rfl (rplus_ok _ _ _ _ _ (hvX.below hBd) (hvY.below hBd) (by omega) (by omega)) ?_)
        rintro v wp ⟨hv, hBp⟩
        refine ⟨hBp, ?_⟩
        replace hS := hS.grow hBp
        refine w_grow rfl rfl (s_call Tryz.call95 rfl (rreduced_ok _ _ _ _ _ _ hv (hvD.below (bt hBd hBp)) (by omega) (by omega) hD0) ?_)
        rintro _ wc10 ⟨rfl, hBc10⟩
        replace hS := hS.grow hBc10
        refine ⟨hBc10, ?_⟩
        refine w_free rfl rfl (s_sta (k := 0)  rfl rfl vi_37 hS rfl rfl rfl (Nat.le_of_ble_eq_true rfl) rfl ?_)
        intro wz11 hS
        refine w_end ?_
        repeat (with_reducible first | refine c_seq ?_ | refine c_block ?_ | refine c_skip ?_ | refine x_then ?_ | refine x_block ?_)
        refine c_ret ?_
        repeat (with_reducible first | refine x_then_ret ?_ | refine x_block_ret ?_)
        refine r_cell (k := 0) rfl rfl vi_37 hS rfl rfl ?_
        rw [← hneg, sg_add]
        exact ⟨rfl, hS.below⟩
      · have hb : (decide (p.num < 0) == decide (q.num < 0)) = false := by rw [beq_eq_false_iff_ne]; exact hneg
        refine c_no rfl (hb) ?_
        repeat (with_reducible first | refine c_seq ?_ | refine c_block ?_ | refine c_skip ?_ | refine x_then ?_ | refine x_block ?_)
        refine c_reg ?_
        refine l_pure rfl (s_move  rfl ?_)
        refine l_pure rfl (s_move  rfl ?_)
        refine l_heavy rfl (s_call Tryz.call102 rfl (rorder_ok _ _ _ _ _ hvX hvY) ?_)
        rintro _ wc12 ⟨rfl, hBc12⟩
        replace hS := hS.grow hBc12
        refine l_pure rfl (s_lss  rfl rfl ?_)
        refine l_nil ?_
        repeat (with_reducible first | refine c_seq ?_ | refine c_block ?_ | refine c_skip ?_ | refine x_then ?_ | refine x_block ?_)
        by_cases hlt : X < Y
        · refine c_yes rfl (decide_eq_true (by rw [cmpI_lt hlt]; decide)) ?_
          repeat (with_reducible first | refine c_seq ?_ | refine c_block ?_ | refine c_skip ?_ | refine x_then ?_ | refine x_block ?_)
          have l8 := limb_len_mono (Nat.sub_le Y X)
          repeat (with_reducible first | refine c_seq ?_ | refine c_block ?_ | refine c_skip ?_ | refine x_then ?_ | refine x_block ?_)
          refine c_draw [(0, .pure), (1, .read), (2, .pure), (3, .pure), (5, .pure), (4, .grow), (6, .grow), (7, .free)] (by kernel_rfl) (by kernel_rfl) hS ?_
          intro wz13 hS hBz13
          refine w_pure rfl rfl (s_fld  rfl fo_37_0 ?_)
          refine w_read rfl rfl (s_ldo (k := 1)  rfl vi_4 hS rfl rfl rfl (.inr rfl) ?_)
          refine w_pure rfl rfl (s_move  rfl ?_)
          refine w_pure rfl rfl (s_move  rfl ?_)
          refine w_pure rfl rfl (s_move  rfl ?_)
          have hBd := (bt hBc12 hBz13)
          refine w_grow rfl rfl (s_call Tryz.call103 rfl (rminus_ok _ _ _ _ _ (hvY.below hBd) (hvX.below hBd) (by omega) (by omega)) ?_)
          rintro v wp ⟨hv, hBp⟩
          refine ⟨hBp, ?_⟩
          replace hS := hS.grow hBp
          refine w_grow rfl rfl (s_call Tryz.call95 rfl (rreduced_ok _ _ _ _ _ _ hv (hvD.below (bt hBd hBp)) (by omega) (by omega) hD0) ?_)
          rintro _ wc14 ⟨rfl, hBc14⟩
          replace hS := hS.grow hBc14
          refine ⟨hBc14, ?_⟩
          refine w_free rfl rfl (s_sta (k := 0)  rfl rfl vi_37 hS rfl rfl rfl (Nat.le_of_ble_eq_true rfl) rfl ?_)
          intro wz15 hS
          refine w_end ?_
          repeat (with_reducible first | refine c_seq ?_ | refine c_block ?_ | refine c_skip ?_ | refine x_then ?_ | refine x_block ?_)
          refine c_ret ?_
          repeat (with_reducible first | refine x_then_ret ?_ | refine x_block_ret ?_)
          refine r_cell (k := 0) rfl rfl vi_37 hS rfl rfl ?_
          rw [sg_sub' hneg (by omega)]
          exact ⟨rfl, hS.below⟩
        · have hcmp : ¬ cmpI X Y < 0 := by
            rcases Nat.lt_or_ge Y X with h | h
            · rw [cmpI_gt h]; decide
            · rw [show X = Y by omega, cmpI_self]; decide
          refine c_no rfl (decide_eq_false hcmp) ?_
          repeat (with_reducible first | refine c_seq ?_ | refine c_block ?_ | refine c_skip ?_ | refine x_then ?_ | refine x_block ?_)
          have l8 := limb_len_mono (Nat.sub_le X Y)
          repeat (with_reducible first | refine c_seq ?_ | refine c_block ?_ | refine c_skip ?_ | refine x_then ?_ | refine x_block ?_)
          refine c_draw [(0, .pure), (1, .read), (2, .pure), (3, .pure), (5, .pure), (4, .grow), (6, .grow), (7, .free)] (by kernel_rfl) (by kernel_rfl) hS ?_
          intro wz16 hS hBz16
          refine w_pure rfl rfl (s_fld  rfl fo_37_0 ?_)
          refine w_read rfl rfl (s_ldo (k := 2)  rfl vi_4 hS rfl rfl rfl (.inr rfl) ?_)
          refine w_pure rfl rfl (s_move  rfl ?_)
          refine w_pure rfl rfl (s_move  rfl ?_)
          refine w_pure rfl rfl (s_move  rfl ?_)
          have hBd := (bt hBc12 hBz16)
          refine w_grow rfl rfl (s_call Tryz.call103 rfl (rminus_ok _ _ _ _ _ (hvX.below hBd) (hvY.below hBd) (by omega) (by omega)) ?_)
          rintro v wp ⟨hv, hBp⟩
          refine ⟨hBp, ?_⟩
          replace hS := hS.grow hBp
          refine w_grow rfl rfl (s_call Tryz.call95 rfl (rreduced_ok _ _ _ _ _ _ hv (hvD.below (bt hBd hBp)) (by omega) (by omega) hD0) ?_)
          rintro _ wc17 ⟨rfl, hBc17⟩
          replace hS := hS.grow hBc17
          refine ⟨hBc17, ?_⟩
          refine w_free rfl rfl (s_sta (k := 0)  rfl rfl vi_37 hS rfl rfl rfl (Nat.le_of_ble_eq_true rfl) rfl ?_)
          intro wz18 hS
          refine w_end ?_
          repeat (with_reducible first | refine c_seq ?_ | refine c_block ?_ | refine c_skip ?_ | refine x_then ?_ | refine x_block ?_)
          refine c_ret ?_
          repeat (with_reducible first | refine x_then_ret ?_ | refine x_block_ret ?_)
          refine r_cell (k := 0) rfl rfl vi_37 hS rfl rfl ?_
          rw [sg_sub hneg (by omega)]
          exact ⟨rfl, hS.below⟩
theorem rOpposite_ok (q : Rat) (w : World) :
    Ret Tryz.prog 96 #[aggR (ofQ q)] w fun v w' => v = aggR (ofQ (-q)) ∧ Below w.heap.size w w' := by
  have hS := St.init w
  have he := ofQ_neg_eq q
  refine enter Tryz.func96 rfl Tryz.ntmps96 rfl ?_
  repeat (with_reducible first | refine c_seq ?_ | refine c_block ?_ | refine c_skip ?_ | refine x_then ?_ | refine x_block ?_)
  refine c_reg ?_
  refine l_heavy rfl (s_box (new := encR (ofQ q))  rfl rfl hS ?_)
  intro b1 wz2 hS hBz2
  refine l_heavy rfl (s_alloc  vi_37 hS ?_)
  intro b3 wz4 hS hBz4
  refine l_nil ?_
  repeat (with_reducible first | refine c_seq ?_ | refine c_block ?_ | refine c_skip ?_ | refine x_then ?_ | refine x_block ?_)
  refine c_reg ?_
  refine l_pure rfl (s_fld  rfl fo_37_1 ?_)
  refine l_read rfl (s_ldo (k := 1)  rfl vi_9 hS rfl rfl rfl (.inr rfl) ?_)
  refine l_pure rfl (s_nes  rfl rfl ?_)
  refine l_nil ?_
  repeat (with_reducible first | refine c_seq ?_ | refine c_block ?_ | refine c_skip ?_ | refine x_then ?_ | refine x_block ?_)
  by_cases h0 : q = 0
  · refine c_no rfl (decide_eq_false (not_not_intro (ofQ_num_nil.2 h0))) ?_
    repeat (with_reducible first | refine c_seq ?_ | refine c_block ?_ | refine c_skip ?_ | refine x_then ?_ | refine x_block ?_)
    refine c_reg ?_
    refine l_read rfl (s_ldo (k := 1)  rfl vi_37 hS rfl rfl rfl (.inl rfl) ?_)
    refine l_heavy rfl (s_sta (k := 0)  rfl rfl vi_37 hS rfl rfl rfl (Nat.le_of_ble_eq_true rfl) rfl ?_)
    intro wz5 hS
    refine l_nil ?_
    repeat (with_reducible first | refine c_seq ?_ | refine c_block ?_ | refine c_skip ?_ | refine x_then ?_ | refine x_block ?_)
    refine c_ret ?_
    repeat (with_reducible first | refine x_then_ret ?_ | refine x_block_ret ?_)
    refine r_cell (k := 0) rfl rfl vi_37 hS rfl rfl ?_
    rw [h0, Rat.neg_zero]
    exact ⟨rfl, hS.below⟩
  · have hne : decide ((ofQ q).num ≠ ⟨#[]⟩) = true := decide_eq_true (fun g => h0 (ofQ_num_nil.1 g))
    refine c_yes rfl (hne) ?_
    repeat (with_reducible first | refine c_seq ?_ | refine c_block ?_ | refine c_skip ?_ | refine x_then ?_ | refine x_block ?_)
    refine c_reg ?_
    refine l_pure rfl (s_fld  rfl fo_37_0 ?_)
    refine l_read rfl (s_ldo (k := 1)  rfl vi_4 hS rfl rfl rfl (.inr rfl) ?_)
    refine l_pure rfl (s_not  rfl ?_)
    refine l_pure rfl (s_fld  rfl fo_37_0 ?_)
    refine l_heavy rfl (s_stc (k := 1)  rfl rfl vi_4 hS rfl (Nat.le_of_ble_eq_true rfl) rfl ?_)
    intro wz6 hS
    refine l_nil ?_
    repeat (with_reducible first | refine c_seq ?_ | refine c_block ?_ | refine c_skip ?_ | refine x_then ?_ | refine x_block ?_)
    refine c_reg ?_
    refine l_read rfl (s_ldo (k := 1)  rfl vi_37 hS rfl rfl rfl (.inl rfl) ?_)
    refine l_heavy rfl (s_sta (k := 0)  rfl rfl vi_37 hS rfl rfl rfl (Nat.le_of_ble_eq_true rfl) rfl ?_)
    intro wz7 hS
    refine l_nil ?_
    repeat (with_reducible first | refine c_seq ?_ | refine c_block ?_ | refine c_skip ?_ | refine x_then ?_ | refine x_block ?_)
    refine c_ret ?_
    repeat (with_reducible first | refine x_then_ret ?_ | refine x_block_ret ?_)
    refine r_cell (k := 0) rfl rfl vi_37 hS rfl rfl ?_
    rw [hne, Bool.and_true] at he
    rw [← he]
    exact ⟨rfl, hS.below⟩
theorem rMinus_ok (p q : Rat) (w : World) (hL : L p + L q ≤ MX) :
    Ret Tryz.prog 51 #[aggR (ofQ p), aggR (ofQ q)] w fun v w' => v = aggR (ofQ (p - q)) ∧ Below w.heap.size w w' := by
  have hL3 := L_neg q
  have hS := St.init w
  refine enter Tryz.func51 rfl Tryz.ntmps51 rfl ?_
  repeat (with_reducible first | refine c_seq ?_ | refine c_block ?_ | refine c_skip ?_ | refine x_then ?_ | refine x_block ?_)
  refine c_reg ?_
  refine l_heavy rfl (s_box (new := encR (ofQ p))  rfl rfl hS ?_)
  intro b1 wz2 hS hBz2
  refine l_heavy rfl (s_box (new := encR (ofQ q))  rfl rfl hS ?_)
  intro b3 wz4 hS hBz4
  refine l_heavy rfl (s_alloc  vi_37 hS ?_)
  intro b5 wz6 hS hBz6
  refine l_nil ?_
  repeat (with_reducible first | refine c_seq ?_ | refine c_block ?_ | refine c_skip ?_ | refine x_then ?_ | refine x_block ?_)
  refine c_draw [(0, .read), (1, .read), (2, .grow), (3, .grow), (4, .free)] (by kernel_rfl) (by kernel_rfl) hS ?_
  intro wz7 hS hBz7
  refine w_read rfl rfl (s_ldo (k := 2)  rfl vi_37 hS rfl rfl rfl (.inl rfl) ?_)
  refine w_read rfl rfl (s_ldo (k := 1)  rfl vi_37 hS rfl rfl rfl (.inl rfl) ?_)
  refine w_grow rfl rfl (s_call Tryz.call96 rfl (rOpposite_ok q _) ?_)
  rintro _ wc8 ⟨rfl, hBc8⟩
  replace hS := hS.grow hBc8
  refine ⟨hBc8, ?_⟩
  refine w_grow rfl rfl (s_call Tryz.call71 rfl (rPlus_ok p (-q) _ (by omega)) ?_)
  rintro _ wc9 ⟨rfl, hBc9⟩
  replace hS := hS.grow hBc9
  refine ⟨hBc9, ?_⟩
  refine w_free rfl rfl (s_sta (k := 0)  rfl rfl vi_37 hS rfl rfl rfl (Nat.le_of_ble_eq_true rfl) rfl ?_)
  intro wz10 hS
  refine w_end ?_
  repeat (with_reducible first | refine c_seq ?_ | refine c_block ?_ | refine c_skip ?_ | refine x_then ?_ | refine x_block ?_)
  refine c_ret ?_
  repeat (with_reducible first | refine x_then_ret ?_ | refine x_block_ret ?_)
  refine r_cell (k := 0) rfl rfl vi_37 hS rfl rfl ?_
  rw [Rat.sub_eq_add_neg]
  exact ⟨rfl, hS.below⟩
theorem rSignum_ok (q : Rat) (w : World) :
    Ret Tryz.prog 72 #[aggR (ofQ q)] w fun v w' => v = .int .i64 (sgnQ q) ∧ Below w.heap.size w w' := by
  have hS := St.init w
  refine enter Tryz.func72 rfl Tryz.ntmps72 rfl ?_
  repeat (with_reducible first | refine c_seq ?_ | refine c_block ?_ | refine c_skip ?_ | refine x_then ?_ | refine x_block ?_)
  refine c_reg ?_
  refine l_heavy rfl (s_box (new := encR (ofQ q))  rfl rfl hS ?_)
  intro b1 wz2 hS hBz2
  refine l_pure rfl (s_asg  rfl ?_)
  refine l_nil ?_
  repeat (with_reducible first | refine c_seq ?_ | refine c_block ?_ | refine c_skip ?_ | refine x_then ?_ | refine x_block ?_)
  refine c_reg ?_
  refine l_pure rfl (s_fld  rfl fo_37_1 ?_)
  refine l_read rfl (s_ldo (k := 0)  rfl vi_9 hS rfl rfl rfl (.inr rfl) ?_)
  refine l_pure rfl (s_eqs  rfl rfl ?_)
  refine l_pure rfl (s_asg  rfl ?_)
  refine l_nil ?_
  repeat (with_reducible first | refine c_seq ?_ | refine c_block ?_ | refine c_skip ?_ | refine x_then ?_ | refine x_block ?_)
  by_cases h : q = 0
  · refine c_yes rfl (decide_eq_true (ofQ_num_nil.2 h)) ?_
    repeat (with_reducible first | refine c_seq ?_ | refine c_block ?_ | refine c_skip ?_ | refine x_then ?_ | refine x_block ?_)
    refine c_reg ?_
    refine l_pure rfl (s_asg  rfl ?_)
    refine l_nil ?_
    repeat (with_reducible first | refine c_seq ?_ | refine c_block ?_ | refine c_skip ?_ | refine x_then ?_ | refine x_block ?_)
    refine c_ret ?_
    repeat (with_reducible first | refine x_then_ret ?_ | refine x_block_ret ?_)
    refine r_one rfl rfl ?_
    exact ⟨vi rfl (sgnQ_zero.2 h).symm, hS.below⟩
  · refine c_no rfl (decide_eq_false (fun g => h (ofQ_num_nil.1 g))) ?_
    repeat (with_reducible first | refine c_seq ?_ | refine c_block ?_ | refine c_skip ?_ | refine x_then ?_ | refine x_block ?_)
    refine c_reg ?_
    refine l_pure rfl (s_fld  rfl fo_37_0 ?_)
    refine l_read rfl (s_ldo (k := 0)  rfl vi_4 hS rfl rfl rfl (.inr rfl) ?_)
    refine l_pure rfl (s_asg  rfl ?_)
    refine l_nil ?_
    repeat (with_reducible first | refine c_seq ?_ | refine c_block ?_ | refine c_skip ?_ | refine x_then ?_ | refine x_block ?_)
    have hn : q.num ≠ 0 := fun g => h (Rat.num_eq_zero.1 g)
    by_cases h2 : q.num < 0
    · refine c_yes rfl (decide_eq_true h2) ?_
      repeat (with_reducible first | refine c_seq ?_ | refine c_block ?_ | refine c_skip ?_ | refine x_then ?_ | refine x_block ?_)
      refine c_reg ?_
      refine l_pure rfl (s_asg  rfl ?_)
      refine l_nil ?_
      repeat (with_reducible first | refine c_seq ?_ | refine c_block ?_ | refine c_skip ?_ | refine x_then ?_ | refine x_block ?_)
      refine c_ret ?_
      repeat (with_reducible first | refine x_then_ret ?_ | refine x_block_ret ?_)
      refine r_one rfl rfl ?_
      exact ⟨vi rfl (by unfold sgnQ; rw [if_neg hn, if_pos h2]), hS.below⟩
    · refine c_no rfl (decide_eq_false h2) ?_
      repeat (with_reducible first | refine c_seq ?_ | refine c_block ?_ | refine c_skip ?_ | refine x_then ?_ | refine x_block ?_)
      refine c_reg ?_
      refine l_pure rfl (s_asg  rfl ?_)
      refine l_nil ?_
      repeat (with_reducible first | refine c_seq ?_ | refine c_block ?_ | refine c_skip ?_ | refine x_then ?_ | refine x_block ?_)
      refine c_ret ?_
      repeat (with_reducible first | refine x_then_ret ?_ | refine x_block_ret ?_)
      refine r_one rfl rfl ?_
      exact ⟨vi rfl (by unfold sgnQ; rw [if_neg hn, if_neg h2]), hS.below⟩
end Go.Proofs.YtmapmdldlcfjhaaGreatDoor
namespace Go.Sx
open Go Go.RowKit
structure Ch where
  claim : Int
  prio : Int
  lim : Bool
  limit : RR
structure It where
  price : RR
  costs : RR
  charges : List Ch
def encCh (c : Ch) : List Value := [.int .i64 c.claim, .int .i64 c.prio, .bool c.lim, .bool c.limit.neg, .string c.limit.num, .string c.limit.den]
def encIt (x : It × Value) : List Value := [.bool x.1.price.neg, .string x.1.price.num, .string x.1.price.den, .bool x.1.costs.neg, .string x.1.costs.num, .string x.1.costs.den, x.2]
def zCh : Ch := ⟨0, 0, false, ⟨false, ⟨#[]⟩, ⟨#[]⟩⟩⟩
def zIt : It := ⟨⟨false, ⟨#[]⟩, ⟨#[]⟩⟩, ⟨false, ⟨#[]⟩, ⟨#[]⟩⟩, []⟩
/-- A slice of items: each with its own slice of charges. -/
structure Its (w : World) (v : Value) (X : List It) (cvs : List Value) : Prop where
  len : cvs.length = X.length
  sl : Sl encIt 7 w v (X.zip cvs)
  ch : ∀ i, i < X.length → Sl encCh 6 w (cvs.getD i undef) (X.getD i zIt).charges
theorem Its.below {w w' : World} {v : Value} {X : List It} {cvs : List Value} (h : Its w v X cvs) (hb : Below w.heap.size w w') : Its w' v X cvs := ⟨h.len, h.sl.below hb, fun i hi => (h.ch i hi).below hb⟩
/-- The first error of a list's members, or 0. -/
def firstE {α : Type} (f : α → Int) : List α → Int
  | [] => 0
  | x :: l => if f x = 0 then firstE f l else f x
theorem firstE_append {α : Type} (f : α → Int) (l m : List α) : firstE f (l ++ m) = if firstE f l = 0 then firstE f m else firstE f l := by
  induction l with
  | nil => simp [firstE]
  | cons x l ih =>
    simp only [List.cons_append, firstE, ih]
    by_cases h : f x = 0 <;> simp [h]
theorem firstE_step {α : Type} (f : α → Int) (l : List α) (d : α) {i : Nat} (hi : i < l.length) (h : firstE f (l.take i) = 0) :
    (f (l.getD i d) = 0 → firstE f (l.take (i + 1)) = 0) ∧ (f (l.getD i d) ≠ 0 → firstE f l = f (l.getD i d)) := by
  have ht : l.take (i + 1) = l.take i ++ [l.getD i d] := by
    rw [List.take_succ_eq_append_getElem hi, List.getD_eq_getElem?_getD, List.getElem?_eq_getElem hi]; rfl
  constructor
  · intro h1
    rw [ht, firstE_append, h, if_pos rfl, firstE, if_pos h1]; rfl
  · intro h1
    have hl : l = l.take i ++ (l.getD i d :: l.drop (i + 1)) := by
      conv => lhs; rw [← List.take_append_drop (i + 1) l, ht, List.append_assoc]
      rfl
    conv => lhs; rw [hl]
    rw [firstE_append, h, if_pos rfl, firstE, if_neg h1]
def negs (l : List RR) : Bool := l.any fun r => decide (toQ r < 0)
def RB (k : Nat) (l : List RR) : Prop := ∀ r ∈ l, Lr r ≤ k
end Go.Sx
namespace Go.Proofs.YtmapmdldlcfjhaaGreatDoor
open Go Go.RowKit Go.Sx
theorem negs_take (l : List RR) {i : Nat} (hi : i < l.length) (h : negs (l.take i) = false) : (¬ toQ (l.getD i zRR) < 0 → negs (l.take (i + 1)) = false) ∧ (toQ (l.getD i zRR) < 0 → negs l = true) := by
  have ht := take_succ' l i zRR hi
  constructor
  · intro h1
    unfold negs at *
    rw [ht, List.any_append, h]
    simpa using h1
  · intro h1
    unfold negs
    rw [List.any_eq_true]
    exact ⟨_, getD_mem l i zRR hi, decide_eq_true h1⟩
end Go.Proofs.YtmapmdldlcfjhaaGreatDoor
namespace Go.Proofs.YtmapmdldlcfjhaaGreatDoor
open Go Go.RowKit Go.Sx
/-- Has a claim a charge on an item? -/
def secures (x : It) (c : Int) : Bool := x.charges.any fun k => decide (k.claim = c)
end Go.Proofs.YtmapmdldlcfjhaaGreatDoor
namespace Go.Proofs.YtmapmdldlcfjhaaGreatDoor
open Go Go.RowKit Go.Sx
def owF (owed : List RR) (c : Nat) : Rat := toQ (owed.getD c zRR)
end Go.Proofs.YtmapmdldlcfjhaaGreatDoor
namespace Go.Proofs.YtmapmdldlcfjhaaGreatDoor
open Go Go.RowKit Go.Sx
theorem encR_one (xs : List RR) : ∀ u ∈ xs.flatMap encR, u.oneCell' = true := by
  intro u hu
  obtain ⟨x, _, hx⟩ := List.mem_flatMap.1 hu
  simp only [encR, List.mem_cons, List.not_mem_nil, or_false] at hx
  rcases hx with rfl | rfl | rfl <;> rfl
theorem toQ_zRR : toQ zRR = 0 := by rw [← toQ_ofQ 0, ofQ_zero]; rfl
/-- What the claims' masks say, when the first i items are done, and of the next one its first k charges. -/
structure Masks (X : List It) (m i k : Nat) (R : List Nat) : Prop where
  len : R.length = m
  lt : ∀ c, c < m → R.getD c 0 < 256
  bit : ∀ c, c < m → ∀ j, (R.getD c 0).testBit j = ((decide (j < i) && secures (X.getD j zIt) c) || (decide (j = i) && ((X.getD i zIt).charges.take k).any (fun q => decide (q.claim = (c : Int)))))
theorem Masks.next {X : List It} {m i : Nat} {R : List Nat} (h : Masks X m i (X.getD i zIt).charges.length R) : Masks X m (i + 1) 0 R := by
  refine ⟨h.len, h.lt, fun c hc j => ?_⟩
  rw [h.bit c hc j, List.take_length, List.take_zero, List.any_nil, Bool.and_false, Bool.or_false]
  by_cases h1 : j = i
  · subst h1; simp [secures]
  · by_cases h2 : j < i
    · have h3 : j < i + 1 := by omega
      simp [h1, h2, h3]
    · have h3 : ¬ j < i + 1 := by omega
      simp [h1, h2, h3]
theorem Masks.charge {X : List It} {m i k c0 : Nat} {R : List Nat} (h : Masks X m i k R) (hi : i < 8) (hk : k < (X.getD i zIt).charges.length) (hcl0 : ((X.getD i zIt).charges.getD k zCh).claim = (c0 : Int)) (hc0 : c0 < m) :
    Masks X m i (k + 1) (R.set c0 (R.getD c0 0 ||| 2 ^ i)) := by
  have ht := take_succ' (X.getD i zIt).charges k zCh hk
  have hg : ∀ c, c < m → (R.set c0 (R.getD c0 0 ||| 2 ^ i)).getD c 0 = if c = c0 then R.getD c0 0 ||| 2 ^ i else R.getD c 0 := by
    intro c hcm
    rw [List.getD_eq_getElem?_getD, List.getElem?_set]
    by_cases he : c = c0
    · subst he; rw [if_pos rfl, if_pos rfl, if_pos (by rw [h.len]; exact hcm)]; rfl
    · rw [if_neg (fun g => he g.symm), if_neg he, List.getD_eq_getElem?_getD]
  have hp : 2 ^ i < 256 := Nat.lt_of_lt_of_le (Nat.pow_lt_pow_right (by decide) hi) (by decide)
  refine ⟨by simp [h.len], fun c hcm => ?_, fun c hcm j => ?_⟩
  · rw [hg c hcm]
    split
    · exact Nat.or_lt_two_pow (n := 8) (h.lt c0 hc0) hp
    · exact h.lt c hcm
  · rw [hg c hcm, ht, List.any_append]
    simp only [List.any_cons, List.any_nil, Bool.or_false, hcl0]
    by_cases he : c = c0
    · subst he
      rw [if_pos rfl, Nat.testBit_or, h.bit c hcm j, Nat.testBit_two_pow]
      by_cases hj : j = i
      · subst hj; simp
      · have : ¬ i = j := fun e => hj e.symm
        simp [hj, this]
    · rw [if_neg he, h.bit c hcm j]
      have : ¬ ((c0 : Int) = (c : Int)) := by omega
      simp [this]
end Go.Proofs.YtmapmdldlcfjhaaGreatDoor
namespace Go.Sx
open Go Go.RowKit Go.Proofs.YtmapmdldlcfjhaaGreatDoor
def tab {α : Type} (n : Nat) (f : Nat → α) : List α := (List.range n).map f
theorem tab_len {α : Type} (n : Nat) (f : Nat → α) : (tab n f).length = n := by simp [tab]
theorem tab_get {α : Type} {n : Nat} (f : Nat → α) (d : α) {i : Nat} (h : i < n) : (tab n f).getD i d = f i := by
  simp [tab, List.getD_eq_getElem?_getD, h]
theorem tab_congr {α : Type} {n : Nat} {f g : Nat → α} (h : ∀ i, i < n → f i = g i) : tab n f = tab n g := by
  unfold tab; exact List.map_congr_left fun i hi => h i (List.mem_range.1 hi)
theorem tab_rep {α : Type} (n : Nat) (d : α) : List.replicate n d = tab n fun _ => d := by
  refine List.ext_getElem (by simp [tab]) fun i h1 h2 => ?_
  simp [tab]
theorem tab_set {α : Type} {n : Nat} (f : Nat → α) (i : Nat) (v : α) : (tab n f).set i v = tab n fun j => if j = i then v else f j := by
  refine List.ext_getElem (by simp [tab]) fun j h1 h2 => ?_
  rw [List.getElem_set]
  simp only [tab, List.getElem_map, List.getElem_range]
  by_cases h : i = j
  · subst h; simp
  · rw [if_neg h, if_neg (fun e => h e.symm)]
theorem tab_mem {α : Type} {n : Nat} {f : Nat → α} {x : α} (h : x ∈ tab n f) : ∃ i, i < n ∧ f i = x := by
  obtain ⟨i, hi, e⟩ := List.mem_map.1 h
  exact ⟨i, List.mem_range.1 hi, e⟩
theorem tab_succ {α : Type} (n : Nat) (f : Nat → α) : tab (n + 1) f = tab n f ++ [f n] := by
  simp [tab, List.range_succ]
end Go.Sx
namespace Go.Proofs.YtmapmdldlcfjhaaGreatDoor
open Go Go.RowKit Go.Sx
theorem RB_mono {k l : Nat} {X : List RR} (h : RB k X) (hkl : k ≤ l) : RB l X := fun x hx => Nat.le_trans (h x hx) hkl
end Go.Proofs.YtmapmdldlcfjhaaGreatDoor
namespace Go.Proofs.YtmapmdldlcfjhaaGreatDoor
open Go Go.RowKit Go.Sx
def enI (c : Int) : List Value := [.int .i64 c]
end Go.Proofs.YtmapmdldlcfjhaaGreatDoor
namespace Go.Proofs.YtmapmdldlcfjhaaGreatDoor
open Go Go.RowKit Go.Sx
/-- What has been paid to each claim, and what is left of each item. -/
structure GS where
  out : Nat → Rat
  p : Nat → Rat
def pay (owed : List RR) (s : GS) (c i : Nat) : Rat := minQ (owF owed c - s.out c) (s.p i)
def gst (X : List It) (owed : List RR) (s : GS) (c i : Nat) : GS :=
  if secures (X.getD i zIt) c = true then
    ⟨fun k => if k = c then s.out c + pay owed s c i else s.out k, fun k => if k = i then s.p i - pay owed s c i else s.p k⟩
  else s
def grow (X : List It) (owed : List RR) (c : Nat) (s : GS) : Nat → GS
  | 0 => s
  | i + 1 => gst X owed (grow X owed c s i) c i
end Go.Proofs.YtmapmdldlcfjhaaGreatDoor
namespace Go.Sx
open Go Go.RowKit
section
variable {P : Program} {ops : Array Oper} {Kend : Act → World → Prop} {n x : Nat} {ox : Oper}
/-- The operations σ in their order, and x (that makes memory) at any place among them. -/
def allw (P : Program) (ops : Array Oper) (Kend : Act → World → Prop) (n x : Nat) (ox : Oper) : List (Nat × Md) → Act → World → Prop
  | [], a, w => rstep P ops .grow ox a w Kend
  | (y, m) :: σ, a, w => rstep P ops .grow ox a w (wr P ops Kend ((y, m) :: σ)) ∧ (tdep ops n y x = false → match ops[y]? with
    | some oy => rstep P ops m oy a w (allw P ops Kend n x ox σ)
    | none => False)
theorem allw_now {σ : List (Nat × Md)} {a : Act} {w : World} (h : allw P ops Kend n x ox σ a w) : rstep P ops .grow ox a w (wr P ops Kend σ) := by
  cases σ with
  | nil => exact rstep_mono (fun a w h => h) h
  | cons y σ => exact h.1
theorem allw_fold {y : Nat} {m : Md} {oy : Oper} {σ : List (Nat × Md)} {a : Act} {w : World} (hs : noSel ops) (hx : ops[x]? = some ox) (hy : ops[y]? = some oy) (hsw : swapOk ops (y, m) (x, .grow) = true)
    (h : rstep P ops m oy a w (allw P ops Kend n x ox σ)) : allw P ops Kend n x ox ((y, m) :: σ) a w := by
  refine ⟨?_, fun _ => by rw [hy]; exact h⟩
  have h1 : rstep P ops m oy a w (fun a w => rstep P ops .grow ox a w (wr P ops Kend σ)) := rstep_mono (fun a w g => allw_now g) h
  refine rstep_mono (fun a w g => ?_) (rswap hy hx (fun cs b => hs y oy cs b hy) (fun cs b => hs x ox cs b hx) hsw h1)
  simp only [wr, hy]
  exact g
theorem rstep_both {o : Oper} {a : Act} {w : World} {K K' : Act → World → Prop} (h : rstep P ops .pure o a w K) (h' : rstep P ops .pure o a w K') : rstep P ops .pure o a w (fun a w => K a w ∧ K' a w) := by
  by_cases hw : Region.wanted o (yielded ops a.tmps) = true
  · rw [rstep_pure hw] at h h' ⊢
    obtain ⟨v, g1, g2⟩ := h
    obtain ⟨v', g1', g2'⟩ := h'
    have e1 := g1 w
    have e2 := g1' w
    rw [e1] at e2
    obtain rfl : v = v' := by simpa using e2
    exact ⟨v, g1, g2, g2'⟩
  · rw [rstep_off hw] at h h' ⊢
    exact ⟨h, h'⟩
theorem all_front (hs : noSel ops) (hx : ops[x]? = some ox) {i : Nat} {m : Md} {oi : Oper} (hi : ops[i]? = some oi) (hix : tdep ops n i x = false) {post : List (Nat × Md)} :
    ∀ (pre : List (Nat × Md)) (a : Act) (w : World), (∀ y ∈ pre, swapOk ops y (i, m) = true) → (∀ y ∈ pre, (m = .pure ∧ swapOk ops (x, .grow) (i, m) = true) ∨ (tdep ops n y.1 x = false ∧ swapOk ops y (x, .grow) = true)) →
      allw P ops Kend n x ox (pre ++ (i, m) :: post) a w → rstep P ops m oi a w (allw P ops Kend n x ox (pre ++ post))
  | [], a, w, _, _, h => by
    have := h.2 hix
    rw [hi] at this
    exact this
  | (y, my) :: pre, a, w, hp, hf, h => by
    obtain ⟨h1, h2⟩ := h
    have hp' : ∀ z ∈ pre, swapOk ops z (i, m) = true := fun z hz => hp z (List.mem_cons_of_mem _ hz)
    have hf' := fun z hz => hf z (List.mem_cons_of_mem _ hz)
    have hyi := hp (y, my) (List.mem_cons_self ..)
    cases hy : ops[y]? with
    | none =>
      unfold swapOk at hyi
      simp only [hy] at hyi
      cases hyi
    | some oy =>
      have hB : tdep ops n y x = false → rstep P ops m oi a w (fun a w => rstep P ops my oy a w (allw P ops Kend n x ox (pre ++ post))) := fun hd => by
        have g := h2 hd
        rw [hy] at g
        exact rswap hy hi (fun cs b => hs y oy cs b hy) (fun cs b => hs i oi cs b hi) hyi (rstep_mono (fun a w g => all_front hs hx hi hix pre a w hp' hf' g) g)
      rcases hf (y, my) (List.mem_cons_self ..) with ⟨rfl, hsx⟩ | ⟨hd, hsy⟩
      · have hA : rstep P ops .pure oi a w (fun a w => rstep P ops .grow ox a w (wr P ops Kend ((y, my) :: (pre ++ post)))) :=
          rswap hx hi (fun cs b => hs x ox cs b hx) (fun cs b => hs i oi cs b hi) hsx (rstep_mono (fun a w g => wr_front hs hi ((y, my) :: pre) a w hp g) h1)
        by_cases hd : tdep ops n y x = false
        · refine rstep_mono (fun a w g => ?_) (rstep_both hA (hB hd))
          exact ⟨g.1, fun _ => by rw [hy]; exact g.2⟩
        · exact rstep_mono (fun a w g => ⟨g, fun q => absurd q hd⟩) hA
      · exact rstep_mono (fun a w g => allw_fold hs hx hy hsy g) (hB hd)
def floatOk (ops : Array Oper) (n x : Nat) : List (Nat × Md) → Bool
  | [] => true
  | y :: σ => !Nat.beq y.1 x && (σ.all fun i => tdep ops n i.1 x || tdep ops n i.1 y.1 || ((match i.2 with | .pure => true | _ => false) && swapOk ops (x, .grow) i) || (!tdep ops n y.1 x && swapOk ops y (x, .grow))) && floatOk ops n x σ
theorem floatOk_erase {z : Nat × Md} : ∀ {σ τ : List (Nat × Md)}, floatOk ops n x (σ ++ z :: τ) = true → floatOk ops n x (σ ++ τ) = true
  | [], τ, h => by simp only [List.nil_append, floatOk, Bool.and_eq_true] at h ⊢; exact h.2
  | y :: σ, τ, h => by
    simp only [List.cons_append, floatOk, Bool.and_eq_true, List.all_append, List.all_cons] at h ⊢
    exact ⟨⟨h.1.1, h.1.2.1, h.1.2.2.2⟩, floatOk_erase h.2⟩
theorem floatOk_pre {i : Nat} {m : Md} : ∀ {pre post : List (Nat × Md)}, floatOk ops n x (pre ++ (i, m) :: post) = true → ∀ y ∈ pre, y.1 ≠ x ∧ (tdep ops n i x = true ∨ tdep ops n i y.1 = true ∨ (m = .pure ∧ swapOk ops (x, .grow) (i, m) = true) ∨ (tdep ops n y.1 x = false ∧ swapOk ops y (x, .grow) = true))
  | [], _, _, y, hy => by cases hy
  | z :: pre, post, h, y, hy => by
    simp only [List.cons_append, floatOk, Bool.and_eq_true, List.all_append, List.all_cons] at h
    rcases List.mem_cons.1 hy with rfl | hy
    · refine ⟨beq_ne h.1.1, ?_⟩
      have h1 := h.1.2.2.1
      simp only [Bool.or_eq_true, Bool.and_eq_true, Bool.not_eq_true'] at h1
      rcases h1 with ((h1 | h1) | h1) | h1
      · exact .inl h1
      · exact .inr (.inl h1)
      · refine .inr (.inr (.inl ⟨?_, h1.2⟩))
        cases m <;> first | rfl | (exfalso; exact absurd h1.1 (by decide))
      · exact .inr (.inr (.inr h1))
    · exact floatOk_pre h.2 y hy
theorem floatOk_ne : ∀ {σ : List (Nat × Md)}, floatOk ops n x σ = true → ∀ y ∈ σ, y.1 ≠ x
  | [], _, y, hy => by cases hy
  | z :: σ, h, y, hy => by
    simp only [floatOk, Bool.and_eq_true] at h
    rcases List.mem_cons.1 hy with rfl | hy
    · exact beq_ne h.1.1
    · exact floatOk_ne h.2 y hy
theorem wpAny_of_all {Q : Exit → Act → World → Prop} (hs : noSel ops) (hQ : ∀ a w, Kend a w → Q .normal a w) (hx : ops[x]? = some ox) (hxd : ∀ e ∈ ox.after, Region.binds .any e = false) :
    ∀ (fuel : Nat) (σ : List (Nat × Md)) (listed : Array Bool) (a : Act) (w : World), σ.length + 1 ≤ fuel → listed.size = ops.size → closed ops listed →
      (∀ i, listed.getD i true = false ↔ i = x ∨ ∃ m, (i, m) ∈ σ) → pairsOk ops n σ = true → topoOk ops ((x, .grow) :: σ) = true → floatOk ops n x σ = true → allw P ops Kend n x ox σ a w → wpAny P .any ops Q fuel listed a w := by
  intro fuel
  induction fuel with
  | zero => intro σ listed a w hlen; omega
  | succ fuel ih =>
    intro σ listed a w hlen hsz hc hl hp ht hf h
    have hxun : listed.getD x true = false := (hl x).2 (.inl rfl)
    refine ⟨fun hr => ?_, fun i hi => ?_⟩
    · exfalso
      have hxr : x ∈ Region.ready .any ops listed := mem_ready.2 ⟨hxun, ox, hx, fun e he hb => by rw [hxd e he] at hb; cases hb⟩
      rw [hr] at hxr
      cases hxr
    · obtain ⟨hun, oi, hoi, hdeps⟩ := mem_ready.1 hi
      have hilt : i < listed.size := by
        rcases Nat.lt_or_ge i listed.size with h2 | h2
        · exact h2
        · simp [Array.getD, Nat.not_lt.2 h2] at hun
      have hclosed : closed ops (listed.setIfInBounds i true) := by
        intro j o hj hjl e he hb
        by_cases hji : j = i
        · subst hji
          rw [hoi] at hj
          obtain rfl := Option.some.inj hj
          exact getD_set_true (hdeps e he hb)
        · rw [getD_set_ne true (Ne.symm hji)] at hjl
          exact getD_set_true (hc j o hj hjl e he hb)
      have hself : ∀ {p : Prop}, ¬ p → ((listed.setIfInBounds i true).getD i true = false ↔ p) := fun hnp =>
        ⟨fun hf => by simp [Array.getD, hilt] at hf, fun q => absurd q hnp⟩
      have hne := floatOk_ne hf
      by_cases hix : i = x
      · subst hix
        rw [hx] at hoi
        obtain rfl := Option.some.inj hoi
        refine wpOp_of_rstep hx (rstep_mono (fun a w hh => ?_) (allw_now h))
        simp only [topoOk, Bool.and_eq_true] at ht
        refine wpAny_of_wr hs hQ n fuel σ (listed.setIfInBounds i true) a w (by omega) (by simpa using hsz) hclosed ?_ hp ht.2 hh
        intro j
        by_cases hji : j = i
        · subst hji
          exact hself fun ⟨m, hm⟩ => hne _ hm rfl
        · rw [getD_set_ne true (Ne.symm hji), hl j]
          exact ⟨fun q => q.resolve_left hji, .inr⟩
      · obtain ⟨m, hm⟩ := ((hl i).1 hun).resolve_left hix
        obtain ⟨pre, post, rfl⟩ := List.append_of_mem hm
        have hlst : ∀ k, listed.getD k true = false → tdep ops n i k = true → False := fun k hk hd => by
          have h2 := tdep_listed hc n i k (fun o ho e he hb => by rw [hoi] at ho; obtain rfl := Option.some.inj ho; exact hdeps e he hb) hd
          rcases Nat.lt_or_ge k listed.size with hlt | hlt
          · simp only [Array.getD, hlt, dite_true] at h2 hk
            rw [h2] at hk; cases hk
          · simp [Array.getD, Nat.not_lt.2 hlt] at h2
        have hnd : ∀ y ∈ pre, y.1 ≠ i ∧ (tdep ops n i y.1 = true ∨ swapOk ops y (i, m) = true) := by
          clear ih h hl hlen ht hm hlst hf hne
          induction pre with
          | nil => intro y hy; cases hy
          | cons z pre ihp =>
            simp only [List.cons_append, pairsOk, Bool.and_eq_true, List.all_append, List.all_cons] at hp
            intro y hy
            rcases List.mem_cons.1 hy with rfl | hy
            · have h1 := hp.1.2.1
              rw [Bool.or_eq_true] at h1
              exact ⟨beq_ne h1.1, h1.2⟩
            · exact ihp hp.2 y hy
        have hpost : ∀ y ∈ post, i ≠ y.1 := by
          clear ih h hl hlen ht hm hnd hlst hf hne
          induction pre with
          | nil =>
            simp only [List.nil_append, pairsOk, Bool.and_eq_true] at hp
            intro y hy
            have := List.all_eq_true.1 hp.1 y hy
            simp only [Bool.and_eq_true] at this
            exact beq_ne this.1
          | cons z pre ihp =>
            simp only [List.cons_append, pairsOk, Bool.and_eq_true] at hp
            exact ihp hp.2
        have hyun : ∀ y ∈ pre, listed.getD y.1 true = false := fun y hy => (hl y.1).2 (.inr ⟨y.2, by simp [hy]⟩)
        have hsw : ∀ y ∈ pre, swapOk ops y (i, m) = true := fun y hy => (hnd y hy).2.resolve_left fun q => hlst _ (hyun y hy) q
        have hixd : tdep ops n i x = false := by
          cases hd : tdep ops n i x with
          | false => rfl
          | true => exact (hlst x hxun hd).elim
        have hfl : ∀ y ∈ pre, (m = .pure ∧ swapOk ops (x, .grow) (i, m) = true) ∨ (tdep ops n y.1 x = false ∧ swapOk ops y (x, .grow) = true) := fun y hy => by
          rcases (floatOk_pre hf y hy).2 with q | q | q
          · rw [hixd] at q; cases q
          · exact (hlst _ (hyun y hy) q).elim
          · exact q
        refine wpOp_of_rstep hoi (rstep_mono (fun a w hh => ?_) (all_front hs hx hoi hixd pre a w hsw hfl h))
        refine ih (pre ++ post) (listed.setIfInBounds i true) a w (by simp at hlen ⊢; omega) (by simpa using hsz) hclosed ?_ (pairsOk_erase hp) (topoOk_erase (σ := (x, .grow) :: pre) ht) (floatOk_erase hf) hh
        intro j
        by_cases hji : j = i
        · subst hji
          refine hself ?_
          rintro (q | ⟨m', hm'⟩)
          · exact hix q
          · rcases List.mem_append.1 hm' with h1 | h1
            · exact absurd rfl (hnd _ h1).1
            · exact absurd rfl (hpost _ h1)
        · rw [getD_set_ne true (Ne.symm hji), hl j]
          constructor
          · rintro (q | ⟨m', hm'⟩)
            · exact .inl q
            · refine .inr ⟨m', ?_⟩
              rcases List.mem_append.1 hm' with h1 | h1
              · simp [h1]
              · rcases List.mem_cons.1 h1 with h2 | h2
                · exact absurd (congrArg Prod.fst h2) hji
                · simp [h2]
          · rintro (q | ⟨m', hm'⟩)
            · exact .inl q
            · refine .inr ⟨m', ?_⟩
              rcases List.mem_append.1 hm' with h1 | h1
              · simp [h1]
              · simp [h1]
def drawFOk (ops : Array Oper) (x : Nat) (σ : List (Nat × Md)) : Bool :=
  Nat.ble (σ.length + 1) ops.size && (List.range ops.size).all (fun i => Nat.beq x i || σ.any fun x => Nat.beq x.1 i) && σ.all (fun x => Nat.blt x.1 ops.size) && pairsOk ops ops.size σ && topoOk ops ((x, .grow) :: σ) && floatOk ops ops.size x σ &&
  (match ops[x]? with | some o => o.after.all fun e => !Region.binds .any e | none => false) &&
  ops.all fun o => match o.op with | .select .. => false | _ => true
end
/-- A region's walk, x not yet carried out. -/
structure Wx (P : Program) (ops : Array Oper) (Kend : Act → World → Prop) (x : Nat) (σ : List (Nat × Md)) (N : Nat) (ρ : Nat → Value) (w : World) : Prop where
  out : noSel ops → ∀ ox, ops[x]? = some ox → allw P ops Kend ops.size x ox σ (act N ρ) w
section
variable {P : Program} {N : Nat} {ρ : Nat → Value} {w0 w : World} {Q : Exit → Act → World → Prop} {ops : Array Oper} {H : List Blk} {Kend : Act → World → Prop} {i x : Nat} {o : Oper} {σ : List (Nat × Md)}
theorem c_float {id : Nat} {l : List Oper} (x : Nat) (σ : List (Nat × Md)) (hm : P.follows .mixedOrders = true) (hchk : drawFOk l.toArray x σ = true) (hS : St w0 w H)
    (h : ∀ w', St w0 w' H → Below w.heap.size w w' → Wx P l.toArray (Q .normal) x σ N ρ w') : (Code.region id l.toArray true).wp P Q (act N ρ) w := by
  simp only [drawFOk, Bool.and_eq_true] at hchk
  obtain ⟨⟨⟨⟨⟨⟨⟨h1, h2⟩, h3⟩, h4⟩, h5⟩, h7⟩, h8⟩, h6⟩ := hchk
  have hs : noSel l.toArray := by
    intro i o cs b hi hsel
    have := Array.all_eq_true'.1 h6 o (Array.mem_of_getElem? hi)
    rw [hsel] at this
    cases this
  cases hx : l.toArray[x]? with
  | none => rw [hx] at h8; cases h8
  | some ox =>
    rw [hx] at h8
    have hxd : ∀ e ∈ ox.after, Region.binds .any e = false := fun e he => by
      have := Array.all_eq_true'.1 h8 e he
      simpa using this
    have hbd : Below w.heap.size w { w with drawn := w.drawn + 1 } := (Below.refl _ w).drew
    have hxlt : x < l.toArray.size := by
      rcases Nat.lt_or_ge x l.toArray.size with q | q
      · exact q
      · rw [Array.getElem?_eq_none q] at hx; cases hx
    refine wp_region_any hm (wpAny_of_all (n := l.toArray.size) hs (fun _ _ h => h) hx hxd l.toArray.size σ _ _ _ (Nat.le_of_ble_eq_true h1) (by simp) ?_ ?_ h4 h5 h7 ((h _ (hS.grow hbd) hbd).out hs ox hx))
    · intro j o _ hl
      by_cases hj : j < l.toArray.size
      · rw [Array.getD, dif_pos (by simpa using hj)] at hl
        simp at hl
      · rename_i hjo
        rw [Array.getElem?_eq_none (by omega)] at hjo
        cases hjo
    · intro j
      constructor
      · intro hf
        have hj : j < l.toArray.size := by
          rcases Nat.lt_or_ge j l.toArray.size with hlt | hlt
          · exact hlt
          · simp at hlt
            simp [Array.getD, Nat.not_lt.2 hlt] at hf
        have := List.all_eq_true.1 h2 j (by simpa using hj)
        rw [Bool.or_eq_true] at this
        rcases this with q | q
        · exact .inl (Nat.eq_of_beq_eq_true q).symm
        · obtain ⟨y, hy, hb⟩ := List.any_eq_true.1 q
          exact .inr ⟨y.2, by rw [← Nat.eq_of_beq_eq_true hb]; exact hy⟩
      · rintro (rfl | ⟨m, hm'⟩)
        · simp at hxlt
          simp [Array.getD, hxlt]
        · have := List.all_eq_true.1 h3 _ hm'
          rw [Nat.blt_eq] at this
          simp at this
          simp [Array.getD, this]
theorem wx_read {d : Option Tmp} {p : Op} {ty : TypeId} {pos : String} {aft : Array Edge} {g : Option (Nat × Bool)} (hsw : swapOk ops (i, .read) (x, .grow) = true) (ho : ops[i]? = some ⟨d, p, ty, pos, aft, g⟩) (hg : gd ops N ρ g = true) (h : Read1 P N ρ w ⟨d, p, ty, pos, aft, g⟩ fun v => Wx P ops Kend x σ N (updo ρ d v) w) : Wx P ops Kend x ((i, .read) :: σ) N ρ w := by
  refine ⟨fun hs ox hx => allw_fold hs hx ho hsw ?_⟩
  rw [rstep_read (gd_wanted ops N ρ ⟨d, p, ty, pos, aft, g⟩ hg), act_eval]
  obtain ⟨v, h1, h2⟩ := h
  exact ⟨v, h1, by rw [act_put]; exact h2.out hs ox hx⟩
/-- x now, or the next operation (that makes memory) first. -/
theorem wx_fork {d : Option Tmp} {p : Op} {ty : TypeId} {pos : String} {aft : Array Edge} {g : Option (Nat × Bool)} (ho : ops[i]? = some ⟨d, p, ty, pos, aft, g⟩) (hg : gd ops N ρ g = true) (hnow : Wr P ops Kend ((x, .grow) :: (i, .grow) :: σ) N ρ w)
    (h : Hup1 P N ρ w ⟨d, p, ty, pos, aft, g⟩ fun v w' => Below w.heap.size w w' ∧ Wx P ops Kend x σ N (updo ρ d v) w') : Wx P ops Kend x ((i, .grow) :: σ) N ρ w := by
  refine ⟨fun hs ox hx => ⟨?_, fun _ => ?_⟩⟩
  · have := hnow.out
    simp only [wr, hx] at this
    exact this
  · rw [ho]
    show rstep _ _ _ _ _ _ _
    rw [rstep_grow (gd_wanted ops N ρ ⟨d, p, ty, pos, aft, g⟩ hg), act_eval]
    simp only [act_put]
    exact hup_mono (fun v w h => ⟨h.1, h.2.out hs ox hx⟩) h.out
theorem wx_now {m : Md} (hd : tdep ops ops.size i x = true) (hnow : Wr P ops Kend ((x, .grow) :: (i, m) :: σ) N ρ w) : Wx P ops Kend x ((i, m) :: σ) N ρ w := by
  refine ⟨fun hs ox hx => ⟨?_, fun q => by rw [hd] at q; cases q⟩⟩
  have := hnow.out
  simp only [wr, hx] at this
  exact this
end
end Go.Sx
namespace Go.Proofs.YtmapmdldlcfjhaaGreatDoor
open Go Go.RowKit Go.Sx
theorem Whole_ok (n : Int) (w : World) (h1 : -9223372036854775808 ≤ n) (h2 : n ≤ 9223372036854775807) :
    Ret Tryz.prog 30 #[.int .i64 n] w fun v w' => v = aggR (ofQ (n : Rat)) ∧ Below w.heap.size w w' := by
  have hS := St.init w
  refine enter Tryz.func30 rfl Tryz.ntmps30 rfl ?_
  repeat (with_reducible first | refine c_seq ?_ | refine c_block ?_ | refine c_skip ?_ | refine x_then ?_ | refine x_block ?_)
  refine c_reg ?_
  refine l_heavy rfl (s_alloc  vi_37 hS ?_)
  intro b1 wz2 hS hBz2
  refine l_nil ?_
  repeat (with_reducible first | refine c_seq ?_ | refine c_block ?_ | refine c_skip ?_ | refine x_then ?_ | refine x_block ?_)
  refine c_reg ?_
  refine l_pure rfl (s_move  rfl ?_)
  refine l_heavy rfl (s_call Tryz.call31 rfl (rInt_ok n _ h1 h2) ?_)
  rintro _ wc3 ⟨rfl, hBc3⟩
  replace hS := hS.grow hBc3
  refine l_heavy rfl (s_sta (k := 0)  rfl rfl vi_37 hS rfl rfl rfl (Nat.le_of_ble_eq_true rfl) rfl ?_)
  intro wz4 hS
  refine l_nil ?_
  repeat (with_reducible first | refine c_seq ?_ | refine c_block ?_ | refine c_skip ?_ | refine x_then ?_ | refine x_block ?_)
  refine c_ret ?_
  repeat (with_reducible first | refine x_then_ret ?_ | refine x_block_ret ?_)
  refine r_cell (k := 0) rfl rfl vi_37 hS rfl rfl ?_
  exact ⟨rfl, hS.below⟩
theorem Ratio_ok (a : Int) (n : Nat) (w : World) (h1 : -9223372036854775808 ≤ a) (h2 : a ≤ 9223372036854775807) (hn0 : 0 < n) (hn : n ≤ 9223372036854775807) :
    Ret Tryz.prog 37 #[.int .i64 a, .int .i64 n] w fun v w' => v = aggR (ofQ (mkRat a n)) ∧ Below w.heap.size w w' := by
  have hS := St.init w
  refine enter Tryz.func37 rfl Tryz.ntmps37 rfl ?_
  repeat (with_reducible first | refine c_seq ?_ | refine c_block ?_ | refine c_skip ?_ | refine x_then ?_ | refine x_block ?_)
  refine c_reg ?_
  refine l_heavy rfl (s_alloc  vi_37 hS ?_)
  intro b4 wz1 hS hBz1
  refine l_nil ?_
  repeat (with_reducible first | refine c_seq ?_ | refine c_block ?_ | refine c_skip ?_ | refine x_then ?_ | refine x_block ?_)
  refine c_reg ?_
  refine l_pure rfl (s_move  rfl ?_)
  refine l_pure rfl (s_move  rfl ?_)
  refine l_heavy rfl (s_call Tryz.call22 rfl (rFraction_ok a n _ h1 h2 hn0 hn) ?_)
  rintro _ wc2 ⟨rfl, hBc2⟩
  replace hS := hS.grow hBc2
  refine l_pure rfl (s_move  rfl ?_)
  refine l_pure rfl (s_ext  rfl rfl ?_)
  refine l_pure rfl (s_ext  rfl rfl ?_)
  refine l_heavy rfl (s_alloc  vi_37 hS ?_)
  intro b3 wz4 hS hBz4
  refine l_heavy rfl (s_sta (k := 0)  rfl rfl vi_37 hS rfl rfl rfl (Nat.le_of_ble_eq_true rfl) rfl ?_)
  intro wz5 hS
  refine l_pure rfl (s_asg  rfl ?_)
  refine l_nil ?_
  repeat (with_reducible first | refine c_seq ?_ | refine c_block ?_ | refine c_skip ?_ | refine x_then ?_ | refine x_block ?_)
  refine c_reg ?_
  refine l_read rfl (s_ldo (k := 0)  rfl vi_37 hS rfl rfl rfl (.inl rfl) ?_)
  refine l_heavy rfl (s_sta (k := 1)  rfl rfl vi_37 hS rfl rfl rfl (Nat.le_of_ble_eq_true rfl) rfl ?_)
  intro wz6 hS
  refine l_nil ?_
  repeat (with_reducible first | refine c_seq ?_ | refine c_block ?_ | refine c_skip ?_ | refine x_then ?_ | refine x_block ?_)
  refine c_ret ?_
  repeat (with_reducible first | refine x_then_ret ?_ | refine x_block_ret ?_)
  refine r_cell (k := 1) rfl rfl vi_37 hS rfl rfl ?_
  exact ⟨rfl, hS.below⟩
theorem rem_nat (m n : Nat) : (m : Int).tmod n = ((m % n : Nat) : Int) := by rw [Int.tmod_eq_emod_of_nonneg (by omega)]; omega
theorem quo_nat (m n : Nat) : (m : Int).tdiv n = ((m / n : Nat) : Int) := by rw [Int.tdiv_eq_ediv_of_nonneg (by omega)]; omega
theorem quo_u16 (m n : Nat) (h : m < 65536) : IntKind.u16.wrap ((m : Int).tdiv n) = ((m / n : Nat) : Int) := by
  have := Nat.div_le_self m n
  rw [quo_nat, wrapm_u16]
  generalize m / n = q at *
  omega
def amtQ (x : Nat) : Rat := if x % 5 = 0 then mkRat ((x / 5 % 23 : Nat) : Int) (1 + x / 115 % 6) else if x % 5 = 1 then (((10 * (x / 5 % 4) : Nat) : Int) : Rat) else (((x / 5 % 13 : Nat) : Int) : Rat)
theorem L_small {n : Nat} (h : n < 256) : L ((n : Int) : Rat) ≤ 1 := by
  unfold L
  have h1 : (natS n).size ≤ 1 := natS_size_le (by omega)
  have h2 : (natS 1).size ≤ 1 := natS_size_le (by omega)
  exact Nat.max_le.2 ⟨h1, h2⟩
theorem L_amtQ (x : Nat) : L (amtQ x) ≤ 1 := by
  unfold amtQ
  split
  · refine L_mkRat _ (by omega) (natS_size_le (by rw [Int.natAbs_natCast]; omega)) (natS_size_le (by omega))
  · split
    · exact L_small (by omega)
    · exact L_small (by omega)
theorem amtQ_nonneg (x : Nat) : 0 ≤ amtQ x := by
  unfold amtQ
  split
  · rw [← Rat.divInt_ofNat]
    exact Rat.divInt_nonneg (Int.natCast_nonneg _) (Int.natCast_nonneg _)
  · split
    · exact Rat.intCast_nonneg.2 (Int.natCast_nonneg _)
    · exact Rat.intCast_nonneg.2 (Int.natCast_nonneg _)
theorem Amount_ok (x : Nat) (w : World) (hx : x < 65536) :
    Ret Tryz.prog 66 #[.int .u16 x] w fun v w' => v = aggR (ofQ (amtQ x)) ∧ Below w.heap.size w w' := by
  have hS := St.init w
  refine enter Tryz.func66 rfl Tryz.ntmps66 rfl ?_
  repeat (with_reducible first | refine c_seq ?_ | refine c_block ?_ | refine c_skip ?_ | refine x_then ?_ | refine x_block ?_)
  refine c_reg ?_
  refine l_heavy rfl (s_alloc  vi_37 hS ?_)
  intro b2 wz1 hS hBz1
  refine l_nil ?_
  repeat (with_reducible first | refine c_seq ?_ | refine c_block ?_ | refine c_skip ?_ | refine x_then ?_ | refine x_block ?_)
  refine c_reg ?_
  refine l_pure rfl (s_move  rfl ?_)
  refine l_pure rfl (s_rem  rfl rfl (by omega) (r := ((x % 5 : Nat) : Int)) (by exact rem_nat x 5) ?_)
  refine l_nil ?_
  repeat (with_reducible first | refine c_seq ?_ | refine c_block ?_ | refine c_skip ?_ | refine x_then ?_ | refine x_block ?_)
  refine c_reg ?_
  refine l_pure rfl (s_eql  rfl rfl ?_)
  refine l_pure rfl (s_asg  rfl ?_)
  refine l_nil ?_
  repeat (with_reducible first | refine c_seq ?_ | refine c_block ?_ | refine c_skip ?_ | refine x_then ?_ | refine x_block ?_)
  by_cases h0 : x % 5 = 0
  · refine c_yes rfl (decide_eq_true (by omega)) ?_
    repeat (with_reducible first | refine c_seq ?_ | refine c_block ?_ | refine c_skip ?_ | refine x_then ?_ | refine x_block ?_)
    have e : amtQ x = mkRat ((x / 5 % 23 : Nat) : Int) (1 + x / 115 % 6) := if_pos h0
    rw [e]
    repeat (with_reducible first | refine c_seq ?_ | refine c_block ?_ | refine c_skip ?_ | refine x_then ?_ | refine x_block ?_)
    refine c_reg ?_
    refine l_pure rfl (s_move  rfl ?_)
    refine l_pure rfl (s_quo  rfl rfl (by omega) (quo_u16 x 5 hx) ?_)
    refine l_pure rfl (s_rem  rfl rfl (by omega) (rem_nat (x / 5) 23) ?_)
    refine l_pure rfl (s_conv  rfl Tryz.underlying3 ⟨_, Tryz.underlying79⟩ (r := ((x / 5 % 23 : Nat) : Int)) (by exact wr_i64 _ ⟨rfl, by omega, by omega⟩) ?_)
    refine l_pure rfl (s_move  rfl ?_)
    refine l_pure rfl (s_quo  rfl rfl (by omega) (quo_u16 x 115 hx) ?_)
    refine l_pure rfl (s_rem  rfl rfl (by omega) (rem_nat (x / 115) 6) ?_)
    refine l_pure rfl (s_conv  rfl Tryz.underlying3 ⟨_, Tryz.underlying79⟩ (r := ((x / 115 % 6 : Nat) : Int)) (by exact wr_i64 _ ⟨rfl, by omega, by omega⟩) ?_)
    refine l_pure rfl (s_add  rfl rfl (r := ((1 + x / 115 % 6 : Nat) : Int)) (by exact wr_i64 _ ⟨by omega, by omega, by omega⟩) ?_)
    refine l_heavy rfl (s_call Tryz.call37 rfl (Ratio_ok ((x / 5 % 23 : Nat) : Int) (1 + x / 115 % 6) _ (by omega) (by omega) (by omega) (by omega)) ?_)
    rintro _ wc2 ⟨rfl, hBc2⟩
    replace hS := hS.grow hBc2
    refine l_heavy rfl (s_sta (k := 0)  rfl rfl vi_37 hS rfl rfl rfl (Nat.le_of_ble_eq_true rfl) rfl ?_)
    intro wz3 hS
    refine l_nil ?_
    repeat (with_reducible first | refine c_seq ?_ | refine c_block ?_ | refine c_skip ?_ | refine x_then ?_ | refine x_block ?_)
    refine c_ret ?_
    repeat (with_reducible first | refine x_then_ret ?_ | refine x_block_ret ?_)
    refine r_cell (k := 0) rfl rfl vi_37 hS rfl rfl ?_
    exact ⟨rfl, hS.below⟩
  · refine c_no rfl (decide_eq_false (by omega)) ?_
    repeat (with_reducible first | refine c_seq ?_ | refine c_block ?_ | refine c_skip ?_ | refine x_then ?_ | refine x_block ?_)
    refine c_reg ?_
    refine l_pure rfl (s_eql  rfl rfl ?_)
    refine l_pure rfl (s_asg  rfl ?_)
    refine l_nil ?_
    repeat (with_reducible first | refine c_seq ?_ | refine c_block ?_ | refine c_skip ?_ | refine x_then ?_ | refine x_block ?_)
    by_cases h1 : x % 5 = 1
    · refine c_yes rfl (decide_eq_true (by omega)) ?_
      repeat (with_reducible first | refine c_seq ?_ | refine c_block ?_ | refine c_skip ?_ | refine x_then ?_ | refine x_block ?_)
      have e : amtQ x = (((10 * (x / 5 % 4) : Nat) : Int) : Rat) := by unfold amtQ; rw [if_neg h0, if_pos h1]
      rw [e]
      repeat (with_reducible first | refine c_seq ?_ | refine c_block ?_ | refine c_skip ?_ | refine x_then ?_ | refine x_block ?_)
      refine c_reg ?_
      refine l_pure rfl (s_move  rfl ?_)
      refine l_pure rfl (s_quo  rfl rfl (by omega) (quo_u16 x 5 hx) ?_)
      refine l_pure rfl (s_rem  rfl rfl (by omega) (rem_nat (x / 5) 4) ?_)
      refine l_pure rfl (s_conv  rfl Tryz.underlying3 ⟨_, Tryz.underlying79⟩ (r := ((x / 5 % 4 : Nat) : Int)) (by exact wr_i64 _ ⟨rfl, by omega, by omega⟩) ?_)
      refine l_pure rfl (s_mul  rfl rfl (r := ((10 * (x / 5 % 4) : Nat) : Int)) (by exact wr_i64 _ ⟨by omega, by omega, by omega⟩) ?_)
      refine l_heavy rfl (s_call Tryz.call30 rfl (Whole_ok ((10 * (x / 5 % 4) : Nat) : Int) _ (by omega) (by omega)) ?_)
      rintro _ wc4 ⟨rfl, hBc4⟩
      replace hS := hS.grow hBc4
      refine l_heavy rfl (s_sta (k := 0)  rfl rfl vi_37 hS rfl rfl rfl (Nat.le_of_ble_eq_true rfl) rfl ?_)
      intro wz5 hS
      refine l_nil ?_
      repeat (with_reducible first | refine c_seq ?_ | refine c_block ?_ | refine c_skip ?_ | refine x_then ?_ | refine x_block ?_)
      refine c_ret ?_
      repeat (with_reducible first | refine x_then_ret ?_ | refine x_block_ret ?_)
      refine r_cell (k := 0) rfl rfl vi_37 hS rfl rfl ?_
      exact ⟨rfl, hS.below⟩
    · refine c_no rfl (decide_eq_false (by omega)) ?_
      repeat (with_reducible first | refine c_seq ?_ | refine c_block ?_ | refine c_skip ?_ | refine x_then ?_ | refine x_block ?_)
      have e : amtQ x = (((x / 5 % 13 : Nat) : Int) : Rat) := by unfold amtQ; rw [if_neg h0, if_neg h1]
      rw [e]
      repeat (with_reducible first | refine c_seq ?_ | refine c_block ?_ | refine c_skip ?_ | refine x_then ?_ | refine x_block ?_)
      refine c_reg ?_
      refine l_pure rfl (s_move  rfl ?_)
      refine l_pure rfl (s_quo  rfl rfl (by omega) (quo_u16 x 5 hx) ?_)
      refine l_pure rfl (s_rem  rfl rfl (by omega) (rem_nat (x / 5) 13) ?_)
      refine l_pure rfl (s_conv  rfl Tryz.underlying3 ⟨_, Tryz.underlying79⟩ (r := ((x / 5 % 13 : Nat) : Int)) (by exact wr_i64 _ ⟨rfl, by omega, by omega⟩) ?_)
      refine l_heavy rfl (s_call Tryz.call30 rfl (Whole_ok ((x / 5 % 13 : Nat) : Int) _ (by omega) (by omega)) ?_)
      rintro _ wc6 ⟨rfl, hBc6⟩
      replace hS := hS.grow hBc6
      refine l_heavy rfl (s_sta (k := 0)  rfl rfl vi_37 hS rfl rfl rfl (Nat.le_of_ble_eq_true rfl) rfl ?_)
      intro wz7 hS
      refine l_nil ?_
      repeat (with_reducible first | refine c_seq ?_ | refine c_block ?_ | refine c_skip ?_ | refine x_then ?_ | refine x_block ?_)
      refine c_ret ?_
      repeat (with_reducible first | refine x_then_ret ?_ | refine x_block_ret ?_)
      refine r_cell (k := 0) rfl rfl vi_37 hS rfl rfl ?_
      exact ⟨rfl, hS.below⟩
end Go.Proofs.YtmapmdldlcfjhaaGreatDoor
namespace Go.Proofs.YtmapmdldlcfjhaaGreatDoor
open Go Go.RowKit Go.Sx
def amR (x : Nat) : RR := ofQ (amtQ x)
def amts (l : List Nat) (n : Nat) : List RR := (l.take n).map amR
theorem amts_succ (l : List Nat) {i : Nat} (h : i < l.length) : amts l (i + 1) = amts l i ++ [amR (l.getD i 0)] := by
  unfold amts; rw [take_succ' l i 0 h, List.map_append]; rfl
theorem amts_len (l : List Nat) (n : Nat) : (amts l n).length = min n l.length := by simp [amts]
theorem amts_RB (l : List Nat) (n : Nat) : RB 1 (amts l n) := by
  intro r hr
  obtain ⟨x, _, rfl⟩ := List.mem_map.1 hr
  unfold amR
  rw [Lr_ofQ]; exact L_amtQ x
theorem Amounts_ok (v : Value) (l : List Nat) (n : Nat) (w : World) (hv : Sl (uk .u16) 1 w v l) (hl : ∀ x ∈ l, x < 65536) (hn : n ≤ 1000) :
    Ret Tryz.prog 23 #[v, .int .i64 n] w fun r w' => Sl encR 3 w' r (amts l n) ∧ Below w.heap.size w w' := by
  have hmax := hv.maxLen
  have hS := St.init w
  refine enter Tryz.func23 rfl Tryz.ntmps23 rfl ?_
  repeat (with_reducible first | refine c_seq ?_ | refine c_block ?_ | refine c_skip ?_ | refine x_then ?_ | refine x_block ?_)
  refine c_reg ?_
  refine l_pure rfl (s_asg  rfl ?_)
  refine l_nil ?_
  repeat (with_reducible first | refine c_seq ?_ | refine c_block ?_ | refine c_skip ?_ | refine x_then ?_ | refine x_block ?_)
  refine c_reg ?_
  refine l_pure rfl (s_asg  rfl ?_)
  refine l_nil ?_
  repeat (with_reducible first | refine c_seq ?_ | refine c_block ?_ | refine c_skip ?_ | refine x_then ?_ | refine x_block ?_)
  refine c_reg ?_
  refine l_pure rfl (s_asg  rfl ?_)
  refine l_nil ?_
  repeat (with_reducible first | refine c_seq ?_ | refine c_block ?_ | refine c_skip ?_ | refine x_then ?_ | refine x_block ?_)
  refine c_loop (σ := Nat) (fun i ρ w' => i ≤ l.length ∧ i ≤ n ∧ ρ 0 = v ∧ ρ 1 = .int .i64 n ∧ ρ 6 = .int .i64 i ∧ ∃ sO LO, ρ 5 = sO ∧ Gl encR 37 3 sO (amts l i) LO ∧ St w w' ([] ++ LO)) (fun i => l.length - i) 0
    ⟨Nat.zero_le _, Nat.zero_le _, rfl, rfl, rfl, ⟨_, [], rfl, Gl.nil _ _ _, hS⟩⟩ ?_
  clear hS
  rintro i ρ w2 ⟨hi, hin, h0, h1, h6, sO, LO, h5, hG, hS⟩
  have hal := amts_len l i
  repeat (with_reducible first | refine c_seq ?_ | refine c_block ?_ | refine c_skip ?_ | refine x_then ?_ | refine x_block ?_)
  by_cases hlt : i < l.length
  · by_cases hlt2 : i < n
    · repeat (with_reducible first | refine c_seq ?_ | refine c_block ?_ | refine c_skip ?_ | refine x_then ?_ | refine x_block ?_)
      refine c_reg ?_
      refine l_pure rfl (s_move  h6 ?_)
      refine l_pure rfl (s_move  h0 ?_)
      refine l_pure rfl (s_lenr  rfl (hv.below hS.below) ⟨_, Tryz.underlying46⟩ ?_)
      refine l_pure rfl (s_lss  rfl rfl ?_)
      refine l_pure rfl (s_move  rfl ?_)
      refine l_pure (gd_yes 11 (by kernel_rfl) rfl (decide_eq_true (by omega))) (s_move  h6 ?_)
      refine l_pure (gd_yes 11 (by kernel_rfl) rfl (decide_eq_true (by omega))) (s_move  h1 ?_)
      refine l_pure (gd_yes 11 (by kernel_rfl) rfl (decide_eq_true (by omega))) (s_lss  rfl rfl ?_)
      refine l_pure rfl (s_pick (vb rfl (decide_eq_true (by omega))) rfl ?_)
      refine l_nil ?_
      repeat (with_reducible first | refine c_seq ?_ | refine c_block ?_ | refine c_skip ?_ | refine x_then ?_ | refine x_block ?_)
      refine c_yes rfl (decide_eq_true (by omega)) ?_
      repeat (with_reducible first | refine c_seq ?_ | refine c_block ?_ | refine c_skip ?_ | refine x_then ?_ | refine x_block ?_)
      have hx := hl _ (getD_mem l i 0 hlt)
      repeat (with_reducible first | refine c_seq ?_ | refine c_block ?_ | refine c_skip ?_ | refine x_then ?_ | refine x_block ?_)
      refine c_reg ?_
      refine l_pure rfl (s_move  h5 ?_)
      refine l_pure rfl (s_move  h0 ?_)
      refine l_pure rfl (s_move  h6 ?_)
      refine l_pure rfl (s_ixr (i := i)  rfl rfl (hv.below hS.below) (by omega) (by first | omega | (simp; done) | (simp; omega)) si_46 ?_)
      refine l_read rfl (s_lde (i := i) 0  rfl vi_79 (hv.below hS.below) (by first | omega | (simp; done) | (simp; omega)) rfl rfl (.inr rfl) ?_)
      refine l_heavy rfl (s_call Tryz.call66 rfl (Amount_ok (l.getD i 0) _ hx) ?_)
      rintro r w3 ⟨rfl, hB3⟩
      replace hS := hS.grow hB3
      refine l_heavy rfl (s_bsl (vs := [aggR (amR (l.getD i 0))])  rfl si_22 rfl (by decide) (by decide) (by decide) (by simp [Value.cells, aggR]) rfl hS ?_)
      intro bx wz1 hS hBz1
      refine l_heavy rfl (s_appl [amR (l.getD i 0)]  rfl rfl si_22 (by decide) hG hS rfl rfl encR_len (encR_one [amR (l.getD i 0)]) (by first | omega | (simp only [List.length_cons, List.length_nil]; omega)) (by first | omega | (simp only [List.length_cons, List.length_nil]; omega)) ?_)
      intro va2 La2 wa2 hG hS hga2
      refine l_pure rfl (s_asg  rfl ?_)
      refine l_nil ?_
      repeat (with_reducible first | refine c_seq ?_ | refine c_block ?_ | refine c_skip ?_ | refine x_then ?_ | refine x_block ?_)
      rw [← amts_succ l hlt] at hG
      repeat (with_reducible first | refine c_seq ?_ | refine c_block ?_ | refine c_skip ?_ | refine x_then ?_ | refine x_block ?_)
      refine c_reg ?_
      refine l_pure rfl (s_move  h6 ?_)
      refine l_pure rfl (s_add  rfl rfl (IntWalk.i64_in _ (by omega)) ?_)
      refine l_pure rfl (s_asg  rfl ?_)
      refine l_nil ?_
      repeat (with_reducible first | refine c_seq ?_ | refine c_block ?_ | refine c_skip ?_ | refine x_then ?_ | refine x_block ?_)
      exact ⟨i + 1, _, rfl, ⟨hlt, hlt2, h0, h1, vi rfl (by omega), ⟨_, _, rfl, hG, hS⟩⟩, by omega⟩
    · repeat (with_reducible first | refine c_seq ?_ | refine c_block ?_ | refine c_skip ?_ | refine x_then ?_ | refine x_block ?_)
      refine c_reg ?_
      refine l_pure rfl (s_move  h6 ?_)
      refine l_pure rfl (s_move  h0 ?_)
      refine l_pure rfl (s_lenr  rfl (hv.below hS.below) ⟨_, Tryz.underlying46⟩ ?_)
      refine l_pure rfl (s_lss  rfl rfl ?_)
      refine l_pure rfl (s_move  rfl ?_)
      refine l_pure (gd_yes 11 (by kernel_rfl) rfl (decide_eq_true (by omega))) (s_move  h6 ?_)
      refine l_pure (gd_yes 11 (by kernel_rfl) rfl (decide_eq_true (by omega))) (s_move  h1 ?_)
      refine l_pure (gd_yes 11 (by kernel_rfl) rfl (decide_eq_true (by omega))) (s_lss  rfl rfl ?_)
      refine l_pure rfl (s_pick (vb rfl (decide_eq_true (by omega))) rfl ?_)
      refine l_nil ?_
      repeat (with_reducible first | refine c_seq ?_ | refine c_block ?_ | refine c_skip ?_ | refine x_then ?_ | refine x_block ?_)
      refine c_no rfl (decide_eq_false (by omega)) ?_
      repeat (with_reducible first | refine c_seq ?_ | refine c_block ?_ | refine c_skip ?_ | refine x_then ?_ | refine x_block ?_)
      refine c_exit ?_
      repeat (with_reducible first | refine x_then_exit ?_ | refine x_block_exit ?_ | refine x_block_pass rfl ?_)
      repeat (with_reducible first | refine c_seq ?_ | refine c_block ?_ | refine c_skip ?_ | refine x_then ?_ | refine x_block ?_)
      obtain rfl : i = n := by omega
      repeat (with_reducible first | refine c_seq ?_ | refine c_block ?_ | refine c_skip ?_ | refine x_then ?_ | refine x_block ?_)
      refine c_reg ?_
      refine l_pure rfl (s_move  h5 ?_)
      refine l_pure rfl (s_asg  rfl ?_)
      refine l_nil ?_
      repeat (with_reducible first | refine c_seq ?_ | refine c_block ?_ | refine c_skip ?_ | refine x_then ?_ | refine x_block ?_)
      refine c_ret ?_
      repeat (with_reducible first | refine x_then_ret ?_ | refine x_block_ret ?_)
      refine r_one rfl rfl ?_
      exact ⟨hG.sl hS encR_len, hS.below⟩
  · repeat (with_reducible first | refine c_seq ?_ | refine c_block ?_ | refine c_skip ?_ | refine x_then ?_ | refine x_block ?_)
    refine c_reg ?_
    refine l_pure rfl (s_move  h6 ?_)
    refine l_pure rfl (s_move  h0 ?_)
    refine l_pure rfl (s_lenr  rfl (hv.below hS.below) ⟨_, Tryz.underlying46⟩ ?_)
    refine l_pure rfl (s_lss  rfl rfl ?_)
    refine l_pure rfl (s_move  rfl ?_)
    refine l_no (gno_yes 11 (by kernel_rfl) rfl (decide_eq_false (by omega))) ?_
    refine l_no (gno_yes 11 (by kernel_rfl) rfl (decide_eq_false (by omega))) ?_
    refine l_no (gno_yes 11 (by kernel_rfl) rfl (decide_eq_false (by omega))) ?_
    refine l_pure rfl (s_pick (vb rfl (decide_eq_false (by omega))) rfl ?_)
    refine l_nil ?_
    repeat (with_reducible first | refine c_seq ?_ | refine c_block ?_ | refine c_skip ?_ | refine x_then ?_ | refine x_block ?_)
    refine c_no rfl (rfl) ?_
    repeat (with_reducible first | refine c_seq ?_ | refine c_block ?_ | refine c_skip ?_ | refine x_then ?_ | refine x_block ?_)
    refine c_exit ?_
    repeat (with_reducible first | refine x_then_exit ?_ | refine x_block_exit ?_ | refine x_block_pass rfl ?_)
    repeat (with_reducible first | refine c_seq ?_ | refine c_block ?_ | refine c_skip ?_ | refine x_then ?_ | refine x_block ?_)
    have e : amts l i = amts l n := by unfold amts; rw [List.take_of_length_le (by omega), List.take_of_length_le (by omega)]
    rw [e] at hG
    repeat (with_reducible first | refine c_seq ?_ | refine c_block ?_ | refine c_skip ?_ | refine x_then ?_ | refine x_block ?_)
    refine c_reg ?_
    refine l_pure rfl (s_move  h5 ?_)
    refine l_pure rfl (s_asg  rfl ?_)
    refine l_nil ?_
    repeat (with_reducible first | refine c_seq ?_ | refine c_block ?_ | refine c_skip ?_ | refine x_then ?_ | refine x_block ?_)
    refine c_ret ?_
    repeat (with_reducible first | refine x_then_ret ?_ | refine x_block_ret ?_)
    refine r_one rfl rfl ?_
    exact ⟨hG.sl hS encR_len, hS.below⟩
theorem enI_len : ∀ x, (enI x).length = 1 := fun _ => rfl
theorem enI_one (xs : List Int) : ∀ u ∈ xs.flatMap enI, u.oneCell' = true := by
  intro u hu
  obtain ⟨x, _, hx⟩ := List.mem_flatMap.1 hu
  simp only [enI, List.mem_cons, List.not_mem_nil, or_false] at hx
  rw [hx]; rfl
end Go.Proofs.YtmapmdldlcfjhaaGreatDoor
namespace Go.Proofs.YtmapmdldlcfjhaaGreatDoor
open Go Go.RowKit Go.Sx
theorem encCh_len : ∀ c, (encCh c).length = 6 := fun _ => rfl
/-- The items' charges can be read, whatever else comes. -/
def RdC (w0 : World) (LC : List Blk) (cvs : List Value) (X : List It) : Prop := ∀ w' H, St w0 w' (H ++ LC) → ∀ j, j < X.length → Sl encCh 6 w' (cvs.getD j undef) (X.getD j zIt).charges
theorem RdC.add {w0 : World} {LC LCh : List Blk} {cvs : List Value} {X : List It} {x : It} {s : Value} {T : TypeId} (h : RdC w0 LC cvs X) (hl : cvs.length = X.length) (hG : Gl encCh T 6 s x.charges LCh) : RdC w0 (LC ++ LCh) (cvs ++ [s]) (X ++ [x]) := by
  intro w' H hS j hj
  rw [List.length_append] at hj
  by_cases e : j < X.length
  · have h1 : (cvs ++ [s]).getD j undef = cvs.getD j undef := by rw [List.getD_eq_getElem?_getD, List.getElem?_append_left (by omega), List.getD_eq_getElem?_getD]
    have h2 : (X ++ [x]).getD j zIt = X.getD j zIt := by rw [List.getD_eq_getElem?_getD, List.getElem?_append_left e, List.getD_eq_getElem?_getD]
    rw [h1, h2]
    refine h w' H (hS.drop ?_) j e
    rw [← List.append_assoc]
    exact List.sublist_append_left _ _
  · obtain rfl : j = X.length := by simp only [List.length_cons, List.length_nil] at hj; omega
    have h1 : (cvs ++ [s]).getD X.length undef = s := by rw [List.getD_eq_getElem?_getD, List.getElem?_append_right (by omega), hl, Nat.sub_self]; rfl
    have h2 : (X ++ [x]).getD X.length zIt = x := by rw [List.getD_eq_getElem?_getD, List.getElem?_append_right (Nat.le_refl _), Nat.sub_self]; rfl
    rw [h1, h2]
    exact hG.sl (H := H ++ LC) (by rw [List.append_assoc]; exact hS) encCh_len
end Go.Proofs.YtmapmdldlcfjhaaGreatDoor
namespace Go.Sx
open Go Go.RowKit
section
variable {P : Program} {ops : Array Oper}
end
section
variable {P : Program} {N : Nat} {ρ : Nat → Value} {w0 w : World} {Q : Exit → Act → World → Prop} {H : List Blk}
theorem c_forget {C : Code} {ρ : Nat → Value} {w : World} (M : (Nat → Value) → Prop) (h0 : M ρ) (h : ∀ ρ, M ρ → C.wp P Q (act N ρ) w) : C.wp P Q (act N ρ) w := h ρ h0
end
end Go.Sx
namespace Go.Proofs.YtmapmdldlcfjhaaGreatDoor
open Go Go.RowKit Go.Sx
theorem firstE_none {α : Type} {f : α → Int} {l : List α} (h : ∀ x ∈ l, f x = 0) : firstE f l = 0 := by
  induction l with
  | nil => rfl
  | cons x l ih =>
    rw [firstE, if_pos (h x (List.mem_cons_self ..))]
    exact ih fun y hy => h y (List.mem_cons_of_mem _ hy)
end Go.Proofs.YtmapmdldlcfjhaaGreatDoor
namespace Go.Sx
open Go Go.RowKit Go.ChangeShapes Go.WideShapes Go.Proofs.YtmapmdldlcfjhaaGreatDoor
section
variable {H : Type} {enc : TypeId × Value → H} {P : Program} {w : World}
theorem add_add (a : Addr) (m n : Nat) : (a.add m).add n = a.add (m + n) := by
  obtain ⟨b, o, s⟩ := a
  unfold Addr.add
  by_cases hn : n = 0
  · subst hn; simp
  · by_cases hm : m = 0
    · subst hm; simp [hn]
    · simp [hn, hm, Nat.add_assoc]
theorem at_one {a : Addr} {u : Value} (h : w.cell? a = some u) : At w a [u] := At.one h
/-- An argument of type []uint16, read as a list of numbers. -/
theorem open_u16s {t e : TypeId} {v : Value} {d : DataW H} {ps : List MemPlace} {b0 : Nat} (ht : P.underlying t = some (.slice e)) (he : P.underlying e = some (.int .u16)) (hc : P.cellsOf e = 1)
    (hval : Value.okWide P w .any b0 t v) (h : DataW.Trod enc P w 0 (fun _ => true) true t v d ps) : ∃ l : List Nat, Sl (uk .u16) 1 w v l ∧ ∀ x ∈ l, x < 65536 := by
  obtain ⟨a0, len0, cap0, rfl⟩ := okWide_slice ht hval
  obtain ⟨fuel, hf⟩ := h
  rcases open_ints ht he hc hf with ⟨h1, _⟩ | ⟨a, len, cap, zs, h1, _, hlc, hm, hz, _, hcell, hw⟩
  · simp only [Value.cells, List.cons.injEq, and_true] at h1
    rw [h1]
    exact ⟨[], Sl.nil _ _ _, fun x hx => by cases hx⟩
  · simp only [Value.cells, List.cons.injEq, and_true] at h1
    rw [h1]
    have hzl : zs.length = cap := by simpa using hz
    have hb : ∀ n ∈ zs, 0 ≤ n ∧ n ≤ 65535 := fun n hn => bounds_u16 (hw n hn)
    have hl : ((zs.take len).map Int.toNat).length = len := by rw [List.length_map, List.length_take]; omega
    refine ⟨(zs.take len).map Int.toNat, ⟨⟨some a, cap, by rw [hl], by rw [hl]; exact hlc, hm, fun q => by cases q⟩, fun i hi => ?_⟩, fun x hx => ?_⟩
    · rw [hl] at hi
      have hi2 : i < zs.length := by omega
      have h2 := hcell i hi2
      have h3 : zs.getD i 0 = zs[i] := by rw [List.getD_eq_getElem?_getD, List.getElem?_eq_getElem hi2]; rfl
      have h4 := hb _ (List.getElem_mem hi2)
      rw [Nat.mul_one]
      refine at_one ?_
      show w.cell? (a.add i) = _
      rw [h2, h3, List.getElem_map, List.getElem_take, Int.toNat_of_nonneg h4.1]
    · obtain ⟨z, hz2, rfl⟩ := List.mem_map.1 hx
      have := hb z (List.mem_of_mem_take hz2)
      omega
/-- The arguments read behind the call as they did before. -/
theorem args_kept (hl : laidOutB P = true) {w' : World} (hb : Below w.heap.size w w') : ∀ {ts : List TypeId} {vs : List Value} {ds : List (DataW H)} {ps : List MemPlace}, (∀ t ∈ ts, P.readableRec t = true ∧ t < P.types.size) → (∀ x ∈ ps, x.block < w.heap.size) →
    DataW.TrodAll enc P w 0 (fun _ => true) true ts vs ds ps → DataW.TrodAll enc P w' 0 (fun b => decide (b < w.heap.size)) true ts vs ds ps
  | [], [], [], _, _, _, h => h
  | t :: ts, v :: vs, d :: ds, ps, hT, hlt, ⟨p, q, h1, h2, e⟩ => by
    subst e
    exact ⟨p, q, Below.trod hl (hT t (List.mem_cons_self ..)).1 (hT t (List.mem_cons_self ..)).2 h1 hb (fun x hx => hlt x (List.mem_append_left _ hx)),
      args_kept hl hb (fun t ht => hT t (List.mem_cons_of_mem _ ht)) (fun x hx => hlt x (List.mem_append_right _ hx)) h2, rfl⟩
  | [], [], _ :: _, _, _, _, h => h.elim
  | [], _ :: _, [], _, _, _, h => h.elim
  | [], _ :: _, _ :: _, _, _, _, h => h.elim
  | _ :: _, [], [], _, _, _, h => h.elim
  | _ :: _, [], _ :: _, _, _, _, h => h.elim
  | _ :: _, _ :: _, [], _, _, _, h => h.elim
/-- A law's last step: the call answers, and what was there is as it was. -/
theorem law_post {f : Func} {s : ChangeSpec} {w' : World} {args : Array Value} {v : Value} {ds gs : List (DataW H)} {before : List MemPlace} (hl : laidOutB P = true)
    (hW : DataW.Whole enc P f.params.toList s.vars false w args.toList ds gs before) (hT : ∀ t ∈ f.params.toList, P.readableRec t = true ∧ t < P.types.size) (hv : s.vars = []) (hb : Below w.heap.size w w')
    (hres : DataW.TrodAll enc P w' w.heap.size (fun _ => false) false f.resultTypes.toList (v.resultList f.resultTypes.size) (s.fn H (ds ++ gs)).results []) (hargs : (s.fn H (ds ++ gs)).args = ds) (hvars : (s.fn H (ds ++ gs)).vars = []) :
    s.post enc P f false true false false w args v w' := by
  have hlt : ∀ x ∈ before, x.block < w.heap.size := fun x hx => hW.lt x hx
  have hW2 := hW
  obtain ⟨p, q, h1, h2, rfl, _, _⟩ := hW
  rw [hv] at h2
  obtain ⟨rfl, rfl⟩ := trodVars_none h2
  rw [List.append_nil] at hlt
  refine ⟨ds, [], _, [], p, [], hW2, hres, ?_, ?_, hb.frame _, fun q => by cases q⟩
  · rw [hargs]; exact args_kept hl hb hT hlt h1
  · rw [hvars, hv]; exact rfl
end
end Go.Sx
namespace Go.Proofs.YtmapmdldlcfjhaaGreatDoor
open Go Go.RowKit Go.Sx Go.ChangeShapes Go.WideShapes Go.ChangeAt
theorem ownNone : ownKnob Tryz.prog.godebug = none := by kernel_rfl
theorem laidOut : laidOutB Tryz.prog = true := by kernel_rfl
end Go.Proofs.YtmapmdldlcfjhaaGreatDoor
namespace Go.Sx
open Go Go.RowKit
section
variable {P : Program} {N : Nat} {ρ : Nat → Value} {w0 w w' : World}
  {d : Option Tmp} {ty : TypeId} {pos : String} {aft : Array Edge} {g : Option (Nat × Bool)} {x y z : Operand} {t t' e : TypeId} {H : List Blk} {k b o : Nat} {v : Value} {K : Value → Prop} {K2 : Value → World → Prop}
theorem flat_elemG {α : Type} {enc : α → List Value} {size : Nat} (hu : ∀ x, (enc x).length = size) (L : List α) (sp : List Value) (d : α) {i : Nat} (hi : i < L.length) : ((L.flatMap enc ++ sp).drop (i * size)).take size = enc (L.getD i d) := by
  have h1 : (i + 1) * size ≤ L.length * size := Nat.mul_le_mul_right _ hi
  rw [Nat.add_mul] at h1
  have h2 := flat_len hu L
  rw [List.drop_append_of_le_length (by omega), List.take_append_of_le_length (by rw [List.length_drop]; omega)]
  exact flat_elem hu L d hi
theorem flat_setG {α : Type} {enc : α → List Value} {size : Nat} (hu : ∀ x, (enc x).length = size) (L : List α) (sp : List Value) (x : α) {i : Nat} (hi : i < L.length) : splice (L.flatMap enc ++ sp) (i * size) (enc x) = (L.set i x).flatMap enc ++ sp := by
  have h1 : (i + 1) * size ≤ L.length * size := Nat.mul_le_mul_right _ hi
  rw [Nat.add_mul] at h1
  have h2 := flat_len hu L
  rw [← flat_set hu L x hi]
  unfold splice
  rw [List.take_append_of_le_length (by omega), List.drop_append_of_le_length (by rw [hu]; omega)]
  simp
theorem s_ldS {α : Type} {enc : α → List Value} {size : Nat} {L : List α} {sp : List Value} {i : Nat} {zz : List Value} {agg : Bool} (dd : α) (hu : ∀ x, (enc x).length = size) (hx : ev N ρ x = .pointer (some ⟨b, o, none⟩)) (ht : vinfo P t = some (size, agg, zz)) (hS : St w0 w H) (hk : H[k]? = some (b, t', L.flatMap enc ++ sp))
    (ho : o = i * size) (hi : i < L.length) (hv : mkv agg (enc (L.getD i dd)) = v) (hagg : agg = true ∨ size = 1) (h : K v) : Read1 P N ρ w ⟨d, .load t x, ty, pos, aft, g⟩ K := by
  subst ho
  have hat := hS.at hk (i * size) size
  rw [flat_elemG hu L sp dd hi] at hat
  exact s_ld hx ht hat (hu _) hv hagg h
theorem s_stS {α : Type} {enc : α → List Value} {size : Nat} {L : List α} {sp : List Value} {i : Nat} {zz : List Value} {agg : Bool} (u : α) (hu : ∀ x, (enc x).length = size) (hx : ev N ρ x = .pointer (some ⟨b, o, none⟩)) (hy : ev N ρ y = v) (ht : vinfo P t = some (size, agg, zz)) (hS : St w0 w H) (hk : H[k]? = some (b, t', L.flatMap enc ++ sp))
    (ho : o = i * size) (hi : i < L.length) (hv : v.cells.toList = enc u) (h1 : (enc u).all (·.oneCell') = true)
    (h : ∀ w', St w0 w' (H.set k (b, t', (L.set i u).flatMap enc ++ sp)) → K2 undef w') : Hup1 P N ρ w ⟨d, .store t x y, ty, pos, aft, g⟩ K2 := by
  subst ho
  refine s_sta hx hy ht hS hk hv (hu u) ?_ h1 (fun w' hS' => ?_)
  · rw [List.length_append, flat_len hu]
    have : (i + 1) * size ≤ L.length * size := Nat.mul_le_mul_right _ hi
    rw [Nat.add_mul] at this; omega
  · rw [flat_setG hu L sp u hi] at hS'
    exact h w' hS'
theorem s_mkf1 {fn : Fn} (hx : ev N ρ x = v) (h : K (.func fn #[] #[v])) : Pure1 P N ρ ⟨d, .makeFunc fn #[] #[x], ty, pos, aft, g⟩ K :=
  ⟨_, fun w => (by simp [execOp, hx, Instr.makeFunc]), h⟩
end
end Go.Sx
namespace Go.Sx
open Go Go.RowKit
section
variable {α : Type}
/-- x behind a list, moved ahead of those at its end that it goes ahead of. -/
def insAt (lt : α → α → Bool) (S : List α) (x : α) : List α := (S.reverse.dropWhile (lt x)).reverse ++ x :: (S.reverse.takeWhile (lt x)).reverse
def isort (lt : α → α → Bool) (L : List α) : List α := L.foldl (insAt lt) []
theorem insAt_eq {lt : α → α → Bool} {A B : List α} {x : α} (hB : ∀ y ∈ B, lt x y = true) (hA : ∀ y, A.getLast? = some y → lt x y = false) : insAt lt (A ++ B) x = A ++ x :: B := by
  have h1 : A.reverse.takeWhile (lt x) = [] ∧ A.reverse.dropWhile (lt x) = A.reverse := by
    cases h : A.reverse with
    | nil => exact ⟨rfl, rfl⟩
    | cons y t =>
      have hy : A.getLast? = some y := by rw [← List.head?_reverse, h]; rfl
      have := hA y hy
      simp [this]
  unfold insAt
  rw [List.reverse_append, List.takeWhile_append_of_pos (fun y hy => hB y (List.mem_reverse.1 hy)), List.dropWhile_append_of_pos (fun y hy => hB y (List.mem_reverse.1 hy)), h1.1, h1.2]
  simp
theorem isort_snoc (lt : α → α → Bool) (L : List α) (x : α) : isort lt (L ++ [x]) = insAt lt (isort lt L) x := by unfold isort; rw [List.foldl_append]; rfl
theorem insAt_split (lt : α → α → Bool) (S : List α) (x : α) : ∃ A B, S = A ++ B ∧ insAt lt S x = A ++ x :: B ∧ (∀ y ∈ B, lt x y = true) ∧ ∀ y, A.getLast? = some y → lt x y = false := by
  refine ⟨(S.reverse.dropWhile (lt x)).reverse, (S.reverse.takeWhile (lt x)).reverse, ?_, rfl, fun y hy => ?_, fun y hy => ?_⟩
  · rw [← List.reverse_append, List.takeWhile_append_dropWhile, List.reverse_reverse]
  · rw [List.mem_reverse] at hy
    generalize S.reverse = T at hy
    induction T with
    | nil => cases hy
    | cons z T ih =>
      rw [List.takeWhile_cons] at hy
      split at hy
      · next h =>
        rcases List.mem_cons.1 hy with rfl | hy
        · exact h
        · exact ih hy
      · cases hy
  · rw [List.getLast?_reverse] at hy
    generalize S.reverse = T at hy
    induction T with
    | nil => cases hy
    | cons z T ih =>
      rw [List.dropWhile_cons] at hy
      split at hy
      · exact ih hy
      · next h =>
        obtain rfl : z = y := Option.some.inj hy
        exact Bool.eq_false_iff.2 h
theorem insAt_perm (lt : α → α → Bool) (S : List α) (x : α) : (insAt lt S x).Perm (x :: S) := by
  obtain ⟨A, B, rfl, e, _⟩ := insAt_split lt S x
  rw [e]
  exact List.perm_middle
theorem isort_perm (lt : α → α → Bool) (L : List α) : (isort lt L).Perm L := by
  have key : ∀ (L S : List α), (L.foldl (insAt lt) S).Perm (S ++ L) := by
    intro L
    induction L with
    | nil => intro S; simp
    | cons x L ih =>
      intro S
      rw [List.foldl_cons]
      refine (ih _).trans ?_
      refine ((insAt_perm lt S x).append_right L).trans ?_
      exact List.perm_middle.symm
  have := key L []
  rwa [List.nil_append] at this
theorem isort_len (lt : α → α → Bool) (L : List α) : (isort lt L).length = L.length := (isort_perm lt L).length_eq
/-- Sorted: nobody goes ahead of one that stands ahead of it; of two that go ahead of neither, the one that came first stands first. -/
theorem isort_sorted {lt : α → α → Bool} (hasym : ∀ a b, lt a b = true → lt b a = false) (hneg : ∀ a b c, lt a b = false → lt b c = false → lt a c = false) {L : List α} {R : α → α → Prop} (hL : L.Pairwise R) :
    (isort lt L).Pairwise fun a b => lt b a = false ∧ (lt a b = false → R a b) := by
  have key : ∀ k, k ≤ L.length → (isort lt (L.take k)).Pairwise fun a b => lt b a = false ∧ (lt a b = false → R a b) := by
    intro k
    induction k with
    | zero => intro _; exact List.Pairwise.nil
    | succ k ih =>
      intro hk
      have h0 := ih (by omega)
      have hkl : k < L.length := by omega
      rw [List.take_succ_eq_append_getElem hkl, isort_snoc]
      obtain ⟨A, B, e, e2, hB, hA⟩ := insAt_split lt (isort lt (L.take k)) L[k]
      have hmem : ∀ y ∈ isort lt (L.take k), R y L[k] := by
        intro y hy
        have hy' := (isort_perm lt (L.take k)).mem_iff.1 hy
        obtain ⟨i, hi, rfl⟩ := List.mem_iff_getElem.1 hy'
        rw [List.length_take] at hi
        rw [List.getElem_take]
        exact List.pairwise_iff_getElem.1 hL i k (by omega) hkl (by omega)
      rw [e] at h0 hmem
      rw [e2, List.pairwise_append]
      rw [List.pairwise_append] at h0
      obtain ⟨hA1, hB1, hAB⟩ := h0
      -- of the front: none of it is passed
      have hfront : ∀ y ∈ A, lt L[k] y = false := by
        intro y hy
        cases hl : A.getLast? with
        | none => rw [List.getLast?_eq_none_iff] at hl; subst hl; cases hy
        | some z =>
          have hz := hA z hl
          obtain ⟨A', rfl⟩ : ∃ A', A = A' ++ [z] := List.getLast?_eq_some_iff.1 hl
          rcases List.mem_append.1 hy with h | h
          · have := (List.pairwise_append.1 hA1).2.2 y h z (List.mem_singleton.2 rfl)
            exact hneg _ _ _ hz this.1
          · rw [List.mem_singleton] at h
            rw [h]; exact hz
      refine ⟨hA1, List.pairwise_cons.2 ⟨fun b hb => ?_, hB1⟩, fun a ha b hb => ?_⟩
      · have h1 := hB b hb
        exact ⟨hasym _ _ h1, fun h => by rw [h1] at h; cases h⟩
      · rcases List.mem_cons.1 hb with rfl | hb
        · exact ⟨hfront a ha, fun _ => hmem a (List.mem_append_left _ ha)⟩
        · exact hAB a ha b hb
  have := key L.length (Nat.le_refl _)
  rwa [List.take_length] at this
/-- The same order through a map. -/
theorem isort_map {β : Type} {lt : α → α → Bool} {lt' : β → β → Bool} {f : α → β} (h : ∀ x y, lt' (f x) (f y) = lt x y) (L : List α) : isort lt' (L.map f) = (isort lt L).map f := by
  have hins : ∀ (S : List α) (x : α), insAt lt' (S.map f) (f x) = (insAt lt S x).map f := by
    intro S x
    obtain ⟨A, B, e, e2, hB, hA⟩ := insAt_split lt S x
    rw [e2, e, List.map_append, insAt_eq (fun y hy => ?_) (fun y hy => ?_)]
    · simp
    · obtain ⟨z, hz, rfl⟩ := List.mem_map.1 hy
      rw [h]; exact hB z hz
    · rw [List.getLast?_map] at hy
      cases hl : A.getLast? with
      | none => rw [hl] at hy; cases hy
      | some z =>
        rw [hl] at hy
        obtain rfl : f z = y := Option.some.inj hy
        rw [h]; exact hA z hl
  have key : ∀ k, k ≤ L.length → isort lt' ((L.take k).map f) = (isort lt (L.take k)).map f := by
    intro k
    induction k with
    | zero => intro _; rfl
    | succ k ih =>
      intro hk
      rw [List.take_succ_eq_append_getElem (by omega), List.map_append, List.map_cons, List.map_nil, isort_snoc, isort_snoc, ih (by omega), hins]
  have := key L.length (Nat.le_refl _)
  rwa [List.take_length] at this
end
end Go.Sx
namespace Go.Proofs.YtmapmdldlcfjhaaGreatDoor
open Go Go.RowKit Go.Sx
/-- What a comparing function is asked: on what is sorted, it answers c, and makes memory alone. -/
def CmpOk (f : FuncId) (cap : List Value) (c : Int → Int → Int) (D : List Int) (w0 : World) (b : Nat) (t : TypeId) (H : List Blk) : Prop :=
  (∀ args w, (callFunc f args).run Tryz.prog w = .ok (.enter f args) w) ∧
  ∀ cs x y w', St w0 w' ((b, t, cs) :: H) → x ∈ D → y ∈ D → Ret Tryz.prog f ([Value.int .i64 x, Value.int .i64 y] ++ cap).toArray w' fun v w'' => v = .int .i64 (c x y) ∧ Below w'.heap.size w' w''
def ltC (c : Int → Int → Int) (x y : Int) : Bool := decide (c x y < 0)
theorem getD_at {α : Type} (A B : List α) (x d : α) : (A ++ x :: B).getD A.length d = x := by
  rw [List.getD_eq_getElem?_getD, List.getElem?_append_right (Nat.le_refl _), Nat.sub_self]; rfl
theorem set_at {α : Type} (A B : List α) (x y : α) : (A ++ x :: B).set A.length y = A ++ y :: B := by
  rw [List.set_append_right _ _ (Nat.le_refl _), Nat.sub_self]; rfl
set_option maxHeartbeats 1000000 in
theorem insertionSort_ok {f : FuncId} {cap : List Value} {c : Int → Int → Int} {D : List Int} {w0 : World} {b : Nat} {t : TypeId} {H : List Blk} (hc : CmpOk f cap c D w0 b t H) (Pre M Suf : List Int) (sp : List Value) (n cp a e : Nat)
    (hn : Pre.length + M.length + Suf.length = n) (ha : a = Pre.length) (he : e = Pre.length + M.length) (hD : ∀ x ∈ M, x ∈ D) (hmax : n ≤ 1000000) (w : World) (hS : St w0 w ((b, t, (Pre ++ M ++ Suf).flatMap enI ++ sp) :: H)) :
    Ret Tryz.prog 116 #[.slice (some ⟨b, 0, none⟩) n cp, .int .i64 a, .int .i64 e, .func (.func f) #[] cap.toArray] w fun v w' => v = .tuple #[] ∧ St w0 w' ((b, t, (Pre ++ isort (ltC c) M ++ Suf).flatMap enI ++ sp) :: H) := by
  obtain ⟨hcall, hcmp⟩ := hc
  refine enter Tryz.func116 rfl Tryz.ntmps116 rfl ?_
  repeat (with_reducible first | refine c_seq ?_ | refine c_block ?_ | refine c_skip ?_ | refine x_then ?_ | refine x_block ?_)
  refine c_reg ?_
  refine l_pure rfl (s_move  rfl ?_)
  refine l_pure rfl (s_add  rfl rfl (IntWalk.i64_in _ (by omega)) ?_)
  refine l_pure rfl (s_asg  rfl ?_)
  refine l_nil ?_
  repeat (with_reducible first | refine c_seq ?_ | refine c_block ?_ | refine c_skip ?_ | refine x_then ?_ | refine x_block ?_)
  refine c_loop (σ := Nat) (fun k ρ w' => 1 ≤ k ∧ (k ≤ M.length ∨ M.length = 0) ∧ ρ 0 = .slice (some ⟨b, 0, none⟩) n cp ∧ ρ 1 = .int .i64 a ∧ ρ 2 = .int .i64 e ∧ ρ 3 = .func (.func f) #[] cap.toArray ∧ ρ 8 = .int .i64 ((a : Int) + k) ∧
      St w0 w' ((b, t, (Pre ++ isort (ltC c) (M.take k) ++ (M.drop k ++ Suf)).flatMap enI ++ sp) :: H)) (fun k => M.length + 1 - k) 1
    ⟨Nat.le_refl _, by omega, rfl, rfl, rfl, rfl, rfl, ?_⟩ ?_
  · have e1 : Pre ++ isort (ltC c) (M.take 1) ++ (M.drop 1 ++ Suf) = Pre ++ M ++ Suf := by
      cases M with
      | nil => rfl
      | cons x M => show Pre ++ [x] ++ (M ++ Suf) = _; simp
    rw [e1]; exact hS
  clear hS
  rintro k ρ w2 ⟨hk1, hkM, h0, h1, h2, h3, h8, hS⟩
  repeat (with_reducible first | refine c_seq ?_ | refine c_block ?_ | refine c_skip ?_ | refine x_then ?_ | refine x_block ?_)
  refine c_reg ?_
  refine l_pure rfl (s_move  h8 ?_)
  refine l_pure rfl (s_move  h2 ?_)
  refine l_pure rfl (s_lss  rfl rfl ?_)
  refine l_nil ?_
  repeat (with_reducible first | refine c_seq ?_ | refine c_block ?_ | refine c_skip ?_ | refine x_then ?_ | refine x_block ?_)
  by_cases hlt : k < M.length
  · refine c_yes rfl (decide_eq_true (by omega)) ?_
    repeat (with_reducible first | refine c_seq ?_ | refine c_block ?_ | refine c_skip ?_ | refine x_then ?_ | refine x_block ?_)
    obtain ⟨x, hx⟩ : ∃ x, x = M.getD k 0 := ⟨_, rfl⟩
    obtain ⟨S, hSe⟩ : ∃ S, S = isort (ltC c) (M.take k) := ⟨_, rfl⟩
    obtain ⟨R, hR⟩ : ∃ R, R = M.drop (k + 1) ++ Suf := ⟨_, rfl⟩
    have hSl : S.length = k := by rw [hSe, isort_len, List.length_take]; omega
    have hRl : R.length = M.length - (k + 1) + Suf.length := by rw [hR, List.length_append, List.length_drop]
    have hxD : x ∈ D := hD x (by rw [hx]; exact getD_mem M k 0 hlt)
    have hSD : ∀ y ∈ S, y ∈ D := fun y hy => by
      rw [hSe] at hy
      exact hD y (List.mem_of_mem_take ((isort_perm _ _).mem_iff.1 hy))
    have hdr : M.drop k ++ Suf = x :: R := by
      rw [List.drop_eq_getElem_cons hlt, hR, hx, List.getD_eq_getElem?_getD, List.getElem?_eq_getElem hlt]; rfl
    have hnx : isort (ltC c) (M.take (k + 1)) = insAt (ltC c) S x := by
      rw [take_succ' M k 0 hlt, isort_snoc, ← hx, ← hSe]
    rw [← hSe, hdr] at hS
    repeat (with_reducible first | refine c_seq ?_ | refine c_block ?_ | refine c_skip ?_ | refine x_then ?_ | refine x_block ?_)
    refine c_reg ?_
    refine l_pure rfl (s_move  h8 ?_)
    refine l_pure rfl (s_asg  rfl ?_)
    refine l_nil ?_
    repeat (with_reducible first | refine c_seq ?_ | refine c_skip ?_ | refine x_then ?_ | refine x_block ?_)
    refine c_cut1 (fun ρ w' => ρ 0 = .slice (some ⟨b, 0, none⟩) n cp ∧ ρ 1 = .int .i64 a ∧ ρ 2 = .int .i64 e ∧ ρ 3 = .func (.func f) #[] cap.toArray ∧ ρ 8 = .int .i64 ((a : Int) + k) ∧ St w0 w' ((b, t, (Pre ++ insAt (ltC c) S x ++ R).flatMap enI ++ sp) :: H)) ?_ ?_
    · repeat (with_reducible first | refine c_seq ?_ | refine c_block ?_ | refine c_skip ?_ | refine x_then ?_ | refine x_block ?_)
      refine c_loop (σ := List Int × List Int) (fun s ρ w' => S = s.1 ++ s.2 ∧ (∀ y ∈ s.2, ltC c x y = true) ∧ ρ 0 = .slice (some ⟨b, 0, none⟩) n cp ∧ ρ 1 = .int .i64 a ∧ ρ 2 = .int .i64 e ∧ ρ 3 = .func (.func f) #[] cap.toArray ∧ ρ 8 = .int .i64 ((a : Int) + k) ∧ ρ 9 = .int .i64 ((a : Int) + s.1.length) ∧
          St w0 w' ((b, t, (Pre ++ s.1 ++ x :: (s.2 ++ R)).flatMap enI ++ sp) :: H)) (fun s => s.1.length) (S, [])
        ⟨(List.append_nil _).symm, (fun y hy => (by cases hy)), by assumption, by assumption, by assumption, by assumption, by assumption, vi rfl (by rw [hSl]), hS⟩ ?_
      clear hS
      rintro ⟨A, B⟩ ρ w3 ⟨hAB, hB, h0, h1, h2, h3, h8, h9, hS⟩
      simp only at hAB hB h9 hS
      have hABl : A.length + B.length = k := by rw [← List.length_append, ← hAB, hSl]
      have hLl : (Pre ++ A ++ x :: (B ++ R)).length = n := by simp only [List.length_append, List.length_cons]; omega
      repeat (with_reducible first | refine c_seq ?_ | refine c_block ?_ | refine c_skip ?_ | refine x_then ?_ | refine x_block ?_)
      rcases List.eq_nil_or_concat A with hA | ⟨A', y, hA⟩
      · subst hA
        repeat (with_reducible first | refine c_seq ?_ | refine c_block ?_ | refine c_skip ?_ | refine x_then ?_ | refine x_block ?_)
        refine c_draw [(0, .pure), (1, .pure), (2, .pure), (3, .pure), (4, .pure), (5, .pure), (6, .pure), (7, .pure), (8, .read), (9, .pure), (10, .pure), (11, .pure), (12, .pure), (13, .read), (14, .grow), (15, .pure), (16, .pure)] (by kernel_rfl) (by kernel_rfl) hS ?_
        intro wz1 hS hBz1
        refine w_pure rfl rfl (s_move  h9 ?_)
        refine w_pure rfl rfl (s_move  h1 ?_)
        refine w_pure rfl rfl (s_gtr  rfl rfl ?_)
        refine w_pure rfl rfl (s_move  rfl ?_)
        refine w_no rfl (gno_yes 21 (by kernel_rfl) rfl (decide_eq_false (by simp))) ?_
        refine w_no rfl (gno_yes 21 (by kernel_rfl) rfl (decide_eq_false (by simp))) ?_
        refine w_no rfl (gno_yes 21 (by kernel_rfl) rfl (decide_eq_false (by simp))) ?_
        refine w_no rfl (gno_yes 21 (by kernel_rfl) rfl (decide_eq_false (by simp))) ?_
        refine w_no rfl (gno_yes 21 (by kernel_rfl) rfl (decide_eq_false (by simp))) ?_
        refine w_no rfl (gno_yes 21 (by kernel_rfl) rfl (decide_eq_false (by simp))) ?_
        refine w_no rfl (gno_yes 21 (by kernel_rfl) rfl (decide_eq_false (by simp))) ?_
        refine w_no rfl (gno_yes 21 (by kernel_rfl) rfl (decide_eq_false (by simp))) ?_
        refine w_no rfl (gno_yes 21 (by kernel_rfl) rfl (decide_eq_false (by simp))) ?_
        refine w_no rfl (gno_yes 21 (by kernel_rfl) rfl (decide_eq_false (by simp))) ?_
        refine w_no rfl (gno_yes 21 (by kernel_rfl) rfl (decide_eq_false (by simp))) ?_
        refine w_no rfl (gno_yes 21 (by kernel_rfl) rfl (decide_eq_false (by simp))) ?_
        refine w_pure rfl rfl (s_pick (vb rfl (decide_eq_false (by simp))) rfl ?_)
        refine w_end ?_
        repeat (with_reducible first | refine c_seq ?_ | refine c_block ?_ | refine c_skip ?_ | refine x_then ?_ | refine x_block ?_)
        refine c_no rfl (rfl) ?_
        repeat (with_reducible first | refine c_seq ?_ | refine c_block ?_ | refine c_skip ?_ | refine x_then ?_ | refine x_block ?_)
        refine c_exit ?_
        repeat (with_reducible first | refine x_then_exit ?_ | refine x_block_exit ?_ | refine x_block_pass rfl ?_)
        repeat (with_reducible first | refine c_seq ?_ | refine c_block ?_ | refine c_skip ?_ | refine x_then ?_ | refine x_block ?_)
        refine ⟨_, rfl, by assumption, by assumption, by assumption, by assumption, by assumption, ?_⟩
        rw [hAB, insAt_eq hB (fun y hy => by cases hy)]
        simpa using hS
      · rw [List.concat_eq_append] at hA
        subst hA
        have hA'l : (A' ++ [y]).length = A'.length + 1 := by simp
        have hyD : y ∈ D := hSD y (by rw [hAB]; simp)
        have hg1 : (Pre ++ (A' ++ [y]) ++ x :: (B ++ R)).getD (a + A'.length + 1) 0 = x := by
          rw [show a + A'.length + 1 = (Pre ++ (A' ++ [y])).length by simp [ha]; omega]
          exact getD_at _ _ _ _
        have hg2 : (Pre ++ (A' ++ [y]) ++ x :: (B ++ R)).getD (a + A'.length) 0 = y := by
          rw [show Pre ++ (A' ++ [y]) ++ x :: (B ++ R) = (Pre ++ A') ++ y :: (x :: (B ++ R)) by simp, show a + A'.length = (Pre ++ A').length by simp [ha]]
          exact getD_at _ _ _ _
        repeat (with_reducible first | refine c_seq ?_ | refine c_block ?_ | refine c_skip ?_ | refine x_then ?_ | refine x_block ?_)
        refine c_draw [(0, .pure), (1, .pure), (2, .pure), (3, .pure), (4, .pure), (5, .pure), (6, .pure), (7, .pure), (8, .read), (9, .pure), (10, .pure), (11, .pure), (12, .pure), (13, .read), (14, .grow), (15, .pure), (16, .pure)] (by kernel_rfl) (by kernel_rfl) hS ?_
        intro wz2 hS hBz2
        refine w_pure rfl rfl (s_move  h9 ?_)
        refine w_pure rfl rfl (s_move  h1 ?_)
        refine w_pure rfl rfl (s_gtr  rfl rfl ?_)
        refine w_pure rfl rfl (s_move  rfl ?_)
        refine w_pure rfl (gd_yes 21 (by kernel_rfl) rfl (decide_eq_true (by omega))) (s_move  h3 ?_)
        refine w_pure rfl (gd_yes 21 (by kernel_rfl) rfl (decide_eq_true (by omega))) (s_move  h0 ?_)
        refine w_pure rfl (gd_yes 21 (by kernel_rfl) rfl (decide_eq_true (by omega))) (s_move  h9 ?_)
        refine w_pure rfl (gd_yes 21 (by kernel_rfl) rfl (decide_eq_true (by omega))) (s_ixo (i := a + A'.length + 1)  rfl rfl (by omega) (by first | omega | (simp; done) | (simp; omega)) si_65 ?_)
        refine w_read rfl (gd_yes 21 (by kernel_rfl) rfl (decide_eq_true (by omega))) (s_ldS (k := 0) (i := a + A'.length + 1) (enc := enI) 0 (fun _ => rfl)  rfl vi_3 hS rfl (by first | omega | simp) (by first | omega | (simp; done) | (simp; omega)) rfl (.inr rfl) ?_)
        refine w_pure rfl (gd_yes 21 (by kernel_rfl) rfl (decide_eq_true (by omega))) (s_move  h0 ?_)
        refine w_pure rfl (gd_yes 21 (by kernel_rfl) rfl (decide_eq_true (by omega))) (s_move  h9 ?_)
        refine w_pure rfl (gd_yes 21 (by kernel_rfl) rfl (decide_eq_true (by omega))) (s_sub  rfl rfl (IntWalk.i64_in _ (by omega)) ?_)
        refine w_pure rfl (gd_yes 21 (by kernel_rfl) rfl (decide_eq_true (by omega))) (s_ixo (i := a + A'.length)  rfl rfl (by omega) (by first | omega | (simp; done) | (simp; omega)) si_65 ?_)
        refine w_read rfl (gd_yes 21 (by kernel_rfl) rfl (decide_eq_true (by omega))) (s_ldS (k := 0) (i := a + A'.length) (enc := enI) 0 (fun _ => rfl)  rfl vi_3 hS rfl (by first | omega | simp) (by first | omega | (simp; done) | (simp; omega)) rfl (.inr rfl) ?_)
        rw [hg1, hg2]
        refine w_grow rfl (gd_yes 21 (by kernel_rfl) rfl (decide_eq_true (by omega))) (s_callv hcall rfl rfl (hcmp _ x y _ hS hxD hyD) ?_)
        rintro r w4 ⟨rfl, hB4⟩
        refine ⟨hB4, ?_⟩
        replace hS := hS.grow hB4
        refine w_pure rfl (gd_yes 21 (by kernel_rfl) rfl (decide_eq_true (by omega))) (s_lss  rfl rfl ?_)
        refine w_pure rfl rfl (s_pick (vb rfl (decide_eq_true (by omega))) rfl ?_)
        refine w_end ?_
        repeat (with_reducible first | refine c_seq ?_ | refine c_block ?_ | refine c_skip ?_ | refine x_then ?_ | refine x_block ?_)
        by_cases hcy : c x y < 0
        · refine c_yes rfl (decide_eq_true hcy) ?_
          repeat (with_reducible first | refine c_seq ?_ | refine c_block ?_ | refine c_skip ?_ | refine x_then ?_ | refine x_block ?_)
          refine c_forget (fun ρ' => ρ' 0 = .slice (some ⟨b, 0, none⟩) n cp ∧ ρ' 1 = .int .i64 a ∧ ρ' 2 = .int .i64 e ∧ ρ' 3 = .func (.func f) #[] cap.toArray ∧ ρ' 8 = .int .i64 ((a : Int) + k) ∧ ρ' 9 = .int .i64 ((a : Int) + (A' ++ [y]).length) ∧ True) ⟨h0, h1, h2, h3, h8, h9, trivial⟩ ?_
          rintro ρk3 ⟨hk3_0, hk3_1, hk3_2, hk3_3, hk3_8, hk3_9, -⟩
          have hset : ((Pre ++ (A' ++ [y]) ++ x :: (B ++ R)).set (a + A'.length + 1) y).set (a + A'.length) x = Pre ++ A' ++ x :: (y :: B ++ R) := by
            rw [show a + A'.length + 1 = (Pre ++ (A' ++ [y])).length by simp [ha]; omega, set_at, show Pre ++ (A' ++ [y]) ++ y :: (B ++ R) = (Pre ++ A') ++ y :: (y :: (B ++ R)) by simp, show a + A'.length = (Pre ++ A').length by simp [ha], set_at]
            simp
          repeat (with_reducible first | refine c_seq ?_ | refine c_block ?_ | refine c_skip ?_ | refine x_then ?_ | refine x_block ?_)
          refine c_draw [(0, .pure), (1, .pure), (2, .pure), (3, .pure), (4, .pure), (5, .pure), (6, .pure), (7, .pure), (8, .pure), (9, .read), (10, .pure), (11, .pure), (12, .pure), (13, .read), (14, .pure), (15, .free), (16, .pure), (17, .free)] (by kernel_rfl) (by kernel_rfl) hS ?_
          intro wz4 hS hBz4
          refine w_pure rfl rfl (s_move  hk3_0 ?_)
          refine w_pure rfl rfl (s_move  hk3_9 ?_)
          refine w_pure rfl rfl (s_move  hk3_0 ?_)
          refine w_pure rfl rfl (s_move  hk3_9 ?_)
          refine w_pure rfl rfl (s_sub  rfl rfl (IntWalk.i64_in _ (by omega)) ?_)
          refine w_pure rfl rfl (s_move  hk3_0 ?_)
          refine w_pure rfl rfl (s_move  hk3_9 ?_)
          refine w_pure rfl rfl (s_sub  rfl rfl (IntWalk.i64_in _ (by omega)) ?_)
          refine w_pure rfl rfl (s_ixo (i := a + A'.length)  rfl rfl (by omega) (by first | omega | (simp; done) | (simp; omega)) si_65 ?_)
          refine w_read rfl rfl (s_ldS (k := 0) (i := a + A'.length) (enc := enI) (v := .int .i64 y) 0 (fun _ => rfl)  rfl vi_3 hS rfl (by simp) (by omega) (by rw [hg2]; rfl) (.inr rfl) ?_)
          refine w_pure rfl rfl (s_move  hk3_0 ?_)
          refine w_pure rfl rfl (s_move  hk3_9 ?_)
          refine w_pure rfl rfl (s_ixo (i := a + A'.length + 1)  rfl rfl (by omega) (by first | omega | (simp; done) | (simp; omega)) si_65 ?_)
          refine w_read rfl rfl (s_ldS (k := 0) (i := a + A'.length + 1) (enc := enI) (v := .int .i64 x) 0 (fun _ => rfl)  rfl vi_3 hS rfl (by simp) (by omega) (by rw [hg1]; rfl) (.inr rfl) ?_)
          refine w_pure rfl rfl (s_ixo (i := a + A'.length + 1)  rfl rfl (by omega) (by first | omega | (simp; done) | (simp; omega)) si_65 ?_)
          refine w_free rfl rfl (s_stS (k := 0) (i := a + A'.length + 1) (enc := enI) y (fun _ => rfl)  rfl rfl vi_3 hS rfl (by first | omega | simp) (by first | omega | (simp; done) | (simp; omega)) rfl rfl ?_)
          intro wz5 hS
          refine w_pure rfl rfl (s_ixo (i := a + A'.length)  rfl rfl (by omega) (by first | omega | (simp; done) | (simp; omega)) si_65 ?_)
          refine w_free rfl rfl (s_stS (k := 0) (i := a + A'.length) (enc := enI) x (fun _ => rfl)  rfl rfl vi_3 hS rfl (by first | omega | simp) (by first | omega | (simp; done) | (simp; omega)) rfl rfl ?_)
          intro wz6 hS
          refine w_end ?_
          repeat (with_reducible first | refine c_seq ?_ | refine c_block ?_ | refine c_skip ?_ | refine x_then ?_ | refine x_block ?_)
          refine c_reg ?_
          refine l_pure rfl (s_move  hk3_9 ?_)
          refine l_pure rfl (s_sub  rfl rfl (IntWalk.i64_in _ (by omega)) ?_)
          refine l_pure rfl (s_asg  rfl ?_)
          refine l_nil ?_
          repeat (with_reducible first | refine c_seq ?_ | refine c_block ?_ | refine c_skip ?_ | refine x_then ?_ | refine x_block ?_)
          replace hS : St w0 _ ((b, t, (((Pre ++ (A' ++ [y]) ++ x :: (B ++ R)).set (a + A'.length + 1) y).set (a + A'.length) x).flatMap enI ++ sp) :: H) := hS
          rw [hset] at hS
          exact ⟨(A', y :: B), _, rfl, ⟨by rw [hAB]; simp, fun z hz => (List.mem_cons.1 hz).elim (fun e => by rw [e]; exact decide_eq_true hcy) (hB z), by assumption, by assumption, by assumption, by assumption, by assumption, vi rfl (show (a : Int) + ((A' ++ [y]).length : Nat) - 1 = (a : Int) + (A'.length : Nat) by omega), hS⟩, (show A'.length < (A' ++ [y]).length by omega)⟩
        · refine c_no rfl (decide_eq_false hcy) ?_
          repeat (with_reducible first | refine c_seq ?_ | refine c_block ?_ | refine c_skip ?_ | refine x_then ?_ | refine x_block ?_)
          refine c_exit ?_
          repeat (with_reducible first | refine x_then_exit ?_ | refine x_block_exit ?_ | refine x_block_pass rfl ?_)
          repeat (with_reducible first | refine c_seq ?_ | refine c_block ?_ | refine c_skip ?_ | refine x_then ?_ | refine x_block ?_)
          refine ⟨_, rfl, by assumption, by assumption, by assumption, by assumption, by assumption, ?_⟩
          rw [hAB, insAt_eq hB (fun z hz => by
            rw [List.getLast?_append, List.getLast?_singleton] at hz
            obtain rfl : y = z := by simpa using hz
            exact decide_eq_false hcy)]
          simpa using hS
    clear hS
    rintro ρ w3 ⟨h0, h1, h2, h3, h8, hS⟩
    repeat (with_reducible first | refine c_seq ?_ | refine c_block ?_ | refine c_skip ?_ | refine x_then ?_ | refine x_block ?_)
    refine c_reg ?_
    refine l_pure rfl (s_move  h8 ?_)
    refine l_pure rfl (s_add  rfl rfl (IntWalk.i64_in _ (by omega)) ?_)
    refine l_pure rfl (s_asg  rfl ?_)
    refine l_nil ?_
    repeat (with_reducible first | refine c_seq ?_ | refine c_block ?_ | refine c_skip ?_ | refine x_then ?_ | refine x_block ?_)
    exact ⟨k + 1, _, rfl, ⟨by omega, .inl hlt, by assumption, by assumption, by assumption, by assumption, vi rfl (by omega), by rw [hnx, ← hR]; exact hS⟩, by omega⟩
  · refine c_no rfl (decide_eq_false (by omega)) ?_
    repeat (with_reducible first | refine c_seq ?_ | refine c_block ?_ | refine c_skip ?_ | refine x_then ?_ | refine x_block ?_)
    refine c_exit ?_
    repeat (with_reducible first | refine x_then_exit ?_ | refine x_block_exit ?_ | refine x_block_pass rfl ?_)
    repeat (with_reducible first | refine c_seq ?_ | refine c_block ?_ | refine c_skip ?_ | refine x_then ?_ | refine x_block ?_)
    have e1 : M.take k = M := List.take_of_length_le (by omega)
    have e2 : M.drop k = [] := List.drop_of_length_le (by omega)
    rw [e1, e2] at hS
    refine r_none rfl ⟨rfl, ?_⟩
    simpa using hS
end Go.Proofs.YtmapmdldlcfjhaaGreatDoor
namespace Go.Proofs.YtmapmdldlcfjhaaGreatDoor
open Go Go.RowKit Go.Sx
set_option maxHeartbeats 1000000 in
theorem stable_ok {f : FuncId} {cap : List Value} {c : Int → Int → Int} {w0 : World} {b : Nat} {t : TypeId} {H : List Blk} (L : List Int) (hc : CmpOk f cap c L w0 b t H) (sp : List Value) (n cp : Nat)
    (hn : L.length = n) (h20 : n ≤ 20) (w : World) (hS : St w0 w ((b, t, L.flatMap enI ++ sp) :: H)) :
    Ret Tryz.prog 86 #[.slice (some ⟨b, 0, none⟩) n cp, .int .i64 n, .func (.func f) #[] cap.toArray] w fun v w' => v = .tuple #[] ∧ St w0 w' ((b, t, (isort (ltC c) L).flatMap enI ++ sp) :: H) := by
  have hl := isort_len (ltC c) L
  refine enter Tryz.func86 rfl Tryz.ntmps86 rfl ?_
  repeat (with_reducible first | refine c_seq ?_ | refine c_block ?_ | refine c_skip ?_ | refine x_then ?_ | refine x_block ?_)
  refine c_reg ?_
  refine l_pure rfl (s_asg  rfl ?_)
  refine l_nil ?_
  repeat (with_reducible first | refine c_seq ?_ | refine c_block ?_ | refine c_skip ?_ | refine x_then ?_ | refine x_block ?_)
  refine c_reg ?_
  refine l_pure rfl (s_move  rfl ?_)
  refine l_pure rfl (s_asg  rfl ?_)
  refine l_pure rfl (s_asg  rfl ?_)
  refine l_nil ?_
  repeat (with_reducible first | refine c_seq ?_ | refine c_skip ?_ | refine x_then ?_ | refine x_block ?_)
  refine c_cut1 (fun ρ w' => ρ 0 = .slice (some ⟨b, 0, none⟩) n cp ∧ ρ 1 = .int .i64 n ∧ ρ 2 = .func (.func f) #[] cap.toArray ∧ ρ 6 = .int .i64 20 ∧ ((ρ 7 = .int .i64 0 ∧ St w0 w' ((b, t, L.flatMap enI ++ sp) :: H)) ∨ (ρ 7 = .int .i64 n ∧ St w0 w' ((b, t, (isort (ltC c) L).flatMap enI ++ sp) :: H)))) ?_ ?_
  · repeat (with_reducible first | refine c_seq ?_ | refine c_block ?_ | refine c_skip ?_ | refine x_then ?_ | refine x_block ?_)
    refine c_loop (σ := Nat) (fun d ρ w' => ρ 0 = .slice (some ⟨b, 0, none⟩) n cp ∧ ρ 1 = .int .i64 n ∧ ρ 2 = .func (.func f) #[] cap.toArray ∧ ρ 6 = .int .i64 20 ∧ d ≤ 1 ∧
        ((d = 0 ∧ ρ 7 = .int .i64 0 ∧ ρ 8 = .int .i64 20 ∧ St w0 w' ((b, t, L.flatMap enI ++ sp) :: H)) ∨ (d = 1 ∧ n = 20 ∧ ρ 7 = .int .i64 20 ∧ ρ 8 = .int .i64 40 ∧ St w0 w' ((b, t, (isort (ltC c) L).flatMap enI ++ sp) :: H)))) (fun d => 1 - d) 0
      ⟨rfl, rfl, rfl, rfl, by omega, .inl ⟨rfl, rfl, rfl, hS⟩⟩ ?_
    clear hS
    rintro d ρ w2 ⟨h0, h1, h2, h6, hd, ⟨rfl, h7, h8, hS⟩ | ⟨rfl, hn20, h7, h8, hS⟩⟩
    · repeat (with_reducible first | refine c_seq ?_ | refine c_block ?_ | refine c_skip ?_ | refine x_then ?_ | refine x_block ?_)
      repeat (with_reducible first | refine c_seq ?_ | refine c_block ?_ | refine c_skip ?_ | refine x_then ?_ | refine x_block ?_)
      refine c_reg ?_
      refine l_pure rfl (s_move  h8 ?_)
      refine l_pure rfl (s_move  h1 ?_)
      refine l_pure rfl (s_leq  rfl rfl ?_)
      refine l_nil ?_
      repeat (with_reducible first | refine c_seq ?_ | refine c_block ?_ | refine c_skip ?_ | refine x_then ?_ | refine x_block ?_)
      by_cases hlt : n = 20
      · refine c_yes rfl (decide_eq_true (by omega)) ?_
        repeat (with_reducible first | refine c_seq ?_ | refine c_block ?_ | refine c_skip ?_ | refine x_then ?_ | refine x_block ?_)
        subst hlt
        repeat (with_reducible first | refine c_seq ?_ | refine c_block ?_ | refine c_skip ?_ | refine x_then ?_ | refine x_block ?_)
        refine c_reg ?_
        refine l_pure rfl (s_move  h0 ?_)
        refine l_pure rfl (s_move  h7 ?_)
        refine l_pure rfl (s_move  h8 ?_)
        refine l_pure rfl (s_move  h2 ?_)
        have hS2 : St w0 w2 ((b, t, ([] ++ L ++ []).flatMap enI ++ sp) :: H) := by simpa using hS
        refine l_heavy rfl (s_call Tryz.call116 rfl (insertionSort_ok hc [] L [] sp 20 cp 0 20 (by simp [hn]) rfl (by simp [hn]) (fun _ h => h) (by omega) _ hS2) ?_)
        rintro r w3 ⟨rfl, hS3⟩
        replace hS3 : St w0 w3 ((b, t, (isort (ltC c) L).flatMap enI ++ sp) :: H) := by simpa using hS3
        clear hS hS2
        have hS := hS3
        refine l_nil ?_
        repeat (with_reducible first | refine c_seq ?_ | refine c_block ?_ | refine c_skip ?_ | refine x_then ?_ | refine x_block ?_)
        refine c_reg ?_
        refine l_pure rfl (s_move  h8 ?_)
        refine l_pure rfl (s_asg  rfl ?_)
        refine l_nil ?_
        repeat (with_reducible first | refine c_seq ?_ | refine c_block ?_ | refine c_skip ?_ | refine x_then ?_ | refine x_block ?_)
        refine c_reg ?_
        refine l_pure rfl (s_move  h8 ?_)
        refine l_pure rfl (s_move  h6 ?_)
        refine l_pure rfl (s_add  rfl rfl (IntWalk.i64_in _ (by omega)) ?_)
        refine l_pure rfl (s_asg  rfl ?_)
        refine l_nil ?_
        repeat (with_reducible first | refine c_seq ?_ | refine c_block ?_ | refine c_skip ?_ | refine x_then ?_ | refine x_block ?_)
        exact ⟨1, _, rfl, ⟨by assumption, by assumption, by assumption, by assumption, by omega, .inr ⟨rfl, rfl, rfl, vi rfl (by omega), hS⟩⟩, by omega⟩
      · refine c_no rfl (decide_eq_false (by omega)) ?_
        repeat (with_reducible first | refine c_seq ?_ | refine c_block ?_ | refine c_skip ?_ | refine x_then ?_ | refine x_block ?_)
        refine c_exit ?_
        repeat (with_reducible first | refine x_then_exit ?_ | refine x_block_exit ?_ | refine x_block_pass rfl ?_)
        repeat (with_reducible first | refine c_seq ?_ | refine c_block ?_ | refine c_skip ?_ | refine x_then ?_ | refine x_block ?_)
        exact ⟨_, rfl, by assumption, by assumption, by assumption, by assumption, .inl ⟨by assumption, hS⟩⟩
    · repeat (with_reducible first | refine c_seq ?_ | refine c_block ?_ | refine c_skip ?_ | refine x_then ?_ | refine x_block ?_)
      repeat (with_reducible first | refine c_seq ?_ | refine c_block ?_ | refine c_skip ?_ | refine x_then ?_ | refine x_block ?_)
      refine c_reg ?_
      refine l_pure rfl (s_move  h8 ?_)
      refine l_pure rfl (s_move  h1 ?_)
      refine l_pure rfl (s_leq  rfl rfl ?_)
      refine l_nil ?_
      repeat (with_reducible first | refine c_seq ?_ | refine c_block ?_ | refine c_skip ?_ | refine x_then ?_ | refine x_block ?_)
      refine c_no rfl (decide_eq_false (by omega)) ?_
      repeat (with_reducible first | refine c_seq ?_ | refine c_block ?_ | refine c_skip ?_ | refine x_then ?_ | refine x_block ?_)
      refine c_exit ?_
      repeat (with_reducible first | refine x_then_exit ?_ | refine x_block_exit ?_ | refine x_block_pass rfl ?_)
      repeat (with_reducible first | refine c_seq ?_ | refine c_block ?_ | refine c_skip ?_ | refine x_then ?_ | refine x_block ?_)
      exact ⟨_, rfl, by assumption, by assumption, by assumption, by assumption, .inr ⟨vi h7 (by omega), hS⟩⟩
  clear hS
  rintro ρ w2 ⟨h0, h1, h2, h6, h78⟩
  have key : ∃ k : Nat, ρ 7 = .int .i64 k ∧ Ret Tryz.prog 116 #[.slice (some ⟨b, 0, none⟩) n cp, .int .i64 k, .int .i64 n, .func (.func f) #[] cap.toArray] w2 fun v w' => v = .tuple #[] ∧ St w0 w' ((b, t, (isort (ltC c) L).flatMap enI ++ sp) :: H) := by
    rcases h78 with ⟨h7, hS⟩ | ⟨h7, hS⟩
    · refine ⟨0, h7, ?_⟩
      have hS2 : St w0 w2 ((b, t, ([] ++ L ++ []).flatMap enI ++ sp) :: H) := by simpa using hS
      refine (insertionSort_ok hc [] L [] sp n cp 0 n (by simp [hn]) rfl (by simp [hn]) (fun _ h => h) (by omega) _ hS2).mono ?_
      rintro v w' ⟨rfl, h⟩
      exact ⟨rfl, by simpa using h⟩
    · refine ⟨n, h7, ?_⟩
      have hS2 : St w0 w2 ((b, t, (isort (ltC c) L ++ [] ++ []).flatMap enI ++ sp) :: H) := by simpa using hS
      refine (insertionSort_ok hc (isort (ltC c) L) [] [] sp n cp n n (by simp [hl, hn]) (by rw [hl, hn]) (by simp [hl, hn]) (fun _ h => (by cases h)) (by omega) _ hS2).mono ?_
      rintro v w' ⟨rfl, h⟩
      exact ⟨rfl, by simpa [isort] using h⟩
  obtain ⟨k, h7, hret⟩ := key
  repeat (with_reducible first | refine c_seq ?_ | refine c_block ?_ | refine c_skip ?_ | refine x_then ?_ | refine x_block ?_)
  refine c_reg ?_
  refine l_pure rfl (s_move  h0 ?_)
  refine l_pure rfl (s_move  h7 ?_)
  refine l_pure rfl (s_move  h1 ?_)
  refine l_pure rfl (s_move  h2 ?_)
  refine l_heavy rfl (s_call Tryz.call116 rfl (hret) ?_)
  rintro r w3 ⟨rfl, hS⟩
  refine l_nil ?_
  repeat (with_reducible first | refine c_seq ?_ | refine c_block ?_ | refine c_skip ?_ | refine x_then ?_ | refine x_block ?_)
  refine c_loop (σ := Unit) (fun _ ρ w' => ρ 1 = .int .i64 n ∧ ρ 6 = .int .i64 20 ∧ w' = w3) (fun _ => 0) () ⟨h1, h6, rfl⟩ ?_
  rintro _ ρ w4 ⟨h1, h6, rfl⟩
  repeat (with_reducible first | refine c_seq ?_ | refine c_block ?_ | refine c_skip ?_ | refine x_then ?_ | refine x_block ?_)
  refine c_reg ?_
  refine l_pure rfl (s_move  h6 ?_)
  refine l_pure rfl (s_move  h1 ?_)
  refine l_pure rfl (s_lss  rfl rfl ?_)
  refine l_nil ?_
  repeat (with_reducible first | refine c_seq ?_ | refine c_block ?_ | refine c_skip ?_ | refine x_then ?_ | refine x_block ?_)
  refine c_no rfl (decide_eq_false (by omega)) ?_
  repeat (with_reducible first | refine c_seq ?_ | refine c_block ?_ | refine c_skip ?_ | refine x_then ?_ | refine x_block ?_)
  refine c_exit ?_
  repeat (with_reducible first | refine x_then_exit ?_ | refine x_block_exit ?_ | refine x_block_pass rfl ?_)
  repeat (with_reducible first | refine c_seq ?_ | refine c_block ?_ | refine c_skip ?_ | refine x_then ?_ | refine x_block ?_)
  exact r_none rfl ⟨rfl, hS⟩
theorem SortStable_ok {f : FuncId} {cap : List Value} {c : Int → Int → Int} {w0 : World} {b : Nat} {t : TypeId} {H : List Blk} (L : List Int) (hc : CmpOk f cap c L w0 b t H) (sp : List Value) (n cp : Nat)
    (hn : L.length = n) (h20 : n ≤ 20) (w : World) (hS : St w0 w ((b, t, L.flatMap enI ++ sp) :: H)) :
    Ret Tryz.prog 45 #[.slice (some ⟨b, 0, none⟩) n cp, .func (.func f) #[] cap.toArray] w fun v w' => v = .tuple #[] ∧ St w0 w' ((b, t, (isort (ltC c) L).flatMap enI ++ sp) :: H) := by
  refine enter Tryz.func45 rfl Tryz.ntmps45 rfl ?_
  repeat (with_reducible first | refine c_seq ?_ | refine c_block ?_ | refine c_skip ?_ | refine x_then ?_ | refine x_block ?_)
  refine c_reg ?_
  refine l_pure rfl (s_move  rfl ?_)
  refine l_pure rfl (s_move  rfl ?_)
  refine l_pure rfl (s_leno  rfl ⟨_, Tryz.underlying65⟩ ?_)
  refine l_pure rfl (s_move  rfl ?_)
  refine l_heavy rfl (s_call Tryz.call86 rfl (stable_ok L hc sp n cp hn h20 _ hS) ?_)
  rintro r w3 ⟨rfl, hS⟩
  refine l_nil ?_
  repeat (with_reducible first | refine c_seq ?_ | refine c_block ?_ | refine c_skip ?_ | refine x_then ?_ | refine x_block ?_)
  exact r_none rfl ⟨rfl, hS⟩
end Go.Proofs.YtmapmdldlcfjhaaGreatDoor
namespace Go.Proofs.YtmapmdldlcfjhaaGreatDoor
open Go Go.RowKit Go.Sx
theorem sg_mul (p q : Rat) (X Y : Nat) : mkRat (sg (decide (p.num < 0) != decide (q.num < 0)) X) Y = mkRat (sg (decide (p.num < 0)) 1 * sg (decide (q.num < 0)) 1 * X) Y := by
  congr 1
  by_cases h1 : p.num < 0 <;> by_cases h2 : q.num < 0 <;> simp [h1, h2, sg]
theorem sg_abs (n : Int) : sg (decide (n < 0)) 1 * (n.natAbs : Int) = n := by
  by_cases h : n < 0
  · simp [h, sg]; omega
  · simp [h, sg]; omega
theorem mulQ_eq (p q : Rat) : mkRat (sg (decide (p.num < 0) != decide (q.num < 0)) (p.num.natAbs * q.num.natAbs)) (p.den * q.den) = p * q := by
  rw [sg_mul]
  have e : sg (decide (p.num < 0)) 1 * sg (decide (q.num < 0)) 1 * ((p.num.natAbs * q.num.natAbs : Nat) : Int) = p.num * q.num := by
    have h1 := sg_abs p.num
    have h2 := sg_abs q.num
    calc _ = (sg (decide (p.num < 0)) 1 * (p.num.natAbs : Int)) * (sg (decide (q.num < 0)) 1 * (q.num.natAbs : Int)) := by push_cast; grind
      _ = _ := by rw [h1, h2]
  rw [e]
  conv => rhs; rw [← Rat.mkRat_self p, ← Rat.mkRat_self q]
  exact (Rat.mkRat_mul_mkRat _ _ _ _).symm
set_option maxHeartbeats 1000000 in
theorem QMultiply_ok (r s : RR) (w : World) (hr : Lr r + Lr s ≤ MX) :
    Ret Tryz.prog 55 #[aggR r, aggR s] w fun v w' => v = aggR (ofQ (toQ r * toQ s)) ∧ Below w.heap.size w w' := by
  have hM : MX = 1099511627776 := rfl
  have hL1 := L_toQ r
  have hL2 := L_toQ s
  obtain ⟨p, hp⟩ : ∃ p, p = toQ r := ⟨_, rfl⟩
  obtain ⟨q, hq⟩ : ∃ q, q = toQ s := ⟨_, rfl⟩
  have hc1 := fun w => clean_ok r w (show Lr r ≤ MX by omega)
  have hc2 := fun w => clean_ok s w (show Lr s ≤ MX by omega)
  unfold fx at hc1 hc2
  rw [← hp] at hL1 hc1 ⊢
  rw [← hq] at hL2 hc2 ⊢
  have hn1 := L_num p
  have hn2 := L_num q
  have hd1 := L_den p
  have hd2 := L_den q
  have hm1 := natS_size_mul p.num.natAbs q.num.natAbs
  have hm2 := natS_size_mul p.den q.den
  have hD2 : val (natS (p.den * q.den)) ≠ 0 := by rw [val_natS]; exact Nat.mul_ne_zero p.den_nz q.den_nz
  have hred := fun w => reduced_ok (decide (p.num < 0) != decide (q.num < 0)) (natS (p.num.natAbs * q.num.natAbs)) (natS (p.den * q.den)) w (by omega) (by omega) hD2
  rw [val_natS, val_natS, mulQ_eq] at hred
  have hS := St.init w
  refine enter Tryz.func55 rfl Tryz.ntmps55 rfl ?_
  repeat (with_reducible first | refine c_seq ?_ | refine c_block ?_ | refine c_skip ?_ | refine x_then ?_ | refine x_block ?_)
  refine c_reg ?_
  refine l_heavy rfl (s_box (new := encR r)  rfl rfl hS ?_)
  intro b1 wz2 hS hBz2
  refine l_heavy rfl (s_box (new := encR s)  rfl rfl hS ?_)
  intro b3 wz4 hS hBz4
  refine l_heavy rfl (s_alloc  vi_37 hS ?_)
  intro b5 wz6 hS hBz6
  refine l_nil ?_
  repeat (with_reducible first | refine c_seq ?_ | refine c_block ?_ | refine c_skip ?_ | refine x_then ?_ | refine x_block ?_)
  refine c_draw [(0, .read), (2, .read), (1, .grow), (3, .grow), (4, .free), (5, .free)] (by kernel_rfl) (by kernel_rfl) hS ?_
  intro wz7 hS hBz7
  refine w_read rfl rfl (s_ldo (k := 2)  rfl vi_37 hS rfl rfl rfl (.inl rfl) ?_)
  refine w_read rfl rfl (s_ldo (k := 1)  rfl vi_37 hS rfl rfl rfl (.inl rfl) ?_)
  refine w_grow rfl rfl (s_call Tryz.call79 rfl (hc1 _) ?_)
  rintro _ wc8 ⟨rfl, hBc8⟩
  replace hS := hS.grow hBc8
  refine ⟨hBc8, ?_⟩
  refine w_grow rfl rfl (s_call Tryz.call79 rfl (hc2 _) ?_)
  rintro _ wc9 ⟨rfl, hBc9⟩
  replace hS := hS.grow hBc9
  refine ⟨hBc9, ?_⟩
  refine w_free rfl rfl (s_sta (k := 2)  rfl rfl vi_37 hS rfl rfl rfl (Nat.le_of_ble_eq_true rfl) rfl ?_)
  intro wz10 hS
  refine w_free rfl rfl (s_sta (k := 1)  rfl rfl vi_37 hS rfl rfl rfl (Nat.le_of_ble_eq_true rfl) rfl ?_)
  intro wz11 hS
  refine w_end ?_
  repeat (with_reducible first | refine c_seq ?_ | refine c_block ?_ | refine c_skip ?_ | refine x_then ?_ | refine x_block ?_)
  refine c_draw [(0, .pure), (1, .read), (2, .pure), (3, .read), (4, .pure), (5, .pure), (6, .read), (7, .pure), (8, .read), (10, .read), (12, .read), (9, .grow), (11, .grow), (13, .grow), (14, .grow), (15, .grow), (16, .free)] (by kernel_rfl) (by kernel_rfl) hS ?_
  intro wz12 hS hBz12
  refine w_pure rfl rfl (s_fld  rfl fo_37_0 ?_)
  refine w_read rfl rfl (s_ldo (k := 2)  rfl vi_4 hS rfl rfl rfl (.inr rfl) ?_)
  refine w_pure rfl rfl (s_fld  rfl fo_37_0 ?_)
  refine w_read rfl rfl (s_ldo (k := 1)  rfl vi_4 hS rfl rfl rfl (.inr rfl) ?_)
  refine w_pure rfl rfl (s_neb  rfl rfl Tryz.underlying4 ?_)
  refine w_pure rfl rfl (s_fld  rfl fo_37_1 ?_)
  refine w_read rfl rfl (s_ldo (k := 2)  rfl vi_9 hS rfl rfl rfl (.inr rfl) ?_)
  refine w_pure rfl rfl (s_fld  rfl fo_37_1 ?_)
  refine w_read rfl rfl (s_ldo (k := 1)  rfl vi_9 hS rfl rfl rfl (.inr rfl) ?_)
  refine w_read rfl rfl (s_ldo (k := 2)  rfl vi_37 hS rfl rfl rfl (.inl rfl) ?_)
  refine w_read rfl rfl (s_ldo (k := 1)  rfl vi_37 hS rfl rfl rfl (.inl rfl) ?_)
  refine w_grow rfl rfl (s_call Tryz.call89 rfl (N_mul p.num.natAbs q.num.natAbs _ (by omega) (by omega)) ?_)
  rintro _ wc13 ⟨rfl, hBc13⟩
  replace hS := hS.grow hBc13
  refine ⟨hBc13, ?_⟩
  refine w_grow rfl rfl (s_call Tryz.call83 rfl (den_ok p _) ?_)
  rintro _ wc14 ⟨rfl, hBc14⟩
  replace hS := hS.grow hBc14
  refine ⟨hBc14, ?_⟩
  refine w_grow rfl rfl (s_call Tryz.call83 rfl (den_ok q _) ?_)
  rintro _ wc15 ⟨rfl, hBc15⟩
  replace hS := hS.grow hBc15
  refine ⟨hBc15, ?_⟩
  refine w_grow rfl rfl (s_call Tryz.call89 rfl (N_mul p.den q.den _ (by omega) (by omega)) ?_)
  rintro _ wc16 ⟨rfl, hBc16⟩
  replace hS := hS.grow hBc16
  refine ⟨hBc16, ?_⟩
  refine w_grow rfl rfl (s_call Tryz.call74 rfl (hred _) ?_)
  rintro _ wc17 ⟨rfl, hBc17⟩
  replace hS := hS.grow hBc17
  refine ⟨hBc17, ?_⟩
  refine w_free rfl rfl (s_sta (k := 0)  rfl rfl vi_37 hS rfl rfl rfl (Nat.le_of_ble_eq_true rfl) rfl ?_)
  intro wz18 hS
  refine w_end ?_
  repeat (with_reducible first | refine c_seq ?_ | refine c_block ?_ | refine c_skip ?_ | refine x_then ?_ | refine x_block ?_)
  refine c_ret ?_
  repeat (with_reducible first | refine x_then_ret ?_ | refine x_block_ret ?_)
  refine r_cell (k := 0) rfl rfl vi_37 hS rfl rfl ?_
  exact ⟨rfl, hS.below⟩
end Go.Proofs.YtmapmdldlcfjhaaGreatDoor
