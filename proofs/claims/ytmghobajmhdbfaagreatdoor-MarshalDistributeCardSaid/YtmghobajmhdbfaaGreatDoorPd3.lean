/-
  Part 3 of the texts that the law's proof is made of: the framework and the walks.
-/
import Derived.Test.YtmghobajmhdbfaaGreatDoorPd2
namespace Go.Proofs.YtmghobajmhdbfaaGreatDoor
open Go Go.RowKit Go.Sx
section
variable {P : Program} {N : Nat} {ρ : Nat → Value} {ops : Array Oper}
  {d : Option Tmp} {ty : TypeId} {pos : String} {aft : Array Edge} {g : Option (Nat × Bool)} {x y z : Operand} {t e : TypeId} {b o : Nat} {K : Value → Prop}
/-- A part of a slice that is written out, its three numbers given. -/
theorem s_subx {size by_ n cap o' n' c' : Nat} {zz : List Value} {lo hi : Nat} {kl kh : IntKind} {ml mh : Int} (hx : ev N ρ x = .slice (some ⟨b, o, none⟩) n cap) (hl : ev N ρ y = .int kl ml) (hh : ev N ρ z = .int kh mh)
    (hml : ml = (lo : Int)) (hmh : mh = (hi : Int)) (h1 : lo ≤ hi) (h2 : hi ≤ cap) (h3 : lo < cap) (e1 : o + lo * size = o') (e2 : hi - lo = n') (e3 : cap - lo = c') (ht : sinfo P t = some (e, size, by_, zz)) (h : K (.slice (some ⟨b, o', none⟩) n' c')) :
    Pure1 P N ρ ⟨d, .slice t x (some y) (some z) none, ty, pos, aft, g⟩ K := by
  subst e1 e2 e3
  exact s_subo hx hl hh hml hmh h1 h2 h3 ht h
end
theorem pad_take (b v : Nat) {n m : Nat} (h : n ≤ m) : (pad b v m).take n = pad b v n := by
  unfold pad
  rw [← List.map_take, List.take_range, Nat.min_eq_left h]
theorem top_pos {Y : Nat} (h : 0 < Y) : 0 < (limb Y).length ∧ 0 < dgt B32 Y ((limb Y).length - 1) := by
  have hl : 0 < (limb Y).length := by
    rcases Nat.eq_zero_or_pos (limb Y).length with h0 | h0
    · have := (digs_eq_nil (b := B32) (n := Y) (by decide)).1 (List.eq_nil_of_length_eq_zero h0); omega
    · exact h0
  refine ⟨hl, ?_⟩
  have h1 := limb_lt_pow Y
  have h2 : B32 ^ ((limb Y).length - 1) ≤ Y := pow_le_of_digs_length (by decide) (by show _ < (limb Y).length; omega)
  rw [dgt_top (by decide) (by rw [Nat.sub_add_cancel hl]; exact h1)]
  exact Nat.div_pos h2 (Nat.pow_pos (by decide))
theorem norm_law {Y n c : Nat} (hn : 0 < n) (hY : Y < B32 ^ n) (hc : c < 32) (h1 : dgt B32 Y (n - 1) * 2 ^ c < B32) (h2 : B32 ≤ 2 * (dgt B32 Y (n - 1) * 2 ^ c)) :
    Y * 2 ^ c < B32 ^ n ∧ B32 ^ n ≤ 2 * (Y * 2 ^ c) := by
  obtain ⟨x, hx⟩ : ∃ x, x = dgt B32 Y (n - 1) := ⟨_, rfl⟩
  have hxt : x = Y / B32 ^ (n - 1) := by rw [hx]; exact dgt_top (by decide) (by rw [Nat.sub_add_cancel hn]; exact hY)
  rw [← hx] at h1 h2
  have hp : 0 < B32 ^ (n - 1) := Nat.pow_pos (by decide)
  have hB : B32 ^ n = B32 ^ (n - 1) * B32 := by rw [← Nat.pow_succ]; congr 1; omega
  have e1 := Nat.div_add_mod Y (B32 ^ (n - 1))
  have e2 := Nat.mod_lt Y hp
  rw [← hxt] at e1
  have h3 : (x + 1) * 2 ^ c ≤ B32 := by
    have hb : B32 = 2 ^ (32 - c) * 2 ^ c := by rw [← Nat.pow_add, Nat.sub_add_cancel (by omega)]
    rw [hb] at h1 ⊢
    exact Nat.mul_le_mul_right _ (Nat.lt_of_mul_lt_mul_right h1)
  have hpc : 0 < 2 ^ c := Nat.pow_pos (by decide)
  constructor
  · rw [hB]
    have a1 : Y < B32 ^ (n - 1) * (x + 1) := by rw [Nat.mul_add]; omega
    have a2 : Y * 2 ^ c < B32 ^ (n - 1) * (x + 1) * 2 ^ c := Nat.mul_lt_mul_of_pos_right a1 hpc
    have a3 : B32 ^ (n - 1) * ((x + 1) * 2 ^ c) ≤ B32 ^ (n - 1) * B32 := Nat.mul_le_mul_left _ h3
    rw [← Nat.mul_assoc] at a3
    omega
  · rw [hB]
    have a1 : B32 ^ (n - 1) * x ≤ Y := by rw [hxt]; exact Nat.mul_div_le _ _
    have a2 : B32 ^ (n - 1) * x * 2 ^ c ≤ Y * 2 ^ c := Nat.mul_le_mul_right _ a1
    have a3 : B32 ^ (n - 1) * B32 ≤ B32 ^ (n - 1) * (2 * (x * 2 ^ c)) := Nat.mul_le_mul_left _ h2
    have a4 : B32 ^ (n - 1) * (2 * (x * 2 ^ c)) = 2 * (B32 ^ (n - 1) * x * 2 ^ c) := by rw [Nat.mul_left_comm, Nat.mul_assoc]
    omega
theorem divmod_unique {X Y Q V s : Nat} (hs : 0 < s) (h : X * s = Q * (Y * s) + V) (hV : V < Y * s) : X / Y = Q ∧ V = X % Y * s ∧ V / s = X % Y := by
  have hY : 0 < Y := by rcases Nat.eq_zero_or_pos Y with h0 | h0; · rw [h0] at hV; omega
                        · exact h0
  have h1 : X * s / (Y * s) = Q := by
    rw [h, Nat.add_comm, Nat.add_mul_div_right _ _ (Nat.mul_pos hY hs), Nat.div_eq_of_lt hV, Nat.zero_add]
  have h2 : X * s % (Y * s) = V := by
    rw [h, Nat.mul_add_mod_self_right, Nat.mod_eq_of_lt hV]
  rw [Nat.mul_div_mul_right _ _ hs] at h1
  rw [Nat.mul_mod_mul_right] at h2
  refine ⟨h1, h2.symm, ?_⟩
  rw [← h2, Nat.mul_div_cancel _ hs]
set_option maxHeartbeats 1000000 in
theorem divide_ok (vx vy : Value) (X Y : Nat) (w : World) (hx : Sl (uk .u32) 1 w vx (limb X)) (hy : Sl (uk .u32) 1 w vy (limb Y)) (hY0 : 0 < Y) (hmx : (limb X).length ≤ 4398046511104) (hmy : (limb Y).length ≤ 4398046511104) :
    Ret Tryz.prog 106 #[vx, vy] w fun r w' => (∃ q s, r = .tuple #[q, s] ∧ Sl (uk .u32) 1 w' q (limb (X / Y)) ∧ Sl (uk .u32) 1 w' s (limb (X % Y))) ∧ Below w.heap.size w w' := by
  have hB : B32 = 4294967296 := rfl
  have hS := St.init w
  obtain ⟨m, hm⟩ : ∃ m, m = (limb X).length := ⟨_, rfl⟩
  obtain ⟨n, hn⟩ : ∃ n, n = (limb Y).length := ⟨_, rfl⟩
  have hXm : X < B32 ^ m := hm ▸ limb_lt_pow X
  have hYn : Y < B32 ^ n := hn ▸ limb_lt_pow Y
  obtain ⟨M, hM⟩ : ∃ M, M = m - n + 1 := ⟨_, rfl⟩
  obtain ⟨hn0, htp⟩ := top_pos hY0
  rw [← hn] at hn0 htp
  have htl := limb_le Y (n - 1)
  refine enter Tryz.func106 rfl Tryz.ntmps106 rfl ?_
  repeat (with_reducible first | refine c_seq ?_ | refine c_block ?_ | refine c_skip ?_ | refine x_then ?_ | refine x_block ?_)
  refine c_reg ?_
  refine l_pure rfl (s_asg  rfl ?_)
  refine l_pure rfl (s_asg  rfl ?_)
  refine l_nil ?_
  repeat (with_reducible first | refine c_seq ?_ | refine c_block ?_ | refine c_skip ?_ | refine x_then ?_ | refine x_block ?_)
  refine c_reg ?_
  refine l_pure rfl (s_move  rfl ?_)
  refine l_pure rfl (s_move  rfl ?_)
  refine l_heavy rfl (s_call Tryz.call93 rfl (compare_ok _ _ _ _ _ (hx.below hS.below) (hy.below hS.below)) ?_)
  rintro r w1 ⟨rfl, hB1⟩
  replace hS := hS.grow hB1
  refine l_pure rfl (s_lss  rfl rfl ?_)
  refine l_nil ?_
  repeat (with_reducible first | refine c_seq ?_ | refine c_block ?_ | refine c_skip ?_ | refine x_then ?_ | refine x_block ?_)
  by_cases hlt : X < Y
  · refine c_yes rfl (decide_eq_true (by rw [cmpI_lt hlt]; decide)) ?_
    repeat (with_reducible first | refine c_seq ?_ | refine c_block ?_ | refine c_skip ?_ | refine x_then ?_ | refine x_block ?_)
    refine c_reg ?_
    refine l_pure rfl (s_move  rfl ?_)
    refine l_pure rfl (s_asg  rfl ?_)
    refine l_pure rfl (s_asg  rfl ?_)
    refine l_nil ?_
    repeat (with_reducible first | refine c_seq ?_ | refine c_block ?_ | refine c_skip ?_ | refine x_then ?_ | refine x_block ?_)
    refine c_ret ?_
    repeat (with_reducible first | refine x_then_ret ?_ | refine x_block_ret ?_)
    refine r_two rfl rfl rfl ?_
    refine ⟨⟨_, _, rfl, ?_, ?_⟩, hS.below⟩
    · rw [Nat.div_eq_of_lt hlt, limb, digs_zero]; exact Sl.nil _ _ _
    · rw [Nat.mod_eq_of_lt hlt]; exact hx.below hS.below
  · have hge : Y ≤ X := Nat.le_of_not_lt hlt
    have hnm : n ≤ m := by rw [hn, hm]; exact digs_length_mono (by decide) hge
    have hcmp : ¬ cmpI X Y < 0 := by
      rcases Nat.lt_or_ge Y X with h | h
      · rw [cmpI_gt h]; decide
      · rw [show X = Y by omega, cmpI_self]; decide
    refine c_no rfl (decide_eq_false hcmp) ?_
    repeat (with_reducible first | refine c_seq ?_ | refine c_block ?_ | refine c_skip ?_ | refine x_then ?_ | refine x_block ?_)
    refine c_reg ?_
    refine l_pure rfl (s_move  rfl ?_)
    refine l_pure rfl (s_lenr  rfl (hy.below hS.below) ⟨_, Tryz.underlying92⟩ ?_)
    refine l_pure rfl (s_eql  rfl rfl ?_)
    refine l_nil ?_
    repeat (with_reducible first | refine c_seq ?_ | refine c_block ?_ | refine c_skip ?_ | refine x_then ?_ | refine x_block ?_)
    by_cases h1 : n = 1
    · refine c_yes rfl (decide_eq_true (by omega)) ?_
      repeat (with_reducible first | refine c_seq ?_ | refine c_block ?_ | refine c_skip ?_ | refine x_then ?_ | refine x_block ?_)
      have hg : (limb Y).getD 0 0 = Y := by
        rw [limb_getD, dgt, Nat.pow_zero, Nat.div_one]
        rw [h1, Nat.pow_one] at hYn
        exact Nat.mod_eq_of_lt hYn
      have hYl : Y ≤ 4294967295 := by rw [h1, Nat.pow_one] at hYn; omega
      repeat (with_reducible first | refine c_seq ?_ | refine c_block ?_ | refine c_skip ?_ | refine x_then ?_ | refine x_block ?_)
      refine c_reg ?_
      refine l_pure rfl (s_move  rfl ?_)
      refine l_pure rfl (s_move  rfl ?_)
      refine l_pure rfl (s_ixr (i := 0)  rfl rfl (hy.below hS.below) (by omega) (by first | omega | (simp; done) | (simp; omega)) si_92 ?_)
      refine l_read rfl (s_lde (i := 0) 0  rfl vi_94 (hy.below hS.below) (by first | omega | (simp; done) | (simp; omega)) rfl rfl (.inr rfl) ?_)
      rw [hg]
      refine l_heavy rfl (s_call Tryz.call115 rfl (divideSmall_ok _ _ _ _ (hx.below hS.below) hY0 hYl (by omega)) ?_)
      rintro r w2 ⟨⟨q, rfl, hq⟩, hB2⟩
      replace hS := hS.grow hB2
      refine l_pure rfl (s_move  rfl ?_)
      refine l_pure rfl (s_ext  rfl rfl ?_)
      refine l_pure rfl (s_ext  rfl rfl ?_)
      refine l_pure rfl (s_asg  rfl ?_)
      refine l_pure rfl (s_asg  rfl ?_)
      refine l_nil ?_
      repeat (with_reducible first | refine c_seq ?_ | refine c_block ?_ | refine c_skip ?_ | refine x_then ?_ | refine x_block ?_)
      have hml : X % Y ≤ 4294967295 := by have := Nat.mod_lt X hY0; omega
      have hq0 : Sl (uk .u32) 1 w2 q (limb (X / Y)) := hq
      repeat (with_reducible first | refine c_seq ?_ | refine c_block ?_ | refine c_skip ?_ | refine x_then ?_ | refine x_block ?_)
      refine c_reg ?_
      refine l_pure rfl (s_move  rfl ?_)
      refine l_pure rfl (s_move  rfl ?_)
      refine l_heavy rfl (s_bsl (vs := [_])  rfl si_92 rfl (by decide) (by decide) (by decide) (by simp [Value.cells]) rfl hS ?_)
      intro b1 wz2 hS hBz2
      have hq1 := hq0.below hBz2
      have hsl := St.slk (L := [X % Y]) hS (k := 0) rfl (n := 1) (cap := 1) (by simp) (by omega) (by omega)
      refine l_heavy rfl (s_call Tryz.call90 rfl (trim_ok _ _ _ hsl (by intro d hd; rw [List.take_of_length_le (by simp)] at hd; rw [List.mem_singleton.1 hd]; omega)) ?_)
      rintro v w4 ⟨hv, rfl⟩
      refine l_pure rfl (s_asg  rfl ?_)
      refine l_pure rfl (s_asg  rfl ?_)
      refine l_nil ?_
      repeat (with_reducible first | refine c_seq ?_ | refine c_block ?_ | refine c_skip ?_ | refine x_then ?_ | refine x_block ?_)
      refine c_ret ?_
      repeat (with_reducible first | refine x_then_ret ?_ | refine x_block_ret ?_)
      refine r_two rfl rfl rfl ?_
      refine ⟨⟨_, _, rfl, hq1, ?_⟩, hS.below⟩
      have e : ofDigs B32 ([X % Y].take 1) = X % Y := by simp [ofDigs]
      rwa [e] at hv
    · refine c_no rfl (decide_eq_false (by omega)) ?_
      repeat (with_reducible first | refine c_seq ?_ | refine c_block ?_ | refine c_skip ?_ | refine x_then ?_ | refine x_block ?_)
      have hgt : (limb Y).getD (n - 1) 0 = dgt B32 Y (n - 1) := limb_getD Y (n - 1)
      repeat (with_reducible first | refine c_seq ?_ | refine c_block ?_ | refine c_skip ?_ | refine x_then ?_ | refine x_block ?_)
      refine c_reg ?_
      refine l_pure rfl (s_move  rfl ?_)
      refine l_pure rfl (s_move  rfl ?_)
      refine l_pure rfl (s_lenr  rfl (hy.below hS.below) ⟨_, Tryz.underlying92⟩ ?_)
      refine l_pure rfl (s_sub  rfl rfl (IntWalk.i64_in _ (by omega)) ?_)
      refine l_pure rfl (s_ixr (i := n - 1)  rfl rfl (hy.below hS.below) (by omega) (by first | omega | (simp; done) | (simp; omega)) si_92 ?_)
      refine l_read rfl (s_lde (i := n - 1) 0  rfl vi_94 (hy.below hS.below) (by first | omega | (simp; done) | (simp; omega)) rfl rfl (.inr rfl) ?_)
      rw [hgt]
      refine l_heavy rfl (s_call Tryz.call116 rfl (LeadingZeros32_ok _ _ htp (by omega)) ?_)
      rintro r w2 ⟨⟨c, hc, hc1, hc2, rfl⟩, rfl⟩
      obtain ⟨hD, hD2⟩ := norm_law hn0 hYn hc hc1 hc2
      have hpc : 0 < 2 ^ c := Nat.pow_pos (by decide)
      have hpc2 : 2 ^ c ≤ 2 ^ 31 := Nat.pow_le_pow_right (by decide) (by omega)
      obtain ⟨D, hDe⟩ : ∃ D, D = Y * 2 ^ c := ⟨_, rfl⟩
      rw [← hDe] at hD hD2
      have hD0 : 0 < D := by rw [hDe]; exact Nat.mul_pos hY0 hpc
      have hUm : X * 2 ^ c < B32 ^ (m + 1) := by
        have h3 : X * 2 ^ c < B32 ^ m * 2 ^ c := Nat.mul_lt_mul_of_pos_right hXm hpc
        have h4 : B32 ^ m * 2 ^ c ≤ B32 ^ m * B32 := Nat.mul_le_mul_left _ (by omega)
        rw [Nat.pow_succ]; omega
      have hUD : X * 2 ^ c < D * B32 ^ (m - n + 1) := by
        have h3 : X * 2 ^ c < B32 ^ m * 2 ^ c := Nat.mul_lt_mul_of_pos_right hXm hpc
        have h4 : B32 ^ m * 2 ^ c ≤ B32 ^ m * 2 ^ 31 := Nat.mul_le_mul_left _ hpc2
        have h5 : B32 ^ n * B32 ^ (m - n + 1) = B32 ^ m * B32 := by rw [← Nat.pow_add, ← Nat.pow_succ]; congr 1; omega
        have h6 : B32 ^ n * B32 ^ (m - n + 1) ≤ 2 * D * B32 ^ (m - n + 1) := Nat.mul_le_mul_right _ hD2
        rw [Nat.mul_assoc] at h6
        have h7 : B32 ^ m * B32 = B32 ^ m * 4294967296 := rfl
        omega
      refine l_pure rfl (s_conv  rfl Tryz.underlying85 ⟨_, Tryz.underlying3⟩ (IntWalk.u64_in _ (by omega)) ?_)
      refine l_pure rfl (s_asg  rfl ?_)
      refine l_nil ?_
      repeat (with_reducible first | refine c_seq ?_ | refine c_block ?_ | refine c_skip ?_ | refine x_then ?_ | refine x_block ?_)
      refine c_reg ?_
      refine l_pure rfl (s_move  rfl ?_)
      refine l_pure rfl (s_lenr  rfl (hy.below hS.below) ⟨_, Tryz.underlying92⟩ ?_)
      refine l_pure rfl (s_asg  rfl ?_)
      refine l_nil ?_
      repeat (with_reducible first | refine c_seq ?_ | refine c_block ?_ | refine c_skip ?_ | refine x_then ?_ | refine x_block ?_)
      refine c_reg ?_
      refine l_pure rfl (s_move  rfl ?_)
      refine l_pure rfl (s_move  rfl ?_)
      refine l_pure rfl (s_move  rfl ?_)
      refine l_heavy rfl (s_call Tryz.call117 rfl (shift_ok _ _ _ _ _ (hy.below hS.below) hc (Nat.le_refl _) (by rw [← hn, ← hDe]; exact hD) (by omega)) ?_)
      rintro r w3 ⟨⟨bd, rfl, hbd1, hbd2⟩, hB3⟩
      replace hS := hS.push hB3 hbd1 hbd2
      refine l_pure rfl (s_asg  rfl ?_)
      refine l_nil ?_
      repeat (with_reducible first | refine c_seq ?_ | refine c_block ?_ | refine c_skip ?_ | refine x_then ?_ | refine x_block ?_)
      refine c_reg ?_
      refine l_pure rfl (s_move  rfl ?_)
      refine l_pure rfl (s_move  rfl ?_)
      refine l_pure rfl (s_move  rfl ?_)
      refine l_pure rfl (s_lenr  rfl (hx.below hS.below) ⟨_, Tryz.underlying92⟩ ?_)
      refine l_pure rfl (s_add  rfl rfl (IntWalk.i64_in _ (by omega)) ?_)
      have hs2 := shift_ok vx X c (m + 1) w3 (hx.below hS.below) hc (by omega) hUm (by omega)
      refine l_heavy rfl (s_call Tryz.call117 rfl ((by rw [hm] at hs2; exact hs2)) ?_)
      rintro r w4 ⟨⟨bu, rfl, hbu1, hbu2⟩, hB4⟩
      replace hS := hS.push hB4 hbu1 hbu2
      rw [← hm, ← hn, ← hDe] at hS
      refine l_pure rfl (s_asg  rfl ?_)
      refine l_nil ?_
      repeat (with_reducible first | refine c_seq ?_ | refine c_block ?_ | refine c_skip ?_ | refine x_then ?_ | refine x_block ?_)
      refine c_reg ?_
      refine l_pure rfl (s_move  rfl ?_)
      refine l_pure rfl (s_lenr  rfl (hx.below hS.below) ⟨_, Tryz.underlying92⟩ ?_)
      refine l_pure rfl (s_move  rfl ?_)
      refine l_pure rfl (s_sub  rfl rfl (IntWalk.i64_in _ (by omega)) ?_)
      refine l_pure rfl (s_add  rfl rfl (IntWalk.i64_in _ (by omega)) ?_)
      refine l_heavy rfl (s_makek (n := M)  rfl rfl si_92 (by omega) (by omega) (by omega) (by omega) hS ?_)
      intro b3 wz4 hS hBz4
      refine l_pure rfl (s_asg  rfl ?_)
      refine l_nil ?_
      repeat (with_reducible first | refine c_seq ?_ | refine c_block ?_ | refine c_skip ?_ | refine x_then ?_ | refine x_block ?_)
      replace hS := hS.perm (H' := [(bu, 94, Kr .u32 (pad B32 (X * 2 ^ c) (m + 1))), (bd, 94, Kr .u32 (pad B32 D n)), (b3, 94, Kr .u32 (pad B32 (B32 ^ M * 0) M))])
        (by rw [Nat.mul_zero, pad_zero]; exact (List.Perm.swap _ _ _).trans ((List.Perm.swap _ _ _).cons _))
      repeat (with_reducible first | refine c_seq ?_ | refine c_block ?_ | refine c_skip ?_ | refine x_then ?_ | refine x_block ?_)
      refine c_reg ?_
      refine l_pure rfl (s_move  rfl ?_)
      refine l_pure rfl (s_leno  rfl ⟨_, Tryz.underlying92⟩ ?_)
      refine l_pure rfl (s_sub  rfl rfl (IntWalk.i64_in _ (by omega)) ?_)
      refine l_pure rfl (s_asg  rfl ?_)
      refine l_nil ?_
      repeat (with_reducible first | refine c_seq ?_ | refine c_block ?_ | refine c_skip ?_ | refine x_then ?_ | refine x_block ?_)
      refine c_loop (σ := Nat × Nat × Nat) (fun s ρ w' => s.1 ≤ M ∧ X * 2 ^ c = s.2.1 * D * B32 ^ s.1 + s.2.2 ∧ s.2.2 < D * B32 ^ s.1 ∧ ρ 8 = .int .u64 c ∧ ρ 9 = .int .i64 n ∧ ρ 10 = .slice (some ⟨bd, 0, none⟩) n n ∧ ρ 11 = .slice (some ⟨bu, 0, none⟩) (m + 1) (m + 1) ∧ ρ 12 = .slice (some ⟨b3, 0, none⟩) M M ∧ ρ 13 = .int .i64 ((s.1 : Int) - 1) ∧
          St w w' [(bu, 94, Kr .u32 (pad B32 s.2.2 (m + 1))), (bd, 94, Kr .u32 (pad B32 D n)), (b3, 94, Kr .u32 (pad B32 (B32 ^ s.1 * s.2.1) M))]) (fun s => s.1) (M, 0, X * 2 ^ c)
        ⟨Nat.le_refl _, by simp, by simp only; rw [hM]; exact hUD, vi rfl (by omega), vi rfl (by rw [hn]), by rw [hn]; rfl, by rw [hm]; rfl, rfl, vi rfl (by omega), hS⟩ ?_
      clear hS
      rintro ⟨k, Q, V⟩ ρ w6 ⟨hk, hinv, hV, h8, h9, h10, h11, h12, h13, hS⟩
      simp only at hk hinv hV h8 h9 h10 h11 h12 h13 hS
      repeat (with_reducible first | refine c_seq ?_ | refine c_block ?_ | refine c_skip ?_ | refine x_then ?_ | refine x_block ?_)
      refine c_reg ?_
      refine l_pure rfl (s_move  h13 ?_)
      refine l_pure rfl (s_geq  rfl rfl ?_)
      refine l_nil ?_
      repeat (with_reducible first | refine c_seq ?_ | refine c_block ?_ | refine c_skip ?_ | refine x_then ?_ | refine x_block ?_)
      by_cases hk0 : 0 < k
      · refine c_yes rfl (decide_eq_true (by omega)) ?_
        repeat (with_reducible first | refine c_seq ?_ | refine c_block ?_ | refine c_skip ?_ | refine x_then ?_ | refine x_block ?_)
        have hpk : 0 < B32 ^ (k - 1) := Nat.pow_pos (by decide)
        have hkk : B32 ^ k = B32 ^ (k - 1) * B32 := by rw [← Nat.pow_succ]; congr 1; omega
        have hVs : V % B32 ^ (k - 1) + B32 ^ (k - 1) * (V / B32 ^ (k - 1)) = V := Nat.mod_add_div _ _
        have hU : V / B32 ^ (k - 1) < D * B32 := by
          refine Nat.div_lt_of_lt_mul ?_
          rw [hkk] at hV
          rw [Nat.mul_left_comm]; exact hV
        have hlo : V % B32 ^ (k - 1) < B32 ^ (k - 1) := Nat.mod_lt _ hpk
        obtain ⟨lo, hloe⟩ : ∃ lo, lo = V % B32 ^ (k - 1) := ⟨_, rfl⟩
        obtain ⟨U, hUe⟩ : ∃ U, U = V / B32 ^ (k - 1) := ⟨_, rfl⟩
        rw [← hloe, ← hUe] at hVs
        rw [← hUe] at hU
        rw [← hloe] at hlo
        have hq0 : U / D < B32 := Nat.div_lt_of_lt_mul hU
        have hQ : B32 ^ k * Q < B32 ^ M := by
          rcases Nat.lt_or_ge (B32 ^ k * Q) (B32 ^ M) with h | h
          · exact h
          · exfalso
            have h3 : D * B32 ^ M ≤ D * (B32 ^ k * Q) := Nat.mul_le_mul_left _ h
            have h4 : D * (B32 ^ k * Q) = Q * D * B32 ^ k := by ac_rfl
            rw [← hM] at hUD
            omega
        obtain ⟨e1, e2⟩ := pad_set_low (b := B32) (q := Q) (i := k) (e := U / D) (n := M) (by decide) hq0 hk0 hk hQ
        rw [← hVs] at hS
        repeat (with_reducible first | refine c_seq ?_ | refine c_block ?_ | refine c_skip ?_ | refine x_then ?_ | refine x_block ?_)
        refine c_reg ?_
        refine l_pure rfl (s_move  h12 ?_)
        refine l_pure rfl (s_move  h13 ?_)
        refine l_pure rfl (s_move  h11 ?_)
        refine l_pure rfl (s_move  h13 ?_)
        refine l_pure rfl (s_move  h13 ?_)
        refine l_pure rfl (s_move  h9 ?_)
        refine l_pure rfl (s_add  rfl rfl (IntWalk.i64_in _ (by omega)) ?_)
        refine l_pure rfl (s_add  rfl rfl (IntWalk.i64_in _ (by omega)) ?_)
        refine l_pure rfl (s_subx (lo := k - 1) (hi := k - 1 + n + 1) (o' := k - 1) (n' := n + 1) (c' := m + 1 - (k - 1))  rfl rfl rfl (by omega) (by omega) (by omega) (by omega) (by omega) (by omega) (by omega) rfl si_92 ?_)
        refine l_pure rfl (s_move  h10 ?_)
        refine l_heavy rfl (s_call Tryz.call118 rfl (step_ok w w6 [(b3, 94, Kr .u32 (pad B32 (B32 ^ k * Q) M))] bu bd (k - 1) (m + 1 - (k - 1)) n (m + 1) lo U D hS hlo (by omega) hD hD2 hU (by omega) (by omega)) ?_)
        rintro r w7 ⟨rfl, hS⟩
        have hq1 : U / D ≤ 4294967295 := by omega
        refine l_pure rfl (s_ixo (i := k - 1)  rfl rfl (by omega) (by first | omega | (simp; done) | (simp; omega)) si_92 ?_)
        refine l_heavy rfl (s_stk (k := 2) (i := k - 1) (a := (U / D))  rfl rfl rfl vi_94 hS rfl (by omega) (by first | omega | (simp; done) | (simp; omega)) ?_)
        intro wz5 hS
        refine l_nil ?_
        repeat (with_reducible first | refine c_seq ?_ | refine c_block ?_ | refine c_skip ?_ | refine x_then ?_ | refine x_block ?_)
        rw [show ∀ (a b c d : Blk), [a, b, c].set 2 d = [a, b, d] from fun _ _ _ _ => rfl, e1] at hS
        repeat (with_reducible first | refine c_seq ?_ | refine c_block ?_ | refine c_skip ?_ | refine x_then ?_ | refine x_block ?_)
        refine c_reg ?_
        refine l_pure rfl (s_move  h13 ?_)
        refine l_pure rfl (s_sub  rfl rfl (IntWalk.i64_in _ (by omega)) ?_)
        refine l_pure rfl (s_asg  rfl ?_)
        refine l_nil ?_
        repeat (with_reducible first | refine c_seq ?_ | refine c_block ?_ | refine c_skip ?_ | refine x_then ?_ | refine x_block ?_)
        refine ⟨(k - 1, B32 * Q + U / D, lo + B32 ^ (k - 1) * (U % D)), _, rfl, ⟨by simp only; omega, ?_, ?_, h8, h9, h10, h11, h12, vi rfl (by simp only; omega), hS⟩, by simp only; omega⟩
        · simp only
          have g1 := Nat.div_add_mod U D
          have g2 : B32 ^ (k - 1) * U = B32 ^ (k - 1) * (D * (U / D)) + B32 ^ (k - 1) * (U % D) := by rw [← Nat.mul_add, g1]
          have g3 : (B32 * Q + U / D) * D * B32 ^ (k - 1) = Q * D * B32 ^ k + B32 ^ (k - 1) * (D * (U / D)) := by
            rw [hkk, Nat.add_mul, Nat.add_mul]; congr 1 <;> ac_rfl
          rw [g3, hinv, ← hVs, g2]; omega
        · simp only
          have g1 : U % D + 1 ≤ D := Nat.mod_lt _ hD0
          have g2 : B32 ^ (k - 1) * (U % D + 1) ≤ B32 ^ (k - 1) * D := Nat.mul_le_mul_left _ g1
          rw [Nat.mul_comm D, Nat.mul_add] at *
          omega
      · refine c_no rfl (decide_eq_false (by omega)) ?_
        repeat (with_reducible first | refine c_seq ?_ | refine c_block ?_ | refine c_skip ?_ | refine x_then ?_ | refine x_block ?_)
        refine c_exit ?_
        repeat (with_reducible first | refine x_then_exit ?_ | refine x_block_exit ?_ | refine x_block_pass rfl ?_)
        repeat (with_reducible first | refine c_seq ?_ | refine c_block ?_ | refine c_skip ?_ | refine x_then ?_ | refine x_block ?_)
        obtain rfl : k = 0 := by omega
        rw [Nat.pow_zero, Nat.mul_one] at hinv hV
        rw [Nat.pow_zero, Nat.one_mul] at hS
        rw [hDe] at hinv hV
        obtain ⟨f1, f2, f3⟩ := divmod_unique hpc hinv hV
        rw [← hDe] at hinv hV
        have hQM : Q < B32 ^ M := by
          rcases Nat.lt_or_ge Q (B32 ^ M) with h | h
          · exact h
          · exfalso
            have h3 : D * B32 ^ M ≤ D * Q := Nat.mul_le_mul_left _ h
            rw [Nat.mul_comm D Q] at h3
            rw [← hM] at hUD
            omega
        repeat (with_reducible first | refine c_seq ?_ | refine c_block ?_ | refine c_skip ?_ | refine x_then ?_ | refine x_block ?_)
        refine c_draw [(0, .pure), (2, .pure), (3, .pure), (4, .pure), (5, .pure), (1, .grow), (6, .grow), (7, .pure), (8, .pure)] (by kernel_rfl) (by kernel_rfl) hS ?_
        intro wz6 hS hBz6
        refine w_pure rfl rfl (s_move  h12 ?_)
        refine w_pure rfl rfl (s_move  h11 ?_)
        refine w_pure rfl rfl (s_move  h9 ?_)
        refine w_pure rfl rfl (s_suboh (hi := n)  rfl rfl rfl (by omega) si_92 ?_)
        refine w_pure rfl rfl (s_move  h8 ?_)
        have hslq := hS.slk (k := 2) rfl (n := M) (cap := M) (by simp) (Nat.le_refl _) (by omega)
        rw [List.take_of_length_le (by simp)] at hslq
        refine w_grow rfl rfl (s_call Tryz.call90 rfl (trim_ok _ _ _ hslq (pad_lt (by decide) _ _)) ?_)
        rintro q w8 ⟨hq, rfl⟩
        refine ⟨(Below.refl _ _), ?_⟩
        have hslu := hS.slk (k := 0) rfl (n := n) (cap := m + 1) (by simp; omega) (by omega) (by omega)
        rw [pad_take _ _ (by omega)] at hslu
        refine w_grow rfl rfl (s_call Tryz.call119 rfl (unshift_ok _ V c n _ hslu hc (by omega) (by omega)) ?_)
        rintro s w9 ⟨hs, hB9⟩
        refine ⟨hB9, ?_⟩
        refine w_pure rfl rfl (s_asg  rfl ?_)
        refine w_pure rfl rfl (s_asg  rfl ?_)
        refine w_end ?_
        repeat (with_reducible first | refine c_seq ?_ | refine c_block ?_ | refine c_skip ?_ | refine x_then ?_ | refine x_block ?_)
        refine c_ret ?_
        repeat (with_reducible first | refine x_then_ret ?_ | refine x_block_ret ?_)
        refine r_two rfl rfl rfl ?_
        rw [ofDigs_pad_lt hQM, ← f1] at hq
        rw [f3] at hs
        exact ⟨⟨_, _, rfl, hq.below hB9, hs⟩, hS.below.trans (hB9.mono hS.below.size)⟩
end Go.Proofs.YtmghobajmhdbfaaGreatDoor
namespace Go.Proofs.YtmghobajmhdbfaaGreatDoor
open Go Go.RowKit Go.Sx
theorem limb_len_mono {m n : Nat} (h : m ≤ n) : (limb m).length ≤ (limb n).length := digs_length_mono (by decide) h
theorem limb_nil_iff {n : Nat} : (limb n).length = 0 ↔ n = 0 := by
  rw [List.length_eq_zero_iff]; exact digs_eq_nil (by decide)
theorem Divide_ok (a b : ByteArray) (w : World) (ha : a.size ≤ 4398046511104) (hb : b.size ≤ 4398046511104) (h0 : val b ≠ 0) :
    Ret Tryz.prog 91 #[.string a, .string b] w fun r w' => r = .tuple #[.string (natS (val a / val b)), .string (natS (val a % val b)), .bool true] ∧ Below w.heap.size w w' := by
  have hla := limb_val_len a
  have hlb := limb_val_len b
  have hne : (limb (val b)).length ≠ 0 := fun h => h0 (limb_nil_iff.1 h)
  have hS := St.init w
  refine enter Tryz.func91 rfl Tryz.ntmps91 rfl ?_
  repeat (with_reducible first | refine c_seq ?_ | refine c_block ?_ | refine c_skip ?_ | refine x_then ?_ | refine x_block ?_)
  refine c_reg ?_
  refine l_pure rfl (s_asg  rfl ?_)
  refine l_pure rfl (s_asg  rfl ?_)
  refine l_pure rfl (s_asg  rfl ?_)
  refine l_nil ?_
  repeat (with_reducible first | refine c_seq ?_ | refine c_block ?_ | refine c_skip ?_ | refine x_then ?_ | refine x_block ?_)
  refine c_reg ?_
  refine l_pure rfl (s_move  rfl ?_)
  refine l_heavy rfl (s_call Tryz.call62 rfl (parse_ok _ _ (by omega)) ?_)
  rintro vy w1 ⟨hy, hB1⟩
  replace hS := hS.grow hB1
  refine l_pure rfl (s_asg  rfl ?_)
  refine l_nil ?_
  repeat (with_reducible first | refine c_seq ?_ | refine c_block ?_ | refine c_skip ?_ | refine x_then ?_ | refine x_block ?_)
  refine c_reg ?_
  refine l_pure rfl (s_move  rfl ?_)
  refine l_pure rfl (s_lenr  rfl hy ⟨_, Tryz.underlying92⟩ ?_)
  refine l_pure rfl (s_eql  rfl rfl ?_)
  refine l_nil ?_
  repeat (with_reducible first | refine c_seq ?_ | refine c_block ?_ | refine c_skip ?_ | refine x_then ?_ | refine x_block ?_)
  refine c_no rfl (decide_eq_false (by omega)) ?_
  repeat (with_reducible first | refine c_seq ?_ | refine c_block ?_ | refine c_skip ?_ | refine x_then ?_ | refine x_block ?_)
  refine c_reg ?_
  refine l_pure rfl (s_move  rfl ?_)
  refine l_heavy rfl (s_call Tryz.call62 rfl (parse_ok _ _ (by omega)) ?_)
  rintro vx w2 ⟨hx, hB2⟩
  replace hS := hS.grow hB2
  refine l_pure rfl (s_move  rfl ?_)
  refine l_heavy rfl (s_call Tryz.call106 rfl (divide_ok _ _ _ _ _ hx (hy.below hB2) (by omega) (by omega) (by omega)) ?_)
  rintro r w3 ⟨⟨q, s, rfl, hq, hs⟩, hB3⟩
  replace hS := hS.grow hB3
  refine l_pure rfl (s_move  rfl ?_)
  refine l_pure rfl (s_ext  rfl rfl ?_)
  refine l_pure rfl (s_ext  rfl rfl ?_)
  refine l_pure rfl (s_asg  rfl ?_)
  refine l_pure rfl (s_asg  rfl ?_)
  refine l_nil ?_
  repeat (with_reducible first | refine c_seq ?_ | refine c_block ?_ | refine c_skip ?_ | refine x_then ?_ | refine x_block ?_)
  have hlq := limb_len_mono (Nat.div_le_self (val a) (val b))
  have hls := limb_len_mono (Nat.mod_le (val a) (val b))
  repeat (with_reducible first | refine c_seq ?_ | refine c_block ?_ | refine c_skip ?_ | refine x_then ?_ | refine x_block ?_)
  refine c_reg ?_
  refine l_pure rfl (s_move  rfl ?_)
  refine l_heavy rfl (s_call Tryz.call63 rfl (text_ok _ _ _ hq (limb_lt _) (by omega)) ?_)
  rintro r w4 ⟨rfl, hB4⟩
  replace hS := hS.grow hB4
  refine l_pure rfl (s_move  rfl ?_)
  refine l_heavy rfl (s_call Tryz.call63 rfl (text_ok _ _ _ (hs.below hB4) (limb_lt _) (by omega)) ?_)
  rintro r w5 ⟨rfl, hB5⟩
  replace hS := hS.grow hB5
  refine l_pure rfl (s_asg  rfl ?_)
  refine l_pure rfl (s_asg  rfl ?_)
  refine l_pure rfl (s_asg  rfl ?_)
  refine l_nil ?_
  repeat (with_reducible first | refine c_seq ?_ | refine c_block ?_ | refine c_skip ?_ | refine x_then ?_ | refine x_block ?_)
  refine c_ret ?_
  repeat (with_reducible first | refine x_then_ret ?_ | refine x_block_ret ?_)
  refine r_three rfl rfl rfl rfl ?_
  refine ⟨?_, hS.below⟩
  rw [ofDigs_limb, ofDigs_limb]
  rfl
theorem GCD_ok (a b : ByteArray) (w : World) (ha : a.size ≤ 4398046511104) (hb : b.size ≤ 4398046511104) :
    Ret Tryz.prog 87 #[.string a, .string b] w fun r w' => r = .string (natS (Nat.gcd (val a) (val b))) ∧ Below w.heap.size w w' := by
  have hla := limb_val_len a
  have hlb := limb_val_len b
  have hS := St.init w
  refine enter Tryz.func87 rfl Tryz.ntmps87 rfl ?_
  repeat (with_reducible first | refine c_seq ?_ | refine c_block ?_ | refine c_skip ?_ | refine x_then ?_ | refine x_block ?_)
  refine c_reg ?_
  refine l_pure rfl (s_asg  rfl ?_)
  refine l_nil ?_
  repeat (with_reducible first | refine c_seq ?_ | refine c_block ?_ | refine c_skip ?_ | refine x_then ?_ | refine x_block ?_)
  refine c_reg ?_
  refine l_pure rfl (s_move  rfl ?_)
  refine l_heavy rfl (s_call Tryz.call62 rfl (parse_ok _ _ (by omega)) ?_)
  rintro vx w1 ⟨hx, hB1⟩
  replace hS := hS.grow hB1
  refine l_pure rfl (s_move  rfl ?_)
  refine l_heavy rfl (s_call Tryz.call62 rfl (parse_ok _ _ (by omega)) ?_)
  rintro vy w2 ⟨hy, hB2⟩
  replace hS := hS.grow hB2
  refine l_pure rfl (s_asg  rfl ?_)
  refine l_pure rfl (s_asg  rfl ?_)
  refine l_nil ?_
  repeat (with_reducible first | refine c_seq ?_ | refine c_block ?_ | refine c_skip ?_ | refine x_then ?_ | refine x_block ?_)
  refine c_loop (σ := Nat × Nat) (fun s ρ w' => Nat.gcd s.1 s.2 = Nat.gcd (val a) (val b) ∧ (limb s.1).length ≤ 4398046511104 ∧ (limb s.2).length ≤ 4398046511104 ∧ (∃ vx vy, ρ 5 = vx ∧ ρ 6 = vy ∧ Sl (uk .u32) 1 w' vx (limb s.1) ∧ Sl (uk .u32) 1 w' vy (limb s.2)) ∧ St w w' []) (fun s => s.2) (val a, val b)
    ⟨rfl, by simp only; omega, by simp only; omega, ⟨_, _, rfl, rfl, hx.below hB2, hy⟩, hS⟩ ?_
  clear hS hx hy
  rintro ⟨X, Y⟩ ρ w3 ⟨hg, hX, hY, ⟨vx, vy, h5, h6, hx, hy⟩, hS⟩
  simp only at hg hX hY hx hy
  repeat (with_reducible first | refine c_seq ?_ | refine c_block ?_ | refine c_skip ?_ | refine x_then ?_ | refine x_block ?_)
  refine c_reg ?_
  refine l_pure rfl (s_move  h6 ?_)
  refine l_pure rfl (s_lenr  rfl hy ⟨_, Tryz.underlying92⟩ ?_)
  refine l_pure rfl (s_gtr  rfl rfl ?_)
  refine l_nil ?_
  repeat (with_reducible first | refine c_seq ?_ | refine c_block ?_ | refine c_skip ?_ | refine x_then ?_ | refine x_block ?_)
  have hyn : (limb Y).length = 0 ↔ Y = 0 := limb_nil_iff
  by_cases hY0 : Y = 0
  · refine c_no rfl (decide_eq_false (by omega)) ?_
    repeat (with_reducible first | refine c_seq ?_ | refine c_block ?_ | refine c_skip ?_ | refine x_then ?_ | refine x_block ?_)
    refine c_exit ?_
    repeat (with_reducible first | refine x_then_exit ?_ | refine x_block_exit ?_ | refine x_block_pass rfl ?_)
    repeat (with_reducible first | refine c_seq ?_ | refine c_block ?_ | refine c_skip ?_ | refine x_then ?_ | refine x_block ?_)
    refine c_reg ?_
    refine l_pure rfl (s_move  h5 ?_)
    refine l_heavy rfl (s_call Tryz.call63 rfl (text_ok _ _ _ hx (limb_lt _) (by omega)) ?_)
    rintro r w4 ⟨rfl, hB4⟩
    refine l_pure rfl (s_asg  rfl ?_)
    refine l_nil ?_
    repeat (with_reducible first | refine c_seq ?_ | refine c_block ?_ | refine c_skip ?_ | refine x_then ?_ | refine x_block ?_)
    refine c_ret ?_
    repeat (with_reducible first | refine x_then_ret ?_ | refine x_block_ret ?_)
    refine r_one rfl rfl ?_
    rw [ofDigs_limb]
    rw [hY0, Nat.gcd_zero_right] at hg
    rw [hg]
    exact ⟨rfl, hS.below.trans (hB4.mono hS.below.size)⟩
  · refine c_yes rfl (decide_eq_true (by omega)) ?_
    repeat (with_reducible first | refine c_seq ?_ | refine c_block ?_ | refine c_skip ?_ | refine x_then ?_ | refine x_block ?_)
    have hlt : X % Y < Y := Nat.mod_lt _ (by omega)
    have hls := limb_len_mono (Nat.le_of_lt hlt)
    repeat (with_reducible first | refine c_seq ?_ | refine c_block ?_ | refine c_skip ?_ | refine x_then ?_ | refine x_block ?_)
    refine c_reg ?_
    refine l_pure rfl (s_move  h5 ?_)
    refine l_pure rfl (s_move  h6 ?_)
    refine l_heavy rfl (s_call Tryz.call106 rfl (divide_ok _ _ _ _ _ hx hy (by omega) (by omega) (by omega)) ?_)
    rintro r w4 ⟨⟨q, s, rfl, hq, hs⟩, hB4⟩
    refine l_pure rfl (s_move  rfl ?_)
    refine l_pure rfl (s_ext  rfl rfl ?_)
    refine l_pure rfl (s_ext  rfl rfl ?_)
    refine l_pure rfl (s_asg  rfl ?_)
    refine l_pure rfl (s_asg  rfl ?_)
    refine l_nil ?_
    repeat (with_reducible first | refine c_seq ?_ | refine c_block ?_ | refine c_skip ?_ | refine x_then ?_ | refine x_block ?_)
    refine c_reg ?_
    refine l_pure rfl (s_move  h6 ?_)
    refine l_pure rfl (s_move  rfl ?_)
    refine l_pure rfl (s_asg  rfl ?_)
    refine l_pure rfl (s_asg  rfl ?_)
    refine l_nil ?_
    repeat (with_reducible first | refine c_seq ?_ | refine c_block ?_ | refine c_skip ?_ | refine x_then ?_ | refine x_block ?_)
    refine ⟨(Y, X % Y), _, rfl, ⟨?_, hY, by simp only; omega, ⟨vy, s, rfl, rfl, hy.below hB4, hs⟩, hS.grow hB4⟩, hlt⟩
    simp only
    rw [← hg, Nat.gcd_comm Y, ← Nat.gcd_rec, Nat.gcd_comm]
end Go.Proofs.YtmghobajmhdbfaaGreatDoor
namespace Go.Proofs.YtmghobajmhdbfaaGreatDoor
open Go Go.RowKit Go.Sx
/-- The numbers' lengths that the walks take. -/
abbrev MX : Nat := 1099511627776
theorem N_gcd (m n : Nat) (w : World) (hm : (natS m).size ≤ 4398046511104) (hn : (natS n).size ≤ 4398046511104) :
    Ret Tryz.prog 87 #[.string (natS m), .string (natS n)] w fun r w' => r = .string (natS (Nat.gcd m n)) ∧ Below w.heap.size w w' := by
  have h := GCD_ok (natS m) (natS n) w hm hn
  rwa [val_natS, val_natS] at h
theorem N_div (m n : Nat) (w : World) (hm : (natS m).size ≤ 4398046511104) (hn : (natS n).size ≤ 4398046511104) (h0 : n ≠ 0) :
    Ret Tryz.prog 91 #[.string (natS m), .string (natS n)] w fun r w' => r = .tuple #[.string (natS (m / n)), .string (natS (m % n)), .bool true] ∧ Below w.heap.size w w' := by
  have h := Divide_ok (natS m) (natS n) w hm hn (by rwa [val_natS])
  rwa [val_natS, val_natS] at h
theorem N_mul (m n : Nat) (w : World) (hm : (natS m).size ≤ 4398046511104) (hn : (natS n).size ≤ 4398046511104) :
    Ret Tryz.prog 34 #[.string (natS m), .string (natS n)] w fun r w' => r = .string (natS (m * n)) ∧ Below w.heap.size w w' := by
  have h := Multiply_ok (natS m) (natS n) w hm hn
  rwa [val_natS, val_natS] at h
theorem N_add (m n : Nat) (w : World) (hm : (natS m).size ≤ 4398046511104) (hn : (natS n).size ≤ 4398046511104) :
    Ret Tryz.prog 65 #[.string (natS m), .string (natS n)] w fun r w' => r = .string (natS (m + n)) ∧ Below w.heap.size w w' := by
  have h := Add_ok (natS m) (natS n) w hm hn
  rwa [val_natS, val_natS] at h
theorem N_cmp (m n : Nat) (w : World) (hm : (natS m).size ≤ 4398046511104) (hn : (natS n).size ≤ 4398046511104) :
    Ret Tryz.prog 33 #[.string (natS m), .string (natS n)] w fun r w' => r = .int .i64 (cmpI m n) ∧ w' = w := by
  have h := Compare_ok (natS m) (natS n) w (by omega) (by omega)
  rwa [val_natS, val_natS] at h
theorem N_sub (m n : Nat) (w : World) (hm : (natS m).size ≤ 4398046511104) (hn : (natS n).size ≤ 4398046511104) (hle : n ≤ m) :
    Ret Tryz.prog 66 #[.string (natS m), .string (natS n)] w fun r w' => r = .tuple #[.string (natS (m - n)), .bool true] ∧ Below w.heap.size w w' := by
  have h := Subtract_ok (natS m) (natS n) w hm hn
  rw [val_natS, val_natS] at h
  exact h.mono fun _ _ g => by rwa [if_pos hle] at g
theorem N_sub_no (m n : Nat) (w : World) (hm : (natS m).size ≤ 4398046511104) (hn : (natS n).size ≤ 4398046511104) (hlt : m < n) :
    Ret Tryz.prog 66 #[.string (natS m), .string (natS n)] w fun r w' => r = .tuple #[.string ⟨#[]⟩, .bool false] ∧ Below w.heap.size w w' := by
  have h := Subtract_ok (natS m) (natS n) w hm hn
  rw [val_natS, val_natS] at h
  exact h.mono fun _ _ g => by rwa [if_neg (Nat.not_le_of_gt hlt)] at g
end Go.Proofs.YtmghobajmhdbfaaGreatDoor
namespace Go.Proofs.YtmghobajmhdbfaaGreatDoor
open Go Go.RowKit Go.Sx
theorem nsz (s : ByteArray) {k : Nat} (h : s.size ≤ k) : (natS (val s)).size ≤ k := Nat.le_trans (natS_val_size_le s) h
theorem one_eq {n : Nat} : natS n = ⟨#[1]⟩ ↔ n = 1 := by rw [← natS_one]; exact ⟨fun h => natS_inj h, fun h => by rw [h]⟩
theorem natS_one' {n : Nat} (h : n = 1) : natS n = ⟨#[1]⟩ := one_eq.2 h
theorem Valid_ok (r : RR) (w : World) (hr : Lr r ≤ MX) :
    Ret Tryz.prog 58 #[aggR r] w fun v w' => v = .bool (decide (Vld r)) ∧ Below w.heap.size w w' := by
  have hM : MX = 1099511627776 := rfl
  have hn := num_size_le r
  have hd := den_size_le r
  have hV := Vld_iff r
  have hS := St.init w
  refine enter Tryz.func58 rfl Tryz.ntmps58 rfl ?_
  repeat (with_reducible first | refine c_seq ?_ | refine c_block ?_ | refine c_skip ?_ | refine x_then ?_ | refine x_block ?_)
  refine c_reg ?_
  refine l_heavy rfl (s_box (new := encR r)  rfl rfl hS ?_)
  intro b1 wz2 hS hBz2
  refine l_pure rfl (s_asg  rfl ?_)
  refine l_nil ?_
  repeat (with_reducible first | refine c_seq ?_ | refine c_block ?_ | refine c_skip ?_ | refine x_then ?_ | refine x_block ?_)
  by_cases h1 : natS (val r.num) = r.num
  · by_cases h2 : natS (val r.den) = r.den
    · repeat (with_reducible first | refine c_seq ?_ | refine c_block ?_ | refine c_skip ?_ | refine x_then ?_ | refine x_block ?_)
      refine c_draw [(0, .pure), (1, .read), (3, .pure), (4, .read), (2, .grow), (5, .pure), (6, .pure), (7, .pure), (8, .read), (10, .pure), (11, .read), (9, .grow), (12, .pure), (13, .pure)] (by kernel_rfl) (by kernel_rfl) hS ?_
      intro wz3 hS hBz3
      refine w_pure rfl rfl (s_fld  rfl fo_36_1 ?_)
      refine w_read rfl rfl (s_ldo (k := 0)  rfl vi_9 hS rfl rfl rfl (.inr rfl) ?_)
      refine w_pure rfl rfl (s_fld  rfl fo_36_1 ?_)
      refine w_read rfl rfl (s_ldo (k := 0)  rfl vi_9 hS rfl rfl rfl (.inr rfl) ?_)
      refine w_grow rfl rfl (s_call Tryz.call59 rfl (Normalize_ok _ _ (show r.num.size ≤ _ by omega)) ?_)
      rintro _ wq4 ⟨rfl, hq4⟩
      replace hq4 := hq4.symm
      subst hq4
      refine ⟨Below.refl _ _, ?_⟩
      refine w_pure rfl rfl (s_nes  rfl rfl ?_)
      refine w_pure rfl rfl (s_move  rfl ?_)
      refine w_pure rfl (gd_yes 9 (by kernel_rfl) rfl (decide_eq_false (by exact not_not_intro h1))) (s_fld  rfl fo_36_2 ?_)
      refine w_read rfl (gd_yes 9 (by kernel_rfl) rfl (decide_eq_false (by exact not_not_intro h1))) (s_ldo (k := 0)  rfl vi_9 hS rfl rfl rfl (.inr rfl) ?_)
      refine w_pure rfl (gd_yes 9 (by kernel_rfl) rfl (decide_eq_false (by exact not_not_intro h1))) (s_fld  rfl fo_36_2 ?_)
      refine w_read rfl (gd_yes 9 (by kernel_rfl) rfl (decide_eq_false (by exact not_not_intro h1))) (s_ldo (k := 0)  rfl vi_9 hS rfl rfl rfl (.inr rfl) ?_)
      refine w_grow rfl (gd_yes 9 (by kernel_rfl) rfl (decide_eq_false (not_not_intro h1))) (s_call Tryz.call59 rfl (Normalize_ok _ _ (show r.den.size ≤ _ by omega)) ?_)
      rintro _ wq5 ⟨rfl, hq5⟩
      replace hq5 := hq5.symm
      subst hq5
      refine ⟨Below.refl _ _, ?_⟩
      refine w_pure rfl (gd_yes 9 (by kernel_rfl) rfl (decide_eq_false (by exact not_not_intro h1))) (s_nes  rfl rfl ?_)
      refine w_pure rfl rfl (s_pick (vb rfl (decide_eq_false (by exact not_not_intro h1))) rfl ?_)
      refine w_end ?_
      repeat (with_reducible first | refine c_seq ?_ | refine c_block ?_ | refine c_skip ?_ | refine x_then ?_ | refine x_block ?_)
      refine c_no rfl (decide_eq_false (not_not_intro h2)) ?_
      repeat (with_reducible first | refine c_seq ?_ | refine c_block ?_ | refine c_skip ?_ | refine x_then ?_ | refine x_block ?_)
      refine c_reg ?_
      refine l_pure rfl (s_fld  rfl fo_36_1 ?_)
      refine l_read rfl (s_ldo (k := 0)  rfl vi_9 hS rfl rfl rfl (.inr rfl) ?_)
      refine l_pure rfl (s_eqs  rfl rfl ?_)
      refine l_nil ?_
      repeat (with_reducible first | refine c_seq ?_ | refine c_block ?_ | refine c_skip ?_ | refine x_then ?_ | refine x_block ?_)
      by_cases h3 : r.num = ⟨#[]⟩
      · refine c_yes rfl (decide_eq_true h3) ?_
        repeat (with_reducible first | refine c_seq ?_ | refine c_block ?_ | refine c_skip ?_ | refine x_then ?_ | refine x_block ?_)
        by_cases h4 : r.neg = false
        · repeat (with_reducible first | refine c_seq ?_ | refine c_block ?_ | refine c_skip ?_ | refine x_then ?_ | refine x_block ?_)
          refine c_reg ?_
          refine l_pure rfl (s_fld  rfl fo_36_0 ?_)
          refine l_read rfl (s_ldo (k := 0)  rfl vi_4 hS rfl rfl rfl (.inr rfl) ?_)
          refine l_pure rfl (s_not  rfl ?_)
          refine l_pure rfl (s_move  rfl ?_)
          refine l_pure (gd_yes 23 (by kernel_rfl) rfl (by show (!r.neg) = true; rw [h4]; rfl)) (s_fld  rfl fo_36_2 ?_)
          refine l_read (gd_yes 23 (by kernel_rfl) rfl (by show (!r.neg) = true; rw [h4]; rfl)) (s_ldo (k := 0)  rfl vi_9 hS rfl rfl rfl (.inr rfl) ?_)
          refine l_pure (gd_yes 23 (by kernel_rfl) rfl (by show (!r.neg) = true; rw [h4]; rfl)) (s_eqs  rfl rfl ?_)
          refine l_pure rfl (s_pick (vb rfl (by show (!r.neg) = true; rw [h4]; rfl)) rfl ?_)
          refine l_pure rfl (s_asg  rfl ?_)
          refine l_nil ?_
          repeat (with_reducible first | refine c_seq ?_ | refine c_block ?_ | refine c_skip ?_ | refine x_then ?_ | refine x_block ?_)
          refine c_ret ?_
          repeat (with_reducible first | refine x_then_ret ?_ | refine x_block_ret ?_)
          refine r_one rfl rfl ?_
          refine ⟨congrArg Value.bool ?_, hS.below⟩
          rw [decide_eq_decide, hV]
          exact ⟨fun h => ⟨h1, h2, fun _ => ⟨h4, h⟩, fun h => absurd h3 h⟩, fun h => (h.2.2.1 h3).2⟩
        · repeat (with_reducible first | refine c_seq ?_ | refine c_block ?_ | refine c_skip ?_ | refine x_then ?_ | refine x_block ?_)
          refine c_reg ?_
          refine l_pure rfl (s_fld  rfl fo_36_0 ?_)
          refine l_read rfl (s_ldo (k := 0)  rfl vi_4 hS rfl rfl rfl (.inr rfl) ?_)
          refine l_pure rfl (s_not  rfl ?_)
          refine l_pure rfl (s_move  rfl ?_)
          refine l_no (gno_yes 23 (by kernel_rfl) rfl (by show (!r.neg) = false; rw [Bool.not_eq_false] at h4; rw [h4]; rfl)) ?_
          refine l_no (gno_yes 23 (by kernel_rfl) rfl (by show (!r.neg) = false; rw [Bool.not_eq_false] at h4; rw [h4]; rfl)) ?_
          refine l_no (gno_yes 23 (by kernel_rfl) rfl (by show (!r.neg) = false; rw [Bool.not_eq_false] at h4; rw [h4]; rfl)) ?_
          refine l_pure rfl (s_pick (vb rfl (by show (!r.neg) = false; rw [Bool.not_eq_false] at h4; rw [h4]; rfl)) rfl ?_)
          refine l_pure rfl (s_asg  rfl ?_)
          refine l_nil ?_
          repeat (with_reducible first | refine c_seq ?_ | refine c_block ?_ | refine c_skip ?_ | refine x_then ?_ | refine x_block ?_)
          refine c_ret ?_
          repeat (with_reducible first | refine x_then_ret ?_ | refine x_block_ret ?_)
          refine r_one rfl rfl ?_
          refine ⟨congrArg Value.bool ?_, hS.below⟩
          symm; rw [decide_eq_false_iff_not, hV]
          exact fun h => h4 (h.2.2.1 h3).1
      · refine c_no rfl (decide_eq_false h3) ?_
        repeat (with_reducible first | refine c_seq ?_ | refine c_block ?_ | refine c_skip ?_ | refine x_then ?_ | refine x_block ?_)
        by_cases h4 : r.den = ⟨#[]⟩
        · repeat (with_reducible first | refine c_seq ?_ | refine c_block ?_ | refine c_skip ?_ | refine x_then ?_ | refine x_block ?_)
          refine c_reg ?_
          refine l_pure rfl (s_fld  rfl fo_36_2 ?_)
          refine l_read rfl (s_ldo (k := 0)  rfl vi_9 hS rfl rfl rfl (.inr rfl) ?_)
          refine l_pure rfl (s_eqs  rfl rfl ?_)
          refine l_pure rfl (s_move  rfl ?_)
          refine l_no (gno_yes 31 (by kernel_rfl) rfl (decide_eq_true h4)) ?_
          refine l_no (gno_yes 31 (by kernel_rfl) rfl (decide_eq_true h4)) ?_
          refine l_no (gno_yes 31 (by kernel_rfl) rfl (decide_eq_true h4)) ?_
          refine l_no (gno_yes 31 (by kernel_rfl) rfl (decide_eq_true h4)) ?_
          refine l_no (gno_un 35 (by kernel_rfl) rfl) ?_
          refine l_no (gno_un 35 (by kernel_rfl) rfl) ?_
          refine l_no (gno_un 35 (by kernel_rfl) rfl) ?_
          refine l_no (gno_un 35 (by kernel_rfl) rfl) ?_
          refine l_no (gno_un 35 (by kernel_rfl) rfl) ?_
          refine l_no (gno_un 35 (by kernel_rfl) rfl) ?_
          refine l_no (gno_yes 31 (by kernel_rfl) rfl (decide_eq_true h4)) ?_
          refine l_pure rfl (s_pick (vb rfl (decide_eq_true h4)) rfl ?_)
          refine l_pure rfl (s_asg  rfl ?_)
          refine l_nil ?_
          repeat (with_reducible first | refine c_seq ?_ | refine c_block ?_ | refine c_skip ?_ | refine x_then ?_ | refine x_block ?_)
          refine c_ret ?_
          repeat (with_reducible first | refine x_then_ret ?_ | refine x_block_ret ?_)
          refine r_one rfl rfl ?_
          refine ⟨congrArg Value.bool ?_, hS.below⟩
          symm; rw [decide_eq_true_iff, hV]
          exact ⟨h1, h2, fun h => absurd h h3, fun _ => .inl h4⟩
        · by_cases h5 : r.den = ⟨#[1]⟩
          · repeat (with_reducible first | refine c_seq ?_ | refine c_block ?_ | refine c_skip ?_ | refine x_then ?_ | refine x_block ?_)
            refine c_reg ?_
            refine l_pure rfl (s_fld  rfl fo_36_2 ?_)
            refine l_read rfl (s_ldo (k := 0)  rfl vi_9 hS rfl rfl rfl (.inr rfl) ?_)
            refine l_pure rfl (s_eqs  rfl rfl ?_)
            refine l_pure rfl (s_move  rfl ?_)
            refine l_pure (gd_yes 31 (by kernel_rfl) rfl (decide_eq_false h4)) (s_fld  rfl fo_36_2 ?_)
            refine l_read (gd_yes 31 (by kernel_rfl) rfl (decide_eq_false h4)) (s_ldo (k := 0)  rfl vi_9 hS rfl rfl rfl (.inr rfl) ?_)
            refine l_pure (gd_yes 31 (by kernel_rfl) rfl (decide_eq_false h4)) (s_nes  rfl rfl ?_)
            refine l_pure (gd_yes 31 (by kernel_rfl) rfl (decide_eq_false h4)) (s_move  rfl ?_)
            refine l_no (gno_yes 35 (by kernel_rfl) rfl (decide_eq_false (not_not_intro h5))) ?_
            refine l_no (gno_yes 35 (by kernel_rfl) rfl (decide_eq_false (not_not_intro h5))) ?_
            refine l_no (gno_yes 35 (by kernel_rfl) rfl (decide_eq_false (not_not_intro h5))) ?_
            refine l_no (gno_yes 35 (by kernel_rfl) rfl (decide_eq_false (not_not_intro h5))) ?_
            refine l_no (gno_yes 35 (by kernel_rfl) rfl (decide_eq_false (not_not_intro h5))) ?_
            refine l_no (gno_yes 35 (by kernel_rfl) rfl (decide_eq_false (not_not_intro h5))) ?_
            refine l_pure (gd_yes 31 (by kernel_rfl) rfl (decide_eq_false h4)) (s_pick (vb rfl (decide_eq_false (not_not_intro h5))) rfl ?_)
            refine l_pure rfl (s_pick (vb rfl (decide_eq_false h4)) rfl ?_)
            refine l_pure rfl (s_asg  rfl ?_)
            refine l_nil ?_
            repeat (with_reducible first | refine c_seq ?_ | refine c_block ?_ | refine c_skip ?_ | refine x_then ?_ | refine x_block ?_)
            refine c_ret ?_
            repeat (with_reducible first | refine x_then_ret ?_ | refine x_block_ret ?_)
            refine r_one rfl rfl ?_
            refine ⟨congrArg Value.bool ?_, hS.below⟩
            symm; rw [decide_eq_false_iff_not, hV]
            exact fun h => (h.2.2.2 h3).elim h4 (fun g => g.1 h5)
          · repeat (with_reducible first | refine c_seq ?_ | refine c_block ?_ | refine c_skip ?_ | refine x_then ?_ | refine x_block ?_)
            refine c_reg ?_
            refine l_pure rfl (s_fld  rfl fo_36_2 ?_)
            refine l_read rfl (s_ldo (k := 0)  rfl vi_9 hS rfl rfl rfl (.inr rfl) ?_)
            refine l_pure rfl (s_eqs  rfl rfl ?_)
            refine l_pure rfl (s_move  rfl ?_)
            refine l_pure (gd_yes 31 (by kernel_rfl) rfl (decide_eq_false h4)) (s_fld  rfl fo_36_2 ?_)
            refine l_read (gd_yes 31 (by kernel_rfl) rfl (decide_eq_false h4)) (s_ldo (k := 0)  rfl vi_9 hS rfl rfl rfl (.inr rfl) ?_)
            refine l_pure (gd_yes 31 (by kernel_rfl) rfl (decide_eq_false h4)) (s_nes  rfl rfl ?_)
            refine l_pure (gd_yes 31 (by kernel_rfl) rfl (decide_eq_false h4)) (s_move  rfl ?_)
            refine l_pure (gd_yes 35 (by kernel_rfl) rfl (decide_eq_true h5)) (s_fld  rfl fo_36_1 ?_)
            refine l_read (gd_yes 35 (by kernel_rfl) rfl (decide_eq_true h5)) (s_ldo (k := 0)  rfl vi_9 hS rfl rfl rfl (.inr rfl) ?_)
            refine l_pure (gd_yes 35 (by kernel_rfl) rfl (decide_eq_true h5)) (s_fld  rfl fo_36_2 ?_)
            refine l_read (gd_yes 35 (by kernel_rfl) rfl (decide_eq_true h5)) (s_ldo (k := 0)  rfl vi_9 hS rfl rfl rfl (.inr rfl) ?_)
            refine l_heavy (gd_yes 35 (by kernel_rfl) rfl (decide_eq_true h5)) (s_call Tryz.call87 rfl (GCD_ok _ _ _ (show r.num.size ≤ _ by omega) (show r.den.size ≤ _ by omega)) ?_)
            rintro _ wc6 ⟨rfl, hBc6⟩
            replace hS := hS.grow hBc6
            refine l_pure (gd_yes 35 (by kernel_rfl) rfl (decide_eq_true h5)) (s_eqs  rfl rfl ?_)
            refine l_pure (gd_yes 31 (by kernel_rfl) rfl (decide_eq_false h4)) (s_pick (vb rfl (decide_eq_true h5)) rfl ?_)
            refine l_pure rfl (s_pick (vb rfl (decide_eq_false h4)) rfl ?_)
            refine l_pure rfl (s_asg  rfl ?_)
            refine l_nil ?_
            repeat (with_reducible first | refine c_seq ?_ | refine c_block ?_ | refine c_skip ?_ | refine x_then ?_ | refine x_block ?_)
            refine c_ret ?_
            repeat (with_reducible first | refine x_then_ret ?_ | refine x_block_ret ?_)
            refine r_one rfl rfl ?_
            refine ⟨congrArg Value.bool ?_, hS.below⟩
            rw [decide_eq_decide, hV, one_eq]
            exact ⟨fun h => ⟨h1, h2, fun h => absurd h h3, fun _ => .inr ⟨h5, h⟩⟩, fun h => (h.2.2.2 h3).elim (fun g => absurd g h4) (fun g => g.2)⟩
    · repeat (with_reducible first | refine c_seq ?_ | refine c_block ?_ | refine c_skip ?_ | refine x_then ?_ | refine x_block ?_)
      refine c_draw [(0, .pure), (1, .read), (3, .pure), (4, .read), (2, .grow), (5, .pure), (6, .pure), (7, .pure), (8, .read), (10, .pure), (11, .read), (9, .grow), (12, .pure), (13, .pure)] (by kernel_rfl) (by kernel_rfl) hS ?_
      intro wz7 hS hBz7
      refine w_pure rfl rfl (s_fld  rfl fo_36_1 ?_)
      refine w_read rfl rfl (s_ldo (k := 0)  rfl vi_9 hS rfl rfl rfl (.inr rfl) ?_)
      refine w_pure rfl rfl (s_fld  rfl fo_36_1 ?_)
      refine w_read rfl rfl (s_ldo (k := 0)  rfl vi_9 hS rfl rfl rfl (.inr rfl) ?_)
      refine w_grow rfl rfl (s_call Tryz.call59 rfl (Normalize_ok _ _ (show r.num.size ≤ _ by omega)) ?_)
      rintro _ wq8 ⟨rfl, hq8⟩
      replace hq8 := hq8.symm
      subst hq8
      refine ⟨Below.refl _ _, ?_⟩
      refine w_pure rfl rfl (s_nes  rfl rfl ?_)
      refine w_pure rfl rfl (s_move  rfl ?_)
      refine w_pure rfl (gd_yes 9 (by kernel_rfl) rfl (decide_eq_false (by exact not_not_intro h1))) (s_fld  rfl fo_36_2 ?_)
      refine w_read rfl (gd_yes 9 (by kernel_rfl) rfl (decide_eq_false (by exact not_not_intro h1))) (s_ldo (k := 0)  rfl vi_9 hS rfl rfl rfl (.inr rfl) ?_)
      refine w_pure rfl (gd_yes 9 (by kernel_rfl) rfl (decide_eq_false (by exact not_not_intro h1))) (s_fld  rfl fo_36_2 ?_)
      refine w_read rfl (gd_yes 9 (by kernel_rfl) rfl (decide_eq_false (by exact not_not_intro h1))) (s_ldo (k := 0)  rfl vi_9 hS rfl rfl rfl (.inr rfl) ?_)
      refine w_grow rfl (gd_yes 9 (by kernel_rfl) rfl (decide_eq_false (not_not_intro h1))) (s_call Tryz.call59 rfl (Normalize_ok _ _ (show r.den.size ≤ _ by omega)) ?_)
      rintro _ wq9 ⟨rfl, hq9⟩
      replace hq9 := hq9.symm
      subst hq9
      refine ⟨Below.refl _ _, ?_⟩
      refine w_pure rfl (gd_yes 9 (by kernel_rfl) rfl (decide_eq_false (by exact not_not_intro h1))) (s_nes  rfl rfl ?_)
      refine w_pure rfl rfl (s_pick (vb rfl (decide_eq_false (by exact not_not_intro h1))) rfl ?_)
      refine w_end ?_
      repeat (with_reducible first | refine c_seq ?_ | refine c_block ?_ | refine c_skip ?_ | refine x_then ?_ | refine x_block ?_)
      refine c_yes rfl (decide_eq_true h2) ?_
      repeat (with_reducible first | refine c_seq ?_ | refine c_block ?_ | refine c_skip ?_ | refine x_then ?_ | refine x_block ?_)
      refine c_reg ?_
      refine l_pure rfl (s_asg  rfl ?_)
      refine l_nil ?_
      repeat (with_reducible first | refine c_seq ?_ | refine c_block ?_ | refine c_skip ?_ | refine x_then ?_ | refine x_block ?_)
      refine c_ret ?_
      repeat (with_reducible first | refine x_then_ret ?_ | refine x_block_ret ?_)
      refine r_one rfl rfl ?_
      refine ⟨congrArg Value.bool ?_, hS.below⟩
      symm; rw [decide_eq_false_iff_not, hV]
      exact fun h => h2 h.2.1
  · repeat (with_reducible first | refine c_seq ?_ | refine c_block ?_ | refine c_skip ?_ | refine x_then ?_ | refine x_block ?_)
    refine c_draw [(0, .pure), (1, .read), (3, .pure), (4, .read), (2, .grow), (5, .pure), (6, .pure), (7, .pure), (8, .read), (10, .pure), (11, .read), (9, .grow), (12, .pure), (13, .pure)] (by kernel_rfl) (by kernel_rfl) hS ?_
    intro wz10 hS hBz10
    refine w_pure rfl rfl (s_fld  rfl fo_36_1 ?_)
    refine w_read rfl rfl (s_ldo (k := 0)  rfl vi_9 hS rfl rfl rfl (.inr rfl) ?_)
    refine w_pure rfl rfl (s_fld  rfl fo_36_1 ?_)
    refine w_read rfl rfl (s_ldo (k := 0)  rfl vi_9 hS rfl rfl rfl (.inr rfl) ?_)
    refine w_grow rfl rfl (s_call Tryz.call59 rfl (Normalize_ok _ _ (show r.num.size ≤ _ by omega)) ?_)
    rintro _ wq11 ⟨rfl, hq11⟩
    replace hq11 := hq11.symm
    subst hq11
    refine ⟨Below.refl _ _, ?_⟩
    refine w_pure rfl rfl (s_nes  rfl rfl ?_)
    refine w_pure rfl rfl (s_move  rfl ?_)
    refine w_no rfl (gno_yes 9 (by kernel_rfl) rfl (decide_eq_true h1)) ?_
    refine w_no rfl (gno_yes 9 (by kernel_rfl) rfl (decide_eq_true h1)) ?_
    refine w_no rfl (gno_yes 9 (by kernel_rfl) rfl (decide_eq_true h1)) ?_
    refine w_no rfl (gno_yes 9 (by kernel_rfl) rfl (decide_eq_true h1)) ?_
    refine w_no rfl (gno_yes 9 (by kernel_rfl) rfl (decide_eq_true h1)) ?_
    refine w_no rfl (gno_yes 9 (by kernel_rfl) rfl (decide_eq_true h1)) ?_
    refine w_pure rfl rfl (s_pick (vb rfl (decide_eq_true h1)) rfl ?_)
    refine w_end ?_
    repeat (with_reducible first | refine c_seq ?_ | refine c_block ?_ | refine c_skip ?_ | refine x_then ?_ | refine x_block ?_)
    refine c_yes rfl (rfl) ?_
    repeat (with_reducible first | refine c_seq ?_ | refine c_block ?_ | refine c_skip ?_ | refine x_then ?_ | refine x_block ?_)
    refine c_reg ?_
    refine l_pure rfl (s_asg  rfl ?_)
    refine l_nil ?_
    repeat (with_reducible first | refine c_seq ?_ | refine c_block ?_ | refine c_skip ?_ | refine x_then ?_ | refine x_block ?_)
    refine c_ret ?_
    repeat (with_reducible first | refine x_then_ret ?_ | refine x_block_ret ?_)
    refine r_one rfl rfl ?_
    refine ⟨congrArg Value.bool ?_, hS.below⟩
    symm; rw [decide_eq_false_iff_not, hV]
    exact fun h => h1 h.1
theorem clean_ok (r : RR) (w : World) (hr : Lr r ≤ MX) :
    Ret Tryz.prog 31 #[aggR r] w fun v w' => v = aggR (fx r) ∧ Below w.heap.size w w' := by
  have hS := St.init w
  refine enter Tryz.func31 rfl Tryz.ntmps31 rfl ?_
  repeat (with_reducible first | refine c_seq ?_ | refine c_block ?_ | refine c_skip ?_ | refine x_then ?_ | refine x_block ?_)
  refine c_reg ?_
  refine l_heavy rfl (s_box (new := encR r)  rfl rfl hS ?_)
  intro b1 wz2 hS hBz2
  refine l_heavy rfl (s_alloc  vi_36 hS ?_)
  intro b3 wz4 hS hBz4
  refine l_nil ?_
  repeat (with_reducible first | refine c_seq ?_ | refine c_block ?_ | refine c_skip ?_ | refine x_then ?_ | refine x_block ?_)
  refine c_reg ?_
  refine l_read rfl (s_ldo (k := 1)  rfl vi_36 hS rfl rfl rfl (.inl rfl) ?_)
  refine l_heavy rfl (s_call Tryz.call58 rfl (Valid_ok r _ hr) ?_)
  rintro _ wc5 ⟨rfl, hBc5⟩
  replace hS := hS.grow hBc5
  refine l_pure rfl (s_not  rfl ?_)
  refine l_nil ?_
  repeat (with_reducible first | refine c_seq ?_ | refine c_block ?_ | refine c_skip ?_ | refine x_then ?_ | refine x_block ?_)
  by_cases h : Vld r
  · refine c_no rfl (by rw [decide_eq_true h]; rfl) ?_
    repeat (with_reducible first | refine c_seq ?_ | refine c_block ?_ | refine c_skip ?_ | refine x_then ?_ | refine x_block ?_)
    refine c_reg ?_
    refine l_read rfl (s_ldo (k := 1)  rfl vi_36 hS rfl rfl rfl (.inl rfl) ?_)
    refine l_heavy rfl (s_sta (k := 0)  rfl rfl vi_36 hS rfl rfl rfl (Nat.le_of_ble_eq_true rfl) rfl ?_)
    intro wz6 hS
    refine l_nil ?_
    repeat (with_reducible first | refine c_seq ?_ | refine c_block ?_ | refine c_skip ?_ | refine x_then ?_ | refine x_block ?_)
    refine c_ret ?_
    repeat (with_reducible first | refine x_then_ret ?_ | refine x_block_ret ?_)
    refine r_cell (k := 0) rfl rfl vi_36 hS rfl rfl ?_
    rw [fx_vld h]
    exact ⟨rfl, hS.below⟩
  · refine c_yes rfl (by rw [decide_eq_false h]; rfl) ?_
    repeat (with_reducible first | refine c_seq ?_ | refine c_block ?_ | refine c_skip ?_ | refine x_then ?_ | refine x_block ?_)
    refine c_reg ?_
    refine l_pure rfl (s_build  rfl bz_36 ?_)
    refine l_heavy rfl (s_sta (k := 0)  rfl rfl vi_36 hS rfl rfl rfl (Nat.le_of_ble_eq_true rfl) rfl ?_)
    intro wz7 hS
    refine l_nil ?_
    repeat (with_reducible first | refine c_seq ?_ | refine c_block ?_ | refine c_skip ?_ | refine x_then ?_ | refine x_block ?_)
    refine c_ret ?_
    repeat (with_reducible first | refine x_then_ret ?_ | refine x_block_ret ?_)
    refine r_cell (k := 0) rfl rfl vi_36 hS rfl rfl ?_
    rw [fx_bad h]
    exact ⟨rfl, hS.below⟩
theorem ofQ_den (q : Rat) : (ofQ q).den = if q.den = 1 then ⟨#[]⟩ else natS q.den := rfl
theorem den_eq (q : Rat) : (if (ofQ q).den = ⟨#[]⟩ then (⟨#[1]⟩ : ByteArray) else (ofQ q).den) = natS q.den := by
  rw [ofQ_den]
  by_cases h : q.den = 1
  · simp only [h, if_true]; exact natS_one.symm
  · have h1 : natS q.den ≠ ⟨#[]⟩ := fun h0 => q.den_nz (natS_nil.1 h0)
    simp only [h, if_false, h1]
theorem den_ok (q : Rat) (w : World) :
    Ret Tryz.prog 35 #[aggR (ofQ q)] w fun v w' => v = .string (natS q.den) ∧ Below w.heap.size w w' := by
  have hS := St.init w
  have hq := den_eq q
  refine enter Tryz.func35 rfl Tryz.ntmps35 rfl ?_
  repeat (with_reducible first | refine c_seq ?_ | refine c_block ?_ | refine c_skip ?_ | refine x_then ?_ | refine x_block ?_)
  refine c_reg ?_
  refine l_heavy rfl (s_box (new := encR (ofQ q))  rfl rfl hS ?_)
  intro b1 wz2 hS hBz2
  refine l_pure rfl (s_asg  rfl ?_)
  refine l_nil ?_
  repeat (with_reducible first | refine c_seq ?_ | refine c_block ?_ | refine c_skip ?_ | refine x_then ?_ | refine x_block ?_)
  refine c_reg ?_
  refine l_pure rfl (s_fld  rfl fo_36_2 ?_)
  refine l_read rfl (s_ldo (k := 0)  rfl vi_9 hS rfl rfl rfl (.inr rfl) ?_)
  refine l_pure rfl (s_eqs  rfl rfl ?_)
  refine l_nil ?_
  repeat (with_reducible first | refine c_seq ?_ | refine c_block ?_ | refine c_skip ?_ | refine x_then ?_ | refine x_block ?_)
  by_cases h : (ofQ q).den = ⟨#[]⟩
  · refine c_yes rfl (decide_eq_true h) ?_
    repeat (with_reducible first | refine c_seq ?_ | refine c_block ?_ | refine c_skip ?_ | refine x_then ?_ | refine x_block ?_)
    refine c_reg ?_
    refine l_pure rfl (s_asg  rfl ?_)
    refine l_nil ?_
    repeat (with_reducible first | refine c_seq ?_ | refine c_block ?_ | refine c_skip ?_ | refine x_then ?_ | refine x_block ?_)
    refine c_ret ?_
    repeat (with_reducible first | refine x_then_ret ?_ | refine x_block_ret ?_)
    refine r_one rfl rfl ?_
    rw [if_pos h] at hq
    exact ⟨congrArg Value.string hq, hS.below⟩
  · refine c_no rfl (decide_eq_false h) ?_
    repeat (with_reducible first | refine c_seq ?_ | refine c_block ?_ | refine c_skip ?_ | refine x_then ?_ | refine x_block ?_)
    refine c_reg ?_
    refine l_pure rfl (s_fld  rfl fo_36_2 ?_)
    refine l_read rfl (s_ldo (k := 0)  rfl vi_9 hS rfl rfl rfl (.inr rfl) ?_)
    refine l_pure rfl (s_asg  rfl ?_)
    refine l_nil ?_
    repeat (with_reducible first | refine c_seq ?_ | refine c_block ?_ | refine c_skip ?_ | refine x_then ?_ | refine x_block ?_)
    refine c_ret ?_
    repeat (with_reducible first | refine x_then_ret ?_ | refine x_block_ret ?_)
    refine r_one rfl rfl ?_
    rw [if_neg h] at hq
    exact ⟨congrArg Value.string hq, hS.below⟩
end Go.Proofs.YtmghobajmhdbfaaGreatDoor
namespace Go.Proofs.YtmghobajmhdbfaaGreatDoor
open Go Go.RowKit Go.Sx
theorem lenN {n m k : Nat} (h : m ≤ n) (hk : (natS n).size ≤ k) : (natS m).size ≤ k := Nat.le_trans (natS_size_mono h) hk
theorem built_Rat (b : Bool) (s d : ByteArray) : Tryz.prog.built 36 [(0, .bool b), (1, .string s), (2, .string d)] = some #[.bool b, .string s, .string d] := by kernel_rfl
theorem reduced_ok (b : Bool) (num den : ByteArray) (w : World) (hn : num.size ≤ 2 * MX) (hd : den.size ≤ 2 * MX) (h0 : val den ≠ 0) :
    Ret Tryz.prog 64 #[.bool b, .string num, .string den] w fun v w' => v = aggR (ofQ (mkRat (sg b (val num)) (val den))) ∧ Below w.heap.size w w' := by
  have hM : MX = 1099511627776 := rfl
  have h1 := nsz num hn
  have h2 := nsz den hd
  have hS := St.init w
  refine enter Tryz.func64 rfl Tryz.ntmps64 rfl ?_
  repeat (with_reducible first | refine c_seq ?_ | refine c_block ?_ | refine c_skip ?_ | refine x_then ?_ | refine x_block ?_)
  refine c_reg ?_
  refine l_heavy rfl (s_alloc  vi_36 hS ?_)
  intro b1 wz2 hS hBz2
  refine l_nil ?_
  repeat (with_reducible first | refine c_seq ?_ | refine c_block ?_ | refine c_skip ?_ | refine x_then ?_ | refine x_block ?_)
  refine c_reg ?_
  refine l_pure rfl (s_move  rfl ?_)
  refine l_heavy rfl (s_call Tryz.call59 rfl (Normalize_ok _ _ (show num.size ≤ _ by omega)) ?_)
  rintro _ wq3 ⟨rfl, hq3⟩
  replace hq3 := hq3.symm
  subst hq3
  refine l_pure rfl (s_move  rfl ?_)
  refine l_heavy rfl (s_call Tryz.call59 rfl (Normalize_ok _ _ (show den.size ≤ _ by omega)) ?_)
  rintro _ wq4 ⟨rfl, hq4⟩
  replace hq4 := hq4.symm
  subst hq4
  refine l_pure rfl (s_asg  rfl ?_)
  refine l_pure rfl (s_asg  rfl ?_)
  refine l_nil ?_
  repeat (with_reducible first | refine c_seq ?_ | refine c_block ?_ | refine c_skip ?_ | refine x_then ?_ | refine x_block ?_)
  obtain ⟨n, hnn⟩ : ∃ n, n = val num := ⟨_, rfl⟩
  obtain ⟨d, hdd⟩ : ∃ d, d = val den := ⟨_, rfl⟩
  rw [← hnn, ← hdd]
  rw [← hnn] at h1
  rw [← hdd] at h0 h2
  repeat (with_reducible first | refine c_seq ?_ | refine c_block ?_ | refine c_skip ?_ | refine x_then ?_ | refine x_block ?_)
  refine c_reg ?_
  refine l_pure rfl (s_move  rfl ?_)
  refine l_pure rfl (s_eqs  rfl rfl ?_)
  refine l_nil ?_
  repeat (with_reducible first | refine c_seq ?_ | refine c_block ?_ | refine c_skip ?_ | refine x_then ?_ | refine x_block ?_)
  by_cases hz : n = 0
  · refine c_yes rfl (decide_eq_true (natS_nil.2 hz)) ?_
    repeat (with_reducible first | refine c_seq ?_ | refine c_block ?_ | refine c_skip ?_ | refine x_then ?_ | refine x_block ?_)
    refine c_reg ?_
    refine l_pure rfl (s_build  rfl bz_36 ?_)
    refine l_heavy rfl (s_sta (k := 0)  rfl rfl vi_36 hS rfl rfl rfl (Nat.le_of_ble_eq_true rfl) rfl ?_)
    intro wz5 hS
    refine l_nil ?_
    repeat (with_reducible first | refine c_seq ?_ | refine c_block ?_ | refine c_skip ?_ | refine x_then ?_ | refine x_block ?_)
    refine c_ret ?_
    repeat (with_reducible first | refine x_then_ret ?_ | refine x_block_ret ?_)
    refine r_cell (k := 0) rfl rfl vi_36 hS rfl rfl ?_
    refine ⟨?_, hS.below⟩
    have : mkRat (sg b 0) d = 0 := by cases b <;> simp [sg]
    rw [hz, this, ofQ_zero]; rfl
  · refine c_no rfl (decide_eq_false (fun h => hz (natS_nil.1 h))) ?_
    repeat (with_reducible first | refine c_seq ?_ | refine c_block ?_ | refine c_skip ?_ | refine x_then ?_ | refine x_block ?_)
    refine c_reg ?_
    refine l_pure rfl (s_move  rfl ?_)
    refine l_pure rfl (s_nes  rfl rfl ?_)
    refine l_nil ?_
    repeat (with_reducible first | refine c_seq ?_ | refine c_block ?_ | refine c_skip ?_ | refine x_then ?_ | refine x_block ?_)
    refine c_cut1 (fun ρ w' => ∃ n' d' : Nat, 0 < n' ∧ d' ≠ 0 ∧ Nat.gcd n' d' = 1 ∧ mkRat (sg b n) d = mkRat (sg b n') d' ∧ ρ 0 = .bool b ∧ ρ 1 = .string (natS n') ∧ ρ 2 = .string (natS d') ∧ ρ 6 = .pointer (some ⟨b1, 0, none⟩) ∧ St w w' [(b1, 36, encR ⟨false, ⟨#[]⟩, ⟨#[]⟩⟩)]) ?_ ?_
    · repeat (with_reducible first | refine c_seq ?_ | refine c_block ?_ | refine c_skip ?_ | refine x_then ?_ | refine x_block ?_)
      by_cases hd1 : d = 1
      · refine c_no rfl (decide_eq_false (not_not_intro (natS_one' hd1))) ?_
        repeat (with_reducible first | refine c_seq ?_ | refine c_block ?_ | refine c_skip ?_ | refine x_then ?_ | refine x_block ?_)
        exact ⟨_, rfl, n, d, by omega, h0, by rw [hd1]; exact Nat.gcd_one_right _, rfl, rfl, rfl, rfl, rfl, hS⟩
      · refine c_yes rfl (decide_eq_true (fun h => hd1 (one_eq.1 h))) ?_
        repeat (with_reducible first | refine c_seq ?_ | refine c_block ?_ | refine c_skip ?_ | refine x_then ?_ | refine x_block ?_)
        refine c_reg ?_
        refine l_pure rfl (s_move  rfl ?_)
        refine l_pure rfl (s_move  rfl ?_)
        refine l_heavy rfl (s_call Tryz.call87 rfl (N_gcd _ _ _ (show (natS n).size ≤ _ by omega) (show (natS d).size ≤ _ by omega)) ?_)
        rintro _ wc6 ⟨rfl, hBc6⟩
        replace hS := hS.grow hBc6
        refine l_pure rfl (s_asg  rfl ?_)
        refine l_nil ?_
        repeat (with_reducible first | refine c_seq ?_ | refine c_block ?_ | refine c_skip ?_ | refine x_then ?_ | refine x_block ?_)
        refine c_reg ?_
        refine l_pure rfl (s_move  rfl ?_)
        refine l_pure rfl (s_nes  rfl rfl ?_)
        refine l_nil ?_
        repeat (with_reducible first | refine c_seq ?_ | refine c_block ?_ | refine c_skip ?_ | refine x_then ?_ | refine x_block ?_)
        have hgp : 0 < Nat.gcd n d := Nat.gcd_pos_of_pos_right _ (by omega)
        by_cases hg : Nat.gcd n d = 1
        · refine c_no rfl (decide_eq_false (not_not_intro (natS_one' hg))) ?_
          repeat (with_reducible first | refine c_seq ?_ | refine c_block ?_ | refine c_skip ?_ | refine x_then ?_ | refine x_block ?_)
          exact ⟨_, rfl, n, d, by omega, h0, hg, rfl, rfl, rfl, rfl, rfl, hS⟩
        · refine c_yes rfl (decide_eq_true (fun h => hg (one_eq.1 h))) ?_
          repeat (with_reducible first | refine c_seq ?_ | refine c_block ?_ | refine c_skip ?_ | refine x_then ?_ | refine x_block ?_)
          have hgn : Nat.gcd n d ≤ n := Nat.gcd_le_left _ (by omega)
          have hgs := lenN hgn h1
          have hnp : 0 < n / Nat.gcd n d := Nat.div_pos hgn hgp
          have hdp : 0 < d / Nat.gcd n d := Nat.div_pos (Nat.gcd_le_right _ (by omega)) hgp
          repeat (with_reducible first | refine c_seq ?_ | refine c_block ?_ | refine c_skip ?_ | refine x_then ?_ | refine x_block ?_)
          refine c_reg ?_
          refine l_pure rfl (s_move  rfl ?_)
          refine l_pure rfl (s_move  rfl ?_)
          refine l_heavy rfl (s_call Tryz.call91 rfl (N_div n (Nat.gcd n d) _ (show (natS n).size ≤ _ by omega) (show (natS (Nat.gcd n d)).size ≤ _ by omega) (by omega)) ?_)
          rintro _ wc7 ⟨rfl, hBc7⟩
          replace hS := hS.grow hBc7
          refine l_pure rfl (s_move  rfl ?_)
          refine l_pure rfl (s_ext  rfl rfl ?_)
          refine l_pure rfl (s_ext  rfl rfl ?_)
          refine l_pure rfl (s_ext  rfl rfl ?_)
          refine l_pure rfl (s_asg  rfl ?_)
          refine l_nil ?_
          repeat (with_reducible first | refine c_seq ?_ | refine c_block ?_ | refine c_skip ?_ | refine x_then ?_ | refine x_block ?_)
          refine c_reg ?_
          refine l_pure rfl (s_move  rfl ?_)
          refine l_pure rfl (s_move  rfl ?_)
          refine l_heavy rfl (s_call Tryz.call91 rfl (N_div d (Nat.gcd n d) _ (show (natS d).size ≤ _ by omega) (show (natS (Nat.gcd n d)).size ≤ _ by omega) (by omega)) ?_)
          rintro _ wc8 ⟨rfl, hBc8⟩
          replace hS := hS.grow hBc8
          refine l_pure rfl (s_move  rfl ?_)
          refine l_pure rfl (s_ext  rfl rfl ?_)
          refine l_pure rfl (s_ext  rfl rfl ?_)
          refine l_pure rfl (s_ext  rfl rfl ?_)
          refine l_pure rfl (s_asg  rfl ?_)
          refine l_nil ?_
          repeat (with_reducible first | refine c_seq ?_ | refine c_block ?_ | refine c_skip ?_ | refine x_then ?_ | refine x_block ?_)
          exact ⟨_, rfl, n / Nat.gcd n d, d / Nat.gcd n d, hnp, by omega, (by rw [Nat.gcd_div (Nat.gcd_dvd_left _ _) (Nat.gcd_dvd_right _ _), Nat.div_self hgp]), mkRat_red h0 rfl, rfl, rfl, rfl, rfl, hS⟩
    clear hS
    rintro ρ w' ⟨n', d', hn', hd', hc, he, g0, g1, g2, g6, hS⟩
    rw [he, ofQ_mk hn' hd' hc]
    repeat (with_reducible first | refine c_seq ?_ | refine c_block ?_ | refine c_skip ?_ | refine x_then ?_ | refine x_block ?_)
    refine c_reg ?_
    refine l_pure rfl (s_move  g2 ?_)
    refine l_pure rfl (s_eqs  rfl rfl ?_)
    refine l_nil ?_
    repeat (with_reducible first | refine c_seq ?_ | refine c_block ?_ | refine c_skip ?_ | refine x_then ?_ | refine x_block ?_)
    refine c_cut1 (fun ρ w' => ρ 0 = .bool b ∧ ρ 1 = .string (natS n') ∧ ρ 2 = .string (if d' = 1 then ⟨#[]⟩ else natS d') ∧ ρ 6 = .pointer (some ⟨b1, 0, none⟩) ∧ St w w' [(b1, 36, encR ⟨false, ⟨#[]⟩, ⟨#[]⟩⟩)]) ?_ ?_
    · repeat (with_reducible first | refine c_seq ?_ | refine c_block ?_ | refine c_skip ?_ | refine x_then ?_ | refine x_block ?_)
      by_cases hd1 : d' = 1
      · refine c_yes rfl (decide_eq_true (natS_one' hd1)) ?_
        repeat (with_reducible first | refine c_seq ?_ | refine c_block ?_ | refine c_skip ?_ | refine x_then ?_ | refine x_block ?_)
        refine c_reg ?_
        refine l_pure rfl (s_asg  rfl ?_)
        refine l_nil ?_
        repeat (with_reducible first | refine c_seq ?_ | refine c_block ?_ | refine c_skip ?_ | refine x_then ?_ | refine x_block ?_)
        exact ⟨_, rfl, g0, g1, congrArg Value.string (by rw [if_pos hd1]), g6, hS⟩
      · refine c_no rfl (decide_eq_false (fun h => hd1 (one_eq.1 h))) ?_
        repeat (with_reducible first | refine c_seq ?_ | refine c_block ?_ | refine c_skip ?_ | refine x_then ?_ | refine x_block ?_)
        exact ⟨_, rfl, g0, g1, g2.trans (congrArg Value.string (by rw [if_neg hd1])), g6, hS⟩
    clear hS g0 g1 g2 g6
    rintro ρ w' ⟨g0, g1, g2, g6, hS⟩
    repeat (with_reducible first | refine c_seq ?_ | refine c_block ?_ | refine c_skip ?_ | refine x_then ?_ | refine x_block ?_)
    refine c_reg ?_
    refine l_pure rfl (s_move  g0 ?_)
    refine l_pure rfl (s_move  g1 ?_)
    refine l_pure rfl (s_move  g2 ?_)
    refine l_pure rfl (s_build  rfl (built_Rat _ _ _) ?_)
    refine l_heavy rfl (s_sta (k := 0)  g6 rfl vi_36 hS rfl rfl rfl (Nat.le_of_ble_eq_true rfl) rfl ?_)
    intro wz9 hS
    refine l_nil ?_
    repeat (with_reducible first | refine c_seq ?_ | refine c_block ?_ | refine c_skip ?_ | refine x_then ?_ | refine x_block ?_)
    refine c_ret ?_
    repeat (with_reducible first | refine x_then_ret ?_ | refine x_block_ret ?_)
    refine r_cell (k := 0) rfl g6 vi_36 hS rfl rfl ?_
    exact ⟨rfl, hS.below⟩
end Go.Proofs.YtmghobajmhdbfaaGreatDoor
namespace Go.Proofs.YtmghobajmhdbfaaGreatDoor
open Go Go.RowKit Go.Sx
theorem cmp_law {p q : Rat} (h : sgnQ p = sgnQ q) : (if decide (p.num < 0) = true then -cmpI (p.num.natAbs * q.den) (q.num.natAbs * p.den) else cmpI (p.num.natAbs * q.den) (q.num.natAbs * p.den)) = cmpQ p q := by
  have hp := sg_num p
  have hq := sg_num q
  have l1 := Rat.lt_iff p q
  have l2 := Rat.lt_iff q p
  unfold sgnQ at h
  rw [← hp, ← hq] at l1 l2
  have e1 : ((p.num.natAbs * q.den : Nat) : Int) = (p.num.natAbs : Int) * q.den := by push_cast; rfl
  have e2 : ((q.num.natAbs * p.den : Nat) : Int) = (q.num.natAbs : Int) * p.den := by push_cast; rfl
  by_cases h1 : p.num < 0
  · have h2 : q.num < 0 := by
      rw [if_neg (by omega), if_pos h1] at h
      by_cases g : q.num < 0
      · exact g
      · exfalso; split at h <;> (try rw [if_neg g] at h) <;> omega
    rw [if_pos (by simpa using h1)]
    simp only [decide_eq_true h1, decide_eq_true h2, sg, if_true, Int.neg_mul, ← e1, ← e2] at l1 l2
    unfold cmpI cmpQ
    split
    · rw [if_neg (by rw [l1]; omega), if_pos (by rw [l2]; omega)]; rfl
    · split
      · rw [if_pos (by rw [l1]; omega)]
      · rw [if_neg (by rw [l1]; omega), if_neg (by rw [l2]; omega)]; rfl
  · have h2 : ¬ q.num < 0 := by
      intro g
      rw [if_neg (show ¬ q.num = 0 by omega), if_pos g] at h
      split at h <;> (try rw [if_neg h1] at h) <;> omega
    rw [if_neg (by simpa using h1)]
    simp only [decide_eq_false h1, decide_eq_false h2, sg, ← e1, ← e2, Bool.false_eq_true, if_false] at l1 l2
    unfold cmpI cmpQ
    split
    · rw [if_pos (by rw [l1]; omega)]
    · split
      · rw [if_neg (by rw [l1]; omega), if_pos (by rw [l2]; omega)]
      · rw [if_neg (by rw [l1]; omega), if_neg (by rw [l2]; omega)]
theorem cmp_sgn {p q : Rat} (h : sgnQ p ≠ sgnQ q) : cmpQ p q = if sgnQ p < sgnQ q then -1 else 1 := by
  have a1 := sgnQ_neg (q := p)
  have a2 := sgnQ_zero (q := p)
  have a3 := sgnQ_pos (q := p)
  have b1 := sgnQ_neg (q := q)
  have b2 := sgnQ_zero (q := q)
  have b3 := sgnQ_pos (q := q)
  rcases sgnQ_range p with e | e | e <;> rcases sgnQ_range q with f | f | f <;> rw [e, f] at h ⊢ <;> rw [e] at a1 a2 a3 <;> rw [f] at b1 b2 b3 <;> simp at h a1 a2 a3 b1 b2 b3 ⊢ <;> first | (refine cmpQ_lt ?_; grind) | (refine cmpQ_gt ?_; grind)
theorem signOf_ok (q : Rat) (w : World) :
    Ret Tryz.prog 32 #[aggR (ofQ q)] w fun v w' => v = .int .i64 (sgnQ q) ∧ Below w.heap.size w w' := by
  have hS := St.init w
  refine enter Tryz.func32 rfl Tryz.ntmps32 rfl ?_
  repeat (with_reducible first | refine c_seq ?_ | refine c_block ?_ | refine c_skip ?_ | refine x_then ?_ | refine x_block ?_)
  refine c_reg ?_
  refine l_heavy rfl (s_box (new := encR (ofQ q))  rfl rfl hS ?_)
  intro b1 wz2 hS hBz2
  refine l_pure rfl (s_asg  rfl ?_)
  refine l_nil ?_
  repeat (with_reducible first | refine c_seq ?_ | refine c_block ?_ | refine c_skip ?_ | refine x_then ?_ | refine x_block ?_)
  refine c_reg ?_
  refine l_pure rfl (s_fld  rfl fo_36_1 ?_)
  refine l_read rfl (s_ldo (k := 0)  rfl vi_9 hS rfl rfl rfl (.inr rfl) ?_)
  refine l_pure rfl (s_eqs  rfl rfl ?_)
  refine l_pure rfl (s_asg  rfl ?_)
  refine l_nil ?_
  repeat (with_reducible first | refine c_seq ?_ | refine c_block ?_ | refine c_skip ?_ | refine x_then ?_ | refine x_block ?_)
  by_cases h : q = 0
  · refine c_yes rfl (decide_eq_true (ofQ_num_nil.2 h)) ?_
    repeat (with_reducible first | refine c_seq ?_ | refine c_block ?_ | refine c_skip ?_ | refine x_then ?_ | refine x_block ?_)
    refine c_reg ?_
    refine l_pure rfl (s_asg  rfl ?_)
    refine l_nil ?_
    repeat (with_reducible first | refine c_seq ?_ | refine c_block ?_ | refine c_skip ?_ | refine x_then ?_ | refine x_block ?_)
    refine c_ret ?_
    repeat (with_reducible first | refine x_then_ret ?_ | refine x_block_ret ?_)
    refine r_one rfl rfl ?_
    exact ⟨vi rfl (sgnQ_zero.2 h).symm, hS.below⟩
  · refine c_no rfl (decide_eq_false (fun g => h (ofQ_num_nil.1 g))) ?_
    repeat (with_reducible first | refine c_seq ?_ | refine c_block ?_ | refine c_skip ?_ | refine x_then ?_ | refine x_block ?_)
    refine c_reg ?_
    refine l_pure rfl (s_fld  rfl fo_36_0 ?_)
    refine l_read rfl (s_ldo (k := 0)  rfl vi_4 hS rfl rfl rfl (.inr rfl) ?_)
    refine l_pure rfl (s_asg  rfl ?_)
    refine l_nil ?_
    repeat (with_reducible first | refine c_seq ?_ | refine c_block ?_ | refine c_skip ?_ | refine x_then ?_ | refine x_block ?_)
    have hn : q.num ≠ 0 := fun g => h (Rat.num_eq_zero.1 g)
    by_cases h2 : q.num < 0
    · refine c_yes rfl (decide_eq_true h2) ?_
      repeat (with_reducible first | refine c_seq ?_ | refine c_block ?_ | refine c_skip ?_ | refine x_then ?_ | refine x_block ?_)
      refine c_reg ?_
      refine l_pure rfl (s_asg  rfl ?_)
      refine l_nil ?_
      repeat (with_reducible first | refine c_seq ?_ | refine c_block ?_ | refine c_skip ?_ | refine x_then ?_ | refine x_block ?_)
      refine c_ret ?_
      repeat (with_reducible first | refine x_then_ret ?_ | refine x_block_ret ?_)
      refine r_one rfl rfl ?_
      exact ⟨vi rfl (by unfold sgnQ; rw [if_neg hn, if_pos h2]), hS.below⟩
    · refine c_no rfl (decide_eq_false h2) ?_
      repeat (with_reducible first | refine c_seq ?_ | refine c_block ?_ | refine c_skip ?_ | refine x_then ?_ | refine x_block ?_)
      refine c_reg ?_
      refine l_pure rfl (s_asg  rfl ?_)
      refine l_nil ?_
      repeat (with_reducible first | refine c_seq ?_ | refine c_block ?_ | refine c_skip ?_ | refine x_then ?_ | refine x_block ?_)
      refine c_ret ?_
      repeat (with_reducible first | refine x_then_ret ?_ | refine x_block_ret ?_)
      refine r_one rfl rfl ?_
      exact ⟨vi rfl (by unfold sgnQ; rw [if_neg hn, if_neg h2]), hS.below⟩
theorem Sign_ok (r : RR) (w : World) (hr : Lr r ≤ MX) :
    Ret Tryz.prog 12 #[aggR r] w fun v w' => v = .int .i64 (sgnQ (toQ r)) ∧ Below w.heap.size w w' := by
  have hS := St.init w
  refine enter Tryz.func12 rfl Tryz.ntmps12 rfl ?_
  repeat (with_reducible first | refine c_seq ?_ | refine c_block ?_ | refine c_skip ?_ | refine x_then ?_ | refine x_block ?_)
  refine c_reg ?_
  refine l_heavy rfl (s_box (new := encR r)  rfl rfl hS ?_)
  intro b1 wz2 hS hBz2
  refine l_pure rfl (s_asg  rfl ?_)
  refine l_nil ?_
  repeat (with_reducible first | refine c_seq ?_ | refine c_block ?_ | refine c_skip ?_ | refine x_then ?_ | refine x_block ?_)
  refine c_reg ?_
  refine l_read rfl (s_ldo (k := 0)  rfl vi_36 hS rfl rfl rfl (.inl rfl) ?_)
  refine l_heavy rfl (s_call Tryz.call31 rfl (clean_ok r _ hr) ?_)
  rintro _ wc3 ⟨rfl, hBc3⟩
  replace hS := hS.grow hBc3
  refine l_heavy rfl (s_call Tryz.call32 rfl (signOf_ok (toQ r) _) ?_)
  rintro _ wc4 ⟨rfl, hBc4⟩
  replace hS := hS.grow hBc4
  refine l_pure rfl (s_asg  rfl ?_)
  refine l_nil ?_
  repeat (with_reducible first | refine c_seq ?_ | refine c_block ?_ | refine c_skip ?_ | refine x_then ?_ | refine x_block ?_)
  refine c_ret ?_
  repeat (with_reducible first | refine x_then_ret ?_ | refine x_block_ret ?_)
  refine r_one rfl rfl ?_
  exact ⟨rfl, hS.below⟩
theorem ofQ_neg_eq (q : Rat) : (⟨!decide (q.num < 0) && decide ((ofQ q).num ≠ ⟨#[]⟩), (ofQ q).num, (ofQ q).den⟩ : RR) = ofQ (-q) := by
  have h1 : (ofQ (-q)).num = (ofQ q).num := by show natS (-q).num.natAbs = natS q.num.natAbs; rw [Rat.neg_num, Int.natAbs_neg]
  have h2 : (ofQ (-q)).den = (ofQ q).den := by show (if (-q).den = 1 then _ else natS (-q).den) = _; rw [Rat.neg_den]; rfl
  have h3 : (ofQ (-q)).neg = decide ((-q).num < 0) := rfl
  have h4 : (!decide (q.num < 0) && decide ((ofQ q).num ≠ ⟨#[]⟩)) = decide ((-q).num < 0) := by
    have : (ofQ q).num = ⟨#[]⟩ ↔ q.num = 0 := by rw [ofQ_num_nil, Rat.num_eq_zero]
    rw [Rat.neg_num, Bool.eq_iff_iff]
    simp only [Bool.and_eq_true, Bool.not_eq_true', decide_eq_false_iff_not, decide_eq_true_eq, ne_eq, this]
    omega
  rw [h4, ← h1, ← h2, ← h3]
theorem negate_ok (q : Rat) (w : World) :
    Ret Tryz.prog 57 #[aggR (ofQ q)] w fun v w' => v = aggR (ofQ (-q)) ∧ Below w.heap.size w w' := by
  have hS := St.init w
  have he := ofQ_neg_eq q
  refine enter Tryz.func57 rfl Tryz.ntmps57 rfl ?_
  repeat (with_reducible first | refine c_seq ?_ | refine c_block ?_ | refine c_skip ?_ | refine x_then ?_ | refine x_block ?_)
  refine c_reg ?_
  refine l_heavy rfl (s_box (new := encR (ofQ q))  rfl rfl hS ?_)
  intro b1 wz2 hS hBz2
  refine l_heavy rfl (s_alloc  vi_36 hS ?_)
  intro b3 wz4 hS hBz4
  refine l_nil ?_
  repeat (with_reducible first | refine c_seq ?_ | refine c_block ?_ | refine c_skip ?_ | refine x_then ?_ | refine x_block ?_)
  by_cases h : q.num < 0
  · repeat (with_reducible first | refine c_seq ?_ | refine c_block ?_ | refine c_skip ?_ | refine x_then ?_ | refine x_block ?_)
    refine c_reg ?_
    refine l_pure rfl (s_fld  rfl fo_36_0 ?_)
    refine l_read rfl (s_ldo (k := 1)  rfl vi_4 hS rfl rfl rfl (.inr rfl) ?_)
    refine l_pure rfl (s_not  rfl ?_)
    refine l_pure rfl (s_move  rfl ?_)
    refine l_no (gno_yes 6 (by kernel_rfl) rfl (by show (!decide (q.num < 0)) = false; rw [decide_eq_true h]; rfl)) ?_
    refine l_no (gno_yes 6 (by kernel_rfl) rfl (by show (!decide (q.num < 0)) = false; rw [decide_eq_true h]; rfl)) ?_
    refine l_no (gno_yes 6 (by kernel_rfl) rfl (by show (!decide (q.num < 0)) = false; rw [decide_eq_true h]; rfl)) ?_
    refine l_pure rfl (s_pick (vb rfl (by show (!decide (q.num < 0)) = false; rw [decide_eq_true h]; rfl)) rfl ?_)
    refine l_pure rfl (s_fld  rfl fo_36_0 ?_)
    refine l_heavy rfl (s_stc (k := 1)  rfl rfl vi_4 hS rfl (Nat.le_of_ble_eq_true rfl) rfl ?_)
    intro wz5 hS
    refine l_nil ?_
    repeat (with_reducible first | refine c_seq ?_ | refine c_block ?_ | refine c_skip ?_ | refine x_then ?_ | refine x_block ?_)
    refine c_reg ?_
    refine l_read rfl (s_ldo (k := 1)  rfl vi_36 hS rfl rfl rfl (.inl rfl) ?_)
    refine l_heavy rfl (s_sta (k := 0)  rfl rfl vi_36 hS rfl rfl rfl (Nat.le_of_ble_eq_true rfl) rfl ?_)
    intro wz6 hS
    refine l_nil ?_
    repeat (with_reducible first | refine c_seq ?_ | refine c_block ?_ | refine c_skip ?_ | refine x_then ?_ | refine x_block ?_)
    refine c_ret ?_
    repeat (with_reducible first | refine x_then_ret ?_ | refine x_block_ret ?_)
    refine r_cell (k := 0) rfl rfl vi_36 hS rfl rfl ?_
    rw [← he, decide_eq_true h]
    exact ⟨rfl, hS.below⟩
  · repeat (with_reducible first | refine c_seq ?_ | refine c_block ?_ | refine c_skip ?_ | refine x_then ?_ | refine x_block ?_)
    refine c_reg ?_
    refine l_pure rfl (s_fld  rfl fo_36_0 ?_)
    refine l_read rfl (s_ldo (k := 1)  rfl vi_4 hS rfl rfl rfl (.inr rfl) ?_)
    refine l_pure rfl (s_not  rfl ?_)
    refine l_pure rfl (s_move  rfl ?_)
    refine l_pure (gd_yes 6 (by kernel_rfl) rfl (by show (!decide (q.num < 0)) = true; rw [decide_eq_false h]; rfl)) (s_fld  rfl fo_36_1 ?_)
    refine l_read (gd_yes 6 (by kernel_rfl) rfl (by show (!decide (q.num < 0)) = true; rw [decide_eq_false h]; rfl)) (s_ldo (k := 1)  rfl vi_9 hS rfl rfl rfl (.inr rfl) ?_)
    refine l_pure (gd_yes 6 (by kernel_rfl) rfl (by show (!decide (q.num < 0)) = true; rw [decide_eq_false h]; rfl)) (s_nes  rfl rfl ?_)
    refine l_pure rfl (s_pick (vb rfl (by show (!decide (q.num < 0)) = true; rw [decide_eq_false h]; rfl)) rfl ?_)
    refine l_pure rfl (s_fld  rfl fo_36_0 ?_)
    refine l_heavy rfl (s_stc (k := 1)  rfl rfl vi_4 hS rfl (Nat.le_of_ble_eq_true rfl) rfl ?_)
    intro wz7 hS
    refine l_nil ?_
    repeat (with_reducible first | refine c_seq ?_ | refine c_block ?_ | refine c_skip ?_ | refine x_then ?_ | refine x_block ?_)
    refine c_reg ?_
    refine l_read rfl (s_ldo (k := 1)  rfl vi_36 hS rfl rfl rfl (.inl rfl) ?_)
    refine l_heavy rfl (s_sta (k := 0)  rfl rfl vi_36 hS rfl rfl rfl (Nat.le_of_ble_eq_true rfl) rfl ?_)
    intro wz8 hS
    refine l_nil ?_
    repeat (with_reducible first | refine c_seq ?_ | refine c_block ?_ | refine c_skip ?_ | refine x_then ?_ | refine x_block ?_)
    refine c_ret ?_
    repeat (with_reducible first | refine x_then_ret ?_ | refine x_block_ret ?_)
    refine r_cell (k := 0) rfl rfl vi_36 hS rfl rfl ?_
    rw [← he, decide_eq_false h]
    exact ⟨rfl, hS.below⟩
end Go.Proofs.YtmghobajmhdbfaaGreatDoor
namespace Go.Proofs.YtmghobajmhdbfaaGreatDoor
open Go Go.RowKit Go.Sx
theorem QCompare_ok (r s : RR) (w : World) (hr : Lr r + Lr s ≤ MX) :
    Ret Tryz.prog 9 #[aggR r, aggR s] w fun v w' => v = .int .i64 (cmpQ (toQ r) (toQ s)) ∧ Below w.heap.size w w' := by
  have hM : MX = 1099511627776 := rfl
  have hL1 := L_toQ r
  have hL2 := L_toQ s
  have hS := St.init w
  refine enter Tryz.func9 rfl Tryz.ntmps9 rfl ?_
  repeat (with_reducible first | refine c_seq ?_ | refine c_block ?_ | refine c_skip ?_ | refine x_then ?_ | refine x_block ?_)
  refine c_reg ?_
  refine l_heavy rfl (s_box (new := encR r)  rfl rfl hS ?_)
  intro b1 wz2 hS hBz2
  refine l_heavy rfl (s_box (new := encR s)  rfl rfl hS ?_)
  intro b3 wz4 hS hBz4
  refine l_pure rfl (s_asg  rfl ?_)
  refine l_nil ?_
  repeat (with_reducible first | refine c_seq ?_ | refine c_block ?_ | refine c_skip ?_ | refine x_then ?_ | refine x_block ?_)
  refine c_draw [(0, .read), (2, .read), (1, .grow), (3, .grow), (4, .free), (5, .free)] (by kernel_rfl) (by kernel_rfl) hS ?_
  intro wz5 hS hBz5
  refine w_read rfl rfl (s_ldo (k := 1)  rfl vi_36 hS rfl rfl rfl (.inl rfl) ?_)
  refine w_read rfl rfl (s_ldo (k := 0)  rfl vi_36 hS rfl rfl rfl (.inl rfl) ?_)
  refine w_grow rfl rfl (s_call Tryz.call31 rfl (clean_ok r _ (by omega)) ?_)
  rintro _ wc6 ⟨rfl, hBc6⟩
  replace hS := hS.grow hBc6
  refine ⟨hBc6, ?_⟩
  refine w_grow rfl rfl (s_call Tryz.call31 rfl (clean_ok s _ (by omega)) ?_)
  rintro _ wc7 ⟨rfl, hBc7⟩
  replace hS := hS.grow hBc7
  refine ⟨hBc7, ?_⟩
  refine w_free rfl rfl (s_sta (k := 1)  rfl rfl vi_36 hS rfl rfl rfl (Nat.le_of_ble_eq_true rfl) rfl ?_)
  intro wz8 hS
  refine w_free rfl rfl (s_sta (k := 0)  rfl rfl vi_36 hS rfl rfl rfl (Nat.le_of_ble_eq_true rfl) rfl ?_)
  intro wz9 hS
  refine w_end ?_
  repeat (with_reducible first | refine c_seq ?_ | refine c_block ?_ | refine c_skip ?_ | refine x_then ?_ | refine x_block ?_)
  replace hS : St w _ [(b3, 36, encR (ofQ (toQ s))), (b1, 36, encR (ofQ (toQ r)))] := hS
  obtain ⟨p, hp⟩ : ∃ p, p = toQ r := ⟨_, rfl⟩
  obtain ⟨q, hq⟩ : ∃ q, q = toQ s := ⟨_, rfl⟩
  rw [← hp] at hS hL1 ⊢
  rw [← hq] at hS hL2 ⊢
  have hn1 := L_num p
  have hn2 := L_num q
  have hd1 := L_den p
  have hd2 := L_den q
  have hm1 := natS_size_mul p.num.natAbs q.den
  have hm2 := natS_size_mul q.num.natAbs p.den
  repeat (with_reducible first | refine c_seq ?_ | refine c_block ?_ | refine c_skip ?_ | refine x_then ?_ | refine x_block ?_)
  refine c_draw [(0, .read), (2, .read), (1, .grow), (3, .grow), (4, .pure), (5, .pure)] (by kernel_rfl) (by kernel_rfl) hS ?_
  intro wz10 hS hBz10
  refine w_read rfl rfl (s_ldo (k := 1)  rfl vi_36 hS rfl rfl rfl (.inl rfl) ?_)
  refine w_read rfl rfl (s_ldo (k := 0)  rfl vi_36 hS rfl rfl rfl (.inl rfl) ?_)
  refine w_grow rfl rfl (s_call Tryz.call32 rfl (signOf_ok p _) ?_)
  rintro _ wc11 ⟨rfl, hBc11⟩
  replace hS := hS.grow hBc11
  refine ⟨hBc11, ?_⟩
  refine w_grow rfl rfl (s_call Tryz.call32 rfl (signOf_ok q _) ?_)
  rintro _ wc12 ⟨rfl, hBc12⟩
  replace hS := hS.grow hBc12
  refine ⟨hBc12, ?_⟩
  refine w_pure rfl rfl (s_asg  rfl ?_)
  refine w_pure rfl rfl (s_asg  rfl ?_)
  refine w_end ?_
  repeat (with_reducible first | refine c_seq ?_ | refine c_block ?_ | refine c_skip ?_ | refine x_then ?_ | refine x_block ?_)
  refine c_reg ?_
  refine l_pure rfl (s_move  rfl ?_)
  refine l_pure rfl (s_move  rfl ?_)
  refine l_pure rfl (s_neq  rfl rfl ?_)
  refine l_nil ?_
  repeat (with_reducible first | refine c_seq ?_ | refine c_block ?_ | refine c_skip ?_ | refine x_then ?_ | refine x_block ?_)
  by_cases h : sgnQ p = sgnQ q
  · refine c_no rfl (decide_eq_false (not_not_intro h)) ?_
    repeat (with_reducible first | refine c_seq ?_ | refine c_block ?_ | refine c_skip ?_ | refine x_then ?_ | refine x_block ?_)
    refine c_draw [(0, .pure), (1, .read), (2, .read), (5, .pure), (6, .read), (7, .read), (3, .grow), (4, .grow), (8, .grow), (9, .grow), (10, .grow), (11, .pure)] (by kernel_rfl) (by kernel_rfl) hS ?_
    intro wz13 hS hBz13
    refine w_pure rfl rfl (s_fld  rfl fo_36_1 ?_)
    refine w_read rfl rfl (s_ldo (k := 1)  rfl vi_9 hS rfl rfl rfl (.inr rfl) ?_)
    refine w_read rfl rfl (s_ldo (k := 0)  rfl vi_36 hS rfl rfl rfl (.inl rfl) ?_)
    refine w_pure rfl rfl (s_fld  rfl fo_36_1 ?_)
    refine w_read rfl rfl (s_ldo (k := 0)  rfl vi_9 hS rfl rfl rfl (.inr rfl) ?_)
    refine w_read rfl rfl (s_ldo (k := 1)  rfl vi_36 hS rfl rfl rfl (.inl rfl) ?_)
    refine w_grow rfl rfl (s_call Tryz.call35 rfl (den_ok q _) ?_)
    rintro _ wc14 ⟨rfl, hBc14⟩
    replace hS := hS.grow hBc14
    refine ⟨hBc14, ?_⟩
    refine w_grow rfl rfl (s_call Tryz.call34 rfl (N_mul p.num.natAbs q.den _ (by omega) (by omega)) ?_)
    rintro _ wc15 ⟨rfl, hBc15⟩
    replace hS := hS.grow hBc15
    refine ⟨hBc15, ?_⟩
    refine w_grow rfl rfl (s_call Tryz.call35 rfl (den_ok p _) ?_)
    rintro _ wc16 ⟨rfl, hBc16⟩
    replace hS := hS.grow hBc16
    refine ⟨hBc16, ?_⟩
    refine w_grow rfl rfl (s_call Tryz.call34 rfl (N_mul q.num.natAbs p.den _ (by omega) (by omega)) ?_)
    rintro _ wc17 ⟨rfl, hBc17⟩
    replace hS := hS.grow hBc17
    refine ⟨hBc17, ?_⟩
    refine w_grow rfl rfl (s_call Tryz.call33 rfl (N_cmp _ _ _ (by omega) (by omega)) ?_)
    rintro _ wq18 ⟨rfl, hq18⟩
    replace hq18 := hq18.symm
    subst hq18
    refine ⟨Below.refl _ _, ?_⟩
    refine w_pure rfl rfl (s_asg  rfl ?_)
    refine w_end ?_
    repeat (with_reducible first | refine c_seq ?_ | refine c_block ?_ | refine c_skip ?_ | refine x_then ?_ | refine x_block ?_)
    refine c_reg ?_
    refine l_pure rfl (s_fld  rfl fo_36_0 ?_)
    refine l_read rfl (s_ldo (k := 1)  rfl vi_4 hS rfl rfl rfl (.inr rfl) ?_)
    refine l_nil ?_
    repeat (with_reducible first | refine c_seq ?_ | refine c_block ?_ | refine c_skip ?_ | refine x_then ?_ | refine x_block ?_)
    have hcl := cmp_law h
    by_cases hneg : p.num < 0
    · refine c_yes rfl (decide_eq_true hneg) ?_
      repeat (with_reducible first | refine c_seq ?_ | refine c_block ?_ | refine c_skip ?_ | refine x_then ?_ | refine x_block ?_)
      refine c_reg ?_
      refine l_pure rfl (s_move  rfl ?_)
      refine l_pure rfl (s_neg  rfl (r := (-cmpI (p.num.natAbs * q.den) (q.num.natAbs * p.den))) (by unfold cmpI; split <;> (try split) <;> rfl) ?_)
      refine l_pure rfl (s_asg  rfl ?_)
      refine l_nil ?_
      repeat (with_reducible first | refine c_seq ?_ | refine c_block ?_ | refine c_skip ?_ | refine x_then ?_ | refine x_block ?_)
      refine c_ret ?_
      repeat (with_reducible first | refine x_then_ret ?_ | refine x_block_ret ?_)
      refine r_one rfl rfl ?_
      rw [if_pos (by simpa using hneg)] at hcl
      exact ⟨vi rfl hcl, hS.below⟩
    · refine c_no rfl (decide_eq_false hneg) ?_
      repeat (with_reducible first | refine c_seq ?_ | refine c_block ?_ | refine c_skip ?_ | refine x_then ?_ | refine x_block ?_)
      refine c_reg ?_
      refine l_pure rfl (s_move  rfl ?_)
      refine l_pure rfl (s_asg  rfl ?_)
      refine l_nil ?_
      repeat (with_reducible first | refine c_seq ?_ | refine c_block ?_ | refine c_skip ?_ | refine x_then ?_ | refine x_block ?_)
      refine c_ret ?_
      repeat (with_reducible first | refine x_then_ret ?_ | refine x_block_ret ?_)
      refine r_one rfl rfl ?_
      rw [if_neg (by simpa using hneg)] at hcl
      exact ⟨vi rfl hcl, hS.below⟩
  · refine c_yes rfl (decide_eq_true h) ?_
    repeat (with_reducible first | refine c_seq ?_ | refine c_block ?_ | refine c_skip ?_ | refine x_then ?_ | refine x_block ?_)
    refine c_reg ?_
    refine l_pure rfl (s_move  rfl ?_)
    refine l_pure rfl (s_move  rfl ?_)
    refine l_pure rfl (s_lss  rfl rfl ?_)
    refine l_nil ?_
    repeat (with_reducible first | refine c_seq ?_ | refine c_block ?_ | refine c_skip ?_ | refine x_then ?_ | refine x_block ?_)
    have hcs := cmp_sgn h
    by_cases hlt : sgnQ p < sgnQ q
    · refine c_yes rfl (decide_eq_true hlt) ?_
      repeat (with_reducible first | refine c_seq ?_ | refine c_block ?_ | refine c_skip ?_ | refine x_then ?_ | refine x_block ?_)
      refine c_reg ?_
      refine l_pure rfl (s_asg  rfl ?_)
      refine l_nil ?_
      repeat (with_reducible first | refine c_seq ?_ | refine c_block ?_ | refine c_skip ?_ | refine x_then ?_ | refine x_block ?_)
      refine c_ret ?_
      repeat (with_reducible first | refine x_then_ret ?_ | refine x_block_ret ?_)
      refine r_one rfl rfl ?_
      rw [if_pos hlt] at hcs
      exact ⟨vi rfl hcs.symm, hS.below⟩
    · refine c_no rfl (decide_eq_false hlt) ?_
      repeat (with_reducible first | refine c_seq ?_ | refine c_block ?_ | refine c_skip ?_ | refine x_then ?_ | refine x_block ?_)
      refine c_reg ?_
      refine l_pure rfl (s_asg  rfl ?_)
      refine l_nil ?_
      repeat (with_reducible first | refine c_seq ?_ | refine c_block ?_ | refine c_skip ?_ | refine x_then ?_ | refine x_block ?_)
      refine c_ret ?_
      repeat (with_reducible first | refine x_then_ret ?_ | refine x_block_ret ?_)
      refine r_one rfl rfl ?_
      rw [if_neg hlt] at hcs
      exact ⟨vi rfl hcs.symm, hS.below⟩
set_option maxHeartbeats 1000000 in
theorem add_ok (p q : Rat) (w : World) (hL : L p + L q ≤ MX) :
    Ret Tryz.prog 36 #[aggR (ofQ p), aggR (ofQ q)] w fun v w' => v = aggR (ofQ (p + q)) ∧ Below w.heap.size w w' := by
  have hM : MX = 1099511627776 := rfl
  have hn1 := L_num p
  have hn2 := L_num q
  have hd1 := L_den p
  have hd2 := L_den q
  have hm1 := natS_size_mul p.num.natAbs q.den
  have hm2 := natS_size_mul q.num.natAbs p.den
  have hm3 := natS_size_mul p.den q.den
  have hS := St.init w
  refine enter Tryz.func36 rfl Tryz.ntmps36 rfl ?_
  repeat (with_reducible first | refine c_seq ?_ | refine c_block ?_ | refine c_skip ?_ | refine x_then ?_ | refine x_block ?_)
  refine c_reg ?_
  refine l_heavy rfl (s_box (new := encR (ofQ p))  rfl rfl hS ?_)
  intro b1 wz2 hS hBz2
  refine l_heavy rfl (s_box (new := encR (ofQ q))  rfl rfl hS ?_)
  intro b3 wz4 hS hBz4
  refine l_heavy rfl (s_alloc  vi_36 hS ?_)
  intro b5 wz6 hS hBz6
  refine l_nil ?_
  repeat (with_reducible first | refine c_seq ?_ | refine c_block ?_ | refine c_skip ?_ | refine x_then ?_ | refine x_block ?_)
  refine c_draw [(0, .pure), (1, .read), (2, .pure), (3, .read), (4, .pure), (5, .pure), (6, .pure)] (by kernel_rfl) (by kernel_rfl) hS ?_
  intro wz7 hS hBz7
  refine w_pure rfl rfl (s_fld  rfl fo_36_1 ?_)
  refine w_read rfl rfl (s_ldo (k := 2)  rfl vi_9 hS rfl rfl rfl (.inr rfl) ?_)
  refine w_pure rfl rfl (s_fld  rfl fo_36_1 ?_)
  refine w_read rfl rfl (s_ldo (k := 1)  rfl vi_9 hS rfl rfl rfl (.inr rfl) ?_)
  refine w_pure rfl rfl (s_asg  rfl ?_)
  refine w_pure rfl rfl (s_asg  rfl ?_)
  refine w_pure rfl rfl (s_asg  rfl ?_)
  refine w_end ?_
  repeat (with_reducible first | refine c_seq ?_ | refine c_block ?_ | refine c_skip ?_ | refine x_then ?_ | refine x_block ?_)
  refine c_reg ?_
  refine l_pure rfl (s_fld  rfl fo_36_2 ?_)
  refine l_read rfl (s_ldo (k := 2)  rfl vi_9 hS rfl rfl rfl (.inr rfl) ?_)
  refine l_pure rfl (s_fld  rfl fo_36_2 ?_)
  refine l_read rfl (s_ldo (k := 1)  rfl vi_9 hS rfl rfl rfl (.inr rfl) ?_)
  refine l_pure rfl (s_nes  rfl rfl ?_)
  refine l_nil ?_
  repeat (with_reducible first | refine c_seq ?_ | refine c_block ?_ | refine c_skip ?_ | refine x_then ?_ | refine x_block ?_)
  refine c_cut1 (fun ρ w' => ∃ X Y D : Nat, D ≠ 0 ∧ p = mkRat (sg (decide (p.num < 0)) X) D ∧ q = mkRat (sg (decide (q.num < 0)) Y) D ∧ (natS X).size ≤ MX ∧ (natS Y).size ≤ MX ∧ (natS D).size ≤ MX ∧
    ρ 2 = .pointer (some ⟨b1, 0, none⟩) ∧ ρ 3 = .pointer (some ⟨b3, 0, none⟩) ∧ ρ 4 = .pointer (some ⟨b5, 0, none⟩) ∧ ρ 5 = .string (natS X) ∧ ρ 6 = .string (natS Y) ∧ ρ 7 = .string (natS D) ∧
    St w w' [(b5, 36, encR ⟨false, ⟨#[]⟩, ⟨#[]⟩⟩), (b3, 36, encR (ofQ q)), (b1, 36, encR (ofQ p))]) ?_ ?_
  · repeat (with_reducible first | refine c_seq ?_ | refine c_block ?_ | refine c_skip ?_ | refine x_then ?_ | refine x_block ?_)
    by_cases hden : p.den = q.den
    · refine c_no rfl (decide_eq_false (not_not_intro (ofQ_den_inj.2 hden))) ?_
      repeat (with_reducible first | refine c_seq ?_ | refine c_block ?_ | refine c_skip ?_ | refine x_then ?_ | refine x_block ?_)
      refine c_reg ?_
      refine l_read rfl (s_ldo (k := 2)  rfl vi_36 hS rfl rfl rfl (.inl rfl) ?_)
      refine l_heavy rfl (s_call Tryz.call35 rfl (den_ok p _) ?_)
      rintro _ wc8 ⟨rfl, hBc8⟩
      replace hS := hS.grow hBc8
      refine l_pure rfl (s_asg  rfl ?_)
      refine l_nil ?_
      repeat (with_reducible first | refine c_seq ?_ | refine c_block ?_ | refine c_skip ?_ | refine x_then ?_ | refine x_block ?_)
      exact ⟨_, rfl, p.num.natAbs, q.num.natAbs, p.den, p.den_nz, (mkRat_sg p).symm, by rw [hden]; exact (mkRat_sg q).symm, by omega, by omega, by omega, rfl, rfl, rfl, rfl, rfl, rfl, hS⟩
    · refine c_yes rfl (decide_eq_true (fun g => hden (ofQ_den_inj.1 g))) ?_
      repeat (with_reducible first | refine c_seq ?_ | refine c_block ?_ | refine c_skip ?_ | refine x_then ?_ | refine x_block ?_)
      refine c_draw [(0, .pure), (1, .read), (4, .pure), (5, .read), (2, .grow), (3, .grow), (6, .grow), (7, .grow), (8, .pure), (9, .pure)] (by kernel_rfl) (by kernel_rfl) hS ?_
      intro wz9 hS hBz9
      refine w_pure rfl rfl (s_move  rfl ?_)
      refine w_read rfl rfl (s_ldo (k := 1)  rfl vi_36 hS rfl rfl rfl (.inl rfl) ?_)
      refine w_pure rfl rfl (s_move  rfl ?_)
      refine w_read rfl rfl (s_ldo (k := 2)  rfl vi_36 hS rfl rfl rfl (.inl rfl) ?_)
      refine w_grow rfl rfl (s_call Tryz.call35 rfl (den_ok q _) ?_)
      rintro _ wc10 ⟨rfl, hBc10⟩
      replace hS := hS.grow hBc10
      refine ⟨hBc10, ?_⟩
      refine w_grow rfl rfl (s_call Tryz.call34 rfl (N_mul p.num.natAbs q.den _ (by omega) (by omega)) ?_)
      rintro _ wc11 ⟨rfl, hBc11⟩
      replace hS := hS.grow hBc11
      refine ⟨hBc11, ?_⟩
      refine w_grow rfl rfl (s_call Tryz.call35 rfl (den_ok p _) ?_)
      rintro _ wc12 ⟨rfl, hBc12⟩
      replace hS := hS.grow hBc12
      refine ⟨hBc12, ?_⟩
      refine w_grow rfl rfl (s_call Tryz.call34 rfl (N_mul q.num.natAbs p.den _ (by omega) (by omega)) ?_)
      rintro _ wc13 ⟨rfl, hBc13⟩
      replace hS := hS.grow hBc13
      refine ⟨hBc13, ?_⟩
      refine w_pure rfl rfl (s_asg  rfl ?_)
      refine w_pure rfl rfl (s_asg  rfl ?_)
      refine w_end ?_
      repeat (with_reducible first | refine c_seq ?_ | refine c_block ?_ | refine c_skip ?_ | refine x_then ?_ | refine x_block ?_)
      refine c_draw [(0, .read), (2, .read), (1, .grow), (3, .grow), (4, .grow), (5, .pure)] (by kernel_rfl) (by kernel_rfl) hS ?_
      intro wz14 hS hBz14
      refine w_read rfl rfl (s_ldo (k := 2)  rfl vi_36 hS rfl rfl rfl (.inl rfl) ?_)
      refine w_read rfl rfl (s_ldo (k := 1)  rfl vi_36 hS rfl rfl rfl (.inl rfl) ?_)
      refine w_grow rfl rfl (s_call Tryz.call35 rfl (den_ok p _) ?_)
      rintro _ wc15 ⟨rfl, hBc15⟩
      replace hS := hS.grow hBc15
      refine ⟨hBc15, ?_⟩
      refine w_grow rfl rfl (s_call Tryz.call35 rfl (den_ok q _) ?_)
      rintro _ wc16 ⟨rfl, hBc16⟩
      replace hS := hS.grow hBc16
      refine ⟨hBc16, ?_⟩
      refine w_grow rfl rfl (s_call Tryz.call34 rfl (N_mul p.den q.den _ (by omega) (by omega)) ?_)
      rintro _ wc17 ⟨rfl, hBc17⟩
      replace hS := hS.grow hBc17
      refine ⟨hBc17, ?_⟩
      refine w_pure rfl rfl (s_asg  rfl ?_)
      refine w_end ?_
      repeat (with_reducible first | refine c_seq ?_ | refine c_block ?_ | refine c_skip ?_ | refine x_then ?_ | refine x_block ?_)
      exact ⟨_, rfl, p.num.natAbs * q.den, q.num.natAbs * p.den, p.den * q.den, Nat.mul_ne_zero p.den_nz q.den_nz, (mkRat_sg_mul p q.den_nz).symm, by rw [Nat.mul_comm p.den]; exact (mkRat_sg_mul q p.den_nz).symm, by omega, by omega, by omega, rfl, rfl, rfl, rfl, rfl, rfl, hS⟩
  clear hS hm1 hm2 hm3
  rintro ρ w' ⟨X, Y, D, hD, hp, hq, sX, sY, sD, g2, g3, g4, g5, g6, g7, hS⟩
  have hsum := natS_size_add X Y
  have hXY := mkRat_add_same (sg (decide (p.num < 0)) X) (sg (decide (q.num < 0)) Y) hD
  rw [← hp, ← hq] at hXY
  clear hp hq
  rw [hXY]
  have hD2 : val (natS D) ≠ 0 := by rw [val_natS]; exact hD
  repeat (with_reducible first | refine c_seq ?_ | refine c_block ?_ | refine c_skip ?_ | refine x_then ?_ | refine x_block ?_)
  refine c_reg ?_
  refine l_pure rfl (s_fld  g2 fo_36_0 ?_)
  refine l_read rfl (s_ldo (k := 2)  rfl vi_4 hS rfl rfl rfl (.inr rfl) ?_)
  refine l_pure rfl (s_fld  g3 fo_36_0 ?_)
  refine l_read rfl (s_ldo (k := 1)  rfl vi_4 hS rfl rfl rfl (.inr rfl) ?_)
  refine l_pure rfl (s_eqb  rfl rfl Tryz.underlying4 ?_)
  refine l_nil ?_
  repeat (with_reducible first | refine c_seq ?_ | refine c_block ?_ | refine c_skip ?_ | refine x_then ?_ | refine x_block ?_)
  by_cases hneg : decide (p.num < 0) = decide (q.num < 0)
  · have hb : (decide (p.num < 0) == decide (q.num < 0)) = true := by rw [hneg]; exact beq_self_eq_true _
    refine c_yes rfl (hb) ?_
    repeat (with_reducible first | refine c_seq ?_ | refine c_block ?_ | refine c_skip ?_ | refine x_then ?_ | refine x_block ?_)
    have hred := fun w => reduced_ok (decide (p.num < 0)) (natS (X + Y)) (natS D) w (by omega) (by omega) hD2
    rw [val_natS, val_natS] at hred
    repeat (with_reducible first | refine c_seq ?_ | refine c_block ?_ | refine c_skip ?_ | refine x_then ?_ | refine x_block ?_)
    refine c_draw [(0, .pure), (1, .read), (2, .pure), (3, .pure), (5, .pure), (4, .grow), (6, .grow), (7, .free)] (by kernel_rfl) (by kernel_rfl) hS ?_
    intro wz18 hS hBz18
    refine w_pure rfl rfl (s_fld  g2 fo_36_0 ?_)
    refine w_read rfl rfl (s_ldo (k := 2)  rfl vi_4 hS rfl rfl rfl (.inr rfl) ?_)
    refine w_pure rfl rfl (s_move  g5 ?_)
    refine w_pure rfl rfl (s_move  g6 ?_)
    refine w_pure rfl rfl (s_move  g7 ?_)
    refine w_grow rfl rfl (s_call Tryz.call65 rfl (N_add X Y _ (by omega) (by omega)) ?_)
    rintro _ wc19 ⟨rfl, hBc19⟩
    replace hS := hS.grow hBc19
    refine ⟨hBc19, ?_⟩
    refine w_grow rfl rfl (s_call Tryz.call64 rfl (hred _) ?_)
    rintro _ wc20 ⟨rfl, hBc20⟩
    replace hS := hS.grow hBc20
    refine ⟨hBc20, ?_⟩
    refine w_free rfl rfl (s_sta (k := 0)  g4 rfl vi_36 hS rfl rfl rfl (Nat.le_of_ble_eq_true rfl) rfl ?_)
    intro wz21 hS
    refine w_end ?_
    repeat (with_reducible first | refine c_seq ?_ | refine c_block ?_ | refine c_skip ?_ | refine x_then ?_ | refine x_block ?_)
    refine c_ret ?_
    repeat (with_reducible first | refine x_then_ret ?_ | refine x_block_ret ?_)
    refine r_cell (k := 0) rfl g4 vi_36 hS rfl rfl ?_
    rw [← hneg, sg_add]
    exact ⟨rfl, hS.below⟩
  · have hb : (decide (p.num < 0) == decide (q.num < 0)) = false := by rw [beq_eq_false_iff_ne]; exact hneg
    refine c_no rfl (hb) ?_
    repeat (with_reducible first | refine c_seq ?_ | refine c_block ?_ | refine c_skip ?_ | refine x_then ?_ | refine x_block ?_)
    by_cases hle : Y ≤ X
    · have hs1 := natS_size_mono (Nat.sub_le X Y)
      have hred := fun w => reduced_ok (decide (p.num < 0)) (natS (X - Y)) (natS D) w (by omega) (by omega) hD2
      rw [val_natS, val_natS] at hred
      repeat (with_reducible first | refine c_seq ?_ | refine c_block ?_ | refine c_skip ?_ | refine x_then ?_ | refine x_block ?_)
      refine c_reg ?_
      refine l_pure rfl (s_move  g5 ?_)
      refine l_pure rfl (s_move  g6 ?_)
      refine l_heavy rfl (s_call Tryz.call66 rfl (N_sub X Y _ (by omega) (by omega) hle) ?_)
      rintro _ wc22 ⟨rfl, hBc22⟩
      replace hS := hS.grow hBc22
      refine l_pure rfl (s_move  rfl ?_)
      refine l_pure rfl (s_ext  rfl rfl ?_)
      refine l_pure rfl (s_ext  rfl rfl ?_)
      refine l_pure rfl (s_asg  rfl ?_)
      refine l_pure rfl (s_asg  rfl ?_)
      refine l_nil ?_
      repeat (with_reducible first | refine c_seq ?_ | refine c_block ?_ | refine c_skip ?_ | refine x_then ?_ | refine x_block ?_)
      refine c_reg ?_
      refine l_pure rfl (s_move  rfl ?_)
      refine l_nil ?_
      repeat (with_reducible first | refine c_seq ?_ | refine c_block ?_ | refine c_skip ?_ | refine x_then ?_ | refine x_block ?_)
      refine c_yes rfl (rfl) ?_
      repeat (with_reducible first | refine c_seq ?_ | refine c_block ?_ | refine c_skip ?_ | refine x_then ?_ | refine x_block ?_)
      refine c_reg ?_
      refine l_pure rfl (s_fld  g2 fo_36_0 ?_)
      refine l_read rfl (s_ldo (k := 2)  rfl vi_4 hS rfl rfl rfl (.inr rfl) ?_)
      refine l_pure rfl (s_move  rfl ?_)
      refine l_pure rfl (s_move  g7 ?_)
      refine l_heavy rfl (s_call Tryz.call64 rfl (hred _) ?_)
      rintro _ wc23 ⟨rfl, hBc23⟩
      replace hS := hS.grow hBc23
      refine l_heavy rfl (s_sta (k := 0)  g4 rfl vi_36 hS rfl rfl rfl (Nat.le_of_ble_eq_true rfl) rfl ?_)
      intro wz24 hS
      refine l_nil ?_
      repeat (with_reducible first | refine c_seq ?_ | refine c_block ?_ | refine c_skip ?_ | refine x_then ?_ | refine x_block ?_)
      refine c_ret ?_
      repeat (with_reducible first | refine x_then_ret ?_ | refine x_block_ret ?_)
      refine r_cell (k := 0) rfl g4 vi_36 hS rfl rfl ?_
      rw [sg_sub hneg hle]
      exact ⟨rfl, hS.below⟩
    · have hs1 := natS_size_mono (Nat.sub_le Y X)
      have hred := fun w => reduced_ok (decide (q.num < 0)) (natS (Y - X)) (natS D) w (by omega) (by omega) hD2
      rw [val_natS, val_natS] at hred
      repeat (with_reducible first | refine c_seq ?_ | refine c_block ?_ | refine c_skip ?_ | refine x_then ?_ | refine x_block ?_)
      refine c_reg ?_
      refine l_pure rfl (s_move  g5 ?_)
      refine l_pure rfl (s_move  g6 ?_)
      refine l_heavy rfl (s_call Tryz.call66 rfl (N_sub_no X Y _ (by omega) (by omega) (by omega)) ?_)
      rintro _ wc25 ⟨rfl, hBc25⟩
      replace hS := hS.grow hBc25
      refine l_pure rfl (s_move  rfl ?_)
      refine l_pure rfl (s_ext  rfl rfl ?_)
      refine l_pure rfl (s_ext  rfl rfl ?_)
      refine l_pure rfl (s_asg  rfl ?_)
      refine l_pure rfl (s_asg  rfl ?_)
      refine l_nil ?_
      repeat (with_reducible first | refine c_seq ?_ | refine c_block ?_ | refine c_skip ?_ | refine x_then ?_ | refine x_block ?_)
      refine c_reg ?_
      refine l_pure rfl (s_move  rfl ?_)
      refine l_nil ?_
      repeat (with_reducible first | refine c_seq ?_ | refine c_block ?_ | refine c_skip ?_ | refine x_then ?_ | refine x_block ?_)
      refine c_no rfl (rfl) ?_
      repeat (with_reducible first | refine c_seq ?_ | refine c_block ?_ | refine c_skip ?_ | refine x_then ?_ | refine x_block ?_)
      refine c_reg ?_
      refine l_pure rfl (s_move  g6 ?_)
      refine l_pure rfl (s_move  g5 ?_)
      refine l_heavy rfl (s_call Tryz.call66 rfl (N_sub Y X _ (by omega) (by omega) (by omega)) ?_)
      rintro _ wc26 ⟨rfl, hBc26⟩
      replace hS := hS.grow hBc26
      refine l_pure rfl (s_move  rfl ?_)
      refine l_pure rfl (s_ext  rfl rfl ?_)
      refine l_pure rfl (s_ext  rfl rfl ?_)
      refine l_pure rfl (s_asg  rfl ?_)
      refine l_pure rfl (s_asg  rfl ?_)
      refine l_nil ?_
      repeat (with_reducible first | refine c_seq ?_ | refine c_block ?_ | refine c_skip ?_ | refine x_then ?_ | refine x_block ?_)
      refine c_reg ?_
      refine l_pure rfl (s_fld  g3 fo_36_0 ?_)
      refine l_read rfl (s_ldo (k := 1)  rfl vi_4 hS rfl rfl rfl (.inr rfl) ?_)
      refine l_pure rfl (s_move  rfl ?_)
      refine l_pure rfl (s_move  g7 ?_)
      refine l_heavy rfl (s_call Tryz.call64 rfl (hred _) ?_)
      rintro _ wc27 ⟨rfl, hBc27⟩
      replace hS := hS.grow hBc27
      refine l_heavy rfl (s_sta (k := 0)  g4 rfl vi_36 hS rfl rfl rfl (Nat.le_of_ble_eq_true rfl) rfl ?_)
      intro wz28 hS
      refine l_nil ?_
      repeat (with_reducible first | refine c_seq ?_ | refine c_block ?_ | refine c_skip ?_ | refine x_then ?_ | refine x_block ?_)
      refine c_ret ?_
      repeat (with_reducible first | refine x_then_ret ?_ | refine x_block_ret ?_)
      refine r_cell (k := 0) rfl g4 vi_36 hS rfl rfl ?_
      rw [sg_sub' hneg (by omega)]
      exact ⟨rfl, hS.below⟩
theorem QAdd_ok (r s : RR) (w : World) (hr : Lr r + Lr s ≤ MX) :
    Ret Tryz.prog 14 #[aggR r, aggR s] w fun v w' => v = aggR (ofQ (toQ r + toQ s)) ∧ Below w.heap.size w w' := by
  have hL1 := L_toQ r
  have hL2 := L_toQ s
  have hS := St.init w
  refine enter Tryz.func14 rfl Tryz.ntmps14 rfl ?_
  repeat (with_reducible first | refine c_seq ?_ | refine c_block ?_ | refine c_skip ?_ | refine x_then ?_ | refine x_block ?_)
  refine c_reg ?_
  refine l_heavy rfl (s_box (new := encR r)  rfl rfl hS ?_)
  intro b1 wz2 hS hBz2
  refine l_heavy rfl (s_box (new := encR s)  rfl rfl hS ?_)
  intro b3 wz4 hS hBz4
  refine l_heavy rfl (s_alloc  vi_36 hS ?_)
  intro b5 wz6 hS hBz6
  refine l_nil ?_
  repeat (with_reducible first | refine c_seq ?_ | refine c_block ?_ | refine c_skip ?_ | refine x_then ?_ | refine x_block ?_)
  refine c_draw [(0, .read), (2, .read), (1, .grow), (3, .grow), (4, .grow), (5, .free)] (by kernel_rfl) (by kernel_rfl) hS ?_
  intro wz7 hS hBz7
  refine w_read rfl rfl (s_ldo (k := 2)  rfl vi_36 hS rfl rfl rfl (.inl rfl) ?_)
  refine w_read rfl rfl (s_ldo (k := 1)  rfl vi_36 hS rfl rfl rfl (.inl rfl) ?_)
  refine w_grow rfl rfl (s_call Tryz.call31 rfl (clean_ok r _ (by omega)) ?_)
  rintro _ wc8 ⟨rfl, hBc8⟩
  replace hS := hS.grow hBc8
  refine ⟨hBc8, ?_⟩
  refine w_grow rfl rfl (s_call Tryz.call31 rfl (clean_ok s _ (by omega)) ?_)
  rintro _ wc9 ⟨rfl, hBc9⟩
  replace hS := hS.grow hBc9
  refine ⟨hBc9, ?_⟩
  refine w_grow rfl rfl (s_call Tryz.call36 rfl (add_ok (toQ r) (toQ s) _ (by omega)) ?_)
  rintro _ wc10 ⟨rfl, hBc10⟩
  replace hS := hS.grow hBc10
  refine ⟨hBc10, ?_⟩
  refine w_free rfl rfl (s_sta (k := 0)  rfl rfl vi_36 hS rfl rfl rfl (Nat.le_of_ble_eq_true rfl) rfl ?_)
  intro wz11 hS
  refine w_end ?_
  repeat (with_reducible first | refine c_seq ?_ | refine c_block ?_ | refine c_skip ?_ | refine x_then ?_ | refine x_block ?_)
  refine c_ret ?_
  repeat (with_reducible first | refine x_then_ret ?_ | refine x_block_ret ?_)
  refine r_cell (k := 0) rfl rfl vi_36 hS rfl rfl ?_
  exact ⟨rfl, hS.below⟩
theorem QSubtract_ok (r s : RR) (w : World) (hr : Lr r + Lr s ≤ MX) :
    Ret Tryz.prog 29 #[aggR r, aggR s] w fun v w' => v = aggR (ofQ (toQ r - toQ s)) ∧ Below w.heap.size w w' := by
  have hL1 := L_toQ r
  have hL2 := L_toQ s
  have hL3 := L_neg (toQ s)
  have hS := St.init w
  refine enter Tryz.func29 rfl Tryz.ntmps29 rfl ?_
  repeat (with_reducible first | refine c_seq ?_ | refine c_block ?_ | refine c_skip ?_ | refine x_then ?_ | refine x_block ?_)
  refine c_reg ?_
  refine l_heavy rfl (s_box (new := encR r)  rfl rfl hS ?_)
  intro b1 wz2 hS hBz2
  refine l_heavy rfl (s_box (new := encR s)  rfl rfl hS ?_)
  intro b3 wz4 hS hBz4
  refine l_heavy rfl (s_alloc  vi_36 hS ?_)
  intro b5 wz6 hS hBz6
  refine l_nil ?_
  repeat (with_reducible first | refine c_seq ?_ | refine c_block ?_ | refine c_skip ?_ | refine x_then ?_ | refine x_block ?_)
  refine c_draw [(0, .read), (2, .read), (1, .grow), (3, .grow), (4, .grow), (5, .grow), (6, .free)] (by kernel_rfl) (by kernel_rfl) hS ?_
  intro wz7 hS hBz7
  refine w_read rfl rfl (s_ldo (k := 2)  rfl vi_36 hS rfl rfl rfl (.inl rfl) ?_)
  refine w_read rfl rfl (s_ldo (k := 1)  rfl vi_36 hS rfl rfl rfl (.inl rfl) ?_)
  refine w_grow rfl rfl (s_call Tryz.call31 rfl (clean_ok r _ (by omega)) ?_)
  rintro _ wc8 ⟨rfl, hBc8⟩
  replace hS := hS.grow hBc8
  refine ⟨hBc8, ?_⟩
  refine w_grow rfl rfl (s_call Tryz.call31 rfl (clean_ok s _ (by omega)) ?_)
  rintro _ wc9 ⟨rfl, hBc9⟩
  replace hS := hS.grow hBc9
  refine ⟨hBc9, ?_⟩
  refine w_grow rfl rfl (s_call Tryz.call57 rfl (negate_ok (toQ s) _) ?_)
  rintro _ wc10 ⟨rfl, hBc10⟩
  replace hS := hS.grow hBc10
  refine ⟨hBc10, ?_⟩
  refine w_grow rfl rfl (s_call Tryz.call36 rfl (add_ok (toQ r) (-toQ s) _ (by omega)) ?_)
  rintro _ wc11 ⟨rfl, hBc11⟩
  replace hS := hS.grow hBc11
  refine ⟨hBc11, ?_⟩
  refine w_free rfl rfl (s_sta (k := 0)  rfl rfl vi_36 hS rfl rfl rfl (Nat.le_of_ble_eq_true rfl) rfl ?_)
  intro wz12 hS
  refine w_end ?_
  repeat (with_reducible first | refine c_seq ?_ | refine c_block ?_ | refine c_skip ?_ | refine x_then ?_ | refine x_block ?_)
  refine c_ret ?_
  repeat (with_reducible first | refine x_then_ret ?_ | refine x_block_ret ?_)
  refine r_cell (k := 0) rfl rfl vi_36 hS rfl rfl ?_
  rw [Rat.sub_eq_add_neg]
  exact ⟨rfl, hS.below⟩
def minQ (p q : Rat) : Rat := if p ≤ q then p else q
def maxQ (p q : Rat) : Rat := if q ≤ p then p else q
theorem QMin_ok (r s : RR) (w : World) (hr : Lr r + Lr s ≤ MX) :
    Ret Tryz.prog 47 #[aggR r, aggR s] w fun v w' => v = aggR (ofQ (minQ (toQ r) (toQ s))) ∧ Below w.heap.size w w' := by
  have hS := St.init w
  refine enter Tryz.func47 rfl Tryz.ntmps47 rfl ?_
  repeat (with_reducible first | refine c_seq ?_ | refine c_block ?_ | refine c_skip ?_ | refine x_then ?_ | refine x_block ?_)
  refine c_reg ?_
  refine l_heavy rfl (s_box (new := encR r)  rfl rfl hS ?_)
  intro b1 wz2 hS hBz2
  refine l_heavy rfl (s_box (new := encR s)  rfl rfl hS ?_)
  intro b3 wz4 hS hBz4
  refine l_heavy rfl (s_alloc  vi_36 hS ?_)
  intro b5 wz6 hS hBz6
  refine l_nil ?_
  repeat (with_reducible first | refine c_seq ?_ | refine c_block ?_ | refine c_skip ?_ | refine x_then ?_ | refine x_block ?_)
  refine c_reg ?_
  refine l_read rfl (s_ldo (k := 2)  rfl vi_36 hS rfl rfl rfl (.inl rfl) ?_)
  refine l_read rfl (s_ldo (k := 1)  rfl vi_36 hS rfl rfl rfl (.inl rfl) ?_)
  refine l_heavy rfl (s_call Tryz.call9 rfl (QCompare_ok r s _ hr) ?_)
  rintro _ wc7 ⟨rfl, hBc7⟩
  replace hS := hS.grow hBc7
  refine l_pure rfl (s_leq  rfl rfl ?_)
  refine l_nil ?_
  repeat (with_reducible first | refine c_seq ?_ | refine c_block ?_ | refine c_skip ?_ | refine x_then ?_ | refine x_block ?_)
  by_cases h : toQ r ≤ toQ s
  · refine c_yes rfl (decide_eq_true (cmpQ_le.2 h)) ?_
    repeat (with_reducible first | refine c_seq ?_ | refine c_block ?_ | refine c_skip ?_ | refine x_then ?_ | refine x_block ?_)
    refine c_reg ?_
    refine l_read rfl (s_ldo (k := 2)  rfl vi_36 hS rfl rfl rfl (.inl rfl) ?_)
    refine l_heavy rfl (s_call Tryz.call31 rfl (clean_ok r _ (by omega)) ?_)
    rintro _ wc8 ⟨rfl, hBc8⟩
    replace hS := hS.grow hBc8
    refine l_heavy rfl (s_sta (k := 0)  rfl rfl vi_36 hS rfl rfl rfl (Nat.le_of_ble_eq_true rfl) rfl ?_)
    intro wz9 hS
    refine l_nil ?_
    repeat (with_reducible first | refine c_seq ?_ | refine c_block ?_ | refine c_skip ?_ | refine x_then ?_ | refine x_block ?_)
    refine c_ret ?_
    repeat (with_reducible first | refine x_then_ret ?_ | refine x_block_ret ?_)
    refine r_cell (k := 0) rfl rfl vi_36 hS rfl rfl ?_
    exact ⟨by unfold minQ; rw [if_pos h]; rfl, hS.below⟩
  · refine c_no rfl (decide_eq_false (fun g => h (cmpQ_le.1 g))) ?_
    repeat (with_reducible first | refine c_seq ?_ | refine c_block ?_ | refine c_skip ?_ | refine x_then ?_ | refine x_block ?_)
    refine c_reg ?_
    refine l_read rfl (s_ldo (k := 1)  rfl vi_36 hS rfl rfl rfl (.inl rfl) ?_)
    refine l_heavy rfl (s_call Tryz.call31 rfl (clean_ok s _ (by omega)) ?_)
    rintro _ wc10 ⟨rfl, hBc10⟩
    replace hS := hS.grow hBc10
    refine l_heavy rfl (s_sta (k := 0)  rfl rfl vi_36 hS rfl rfl rfl (Nat.le_of_ble_eq_true rfl) rfl ?_)
    intro wz11 hS
    refine l_nil ?_
    repeat (with_reducible first | refine c_seq ?_ | refine c_block ?_ | refine c_skip ?_ | refine x_then ?_ | refine x_block ?_)
    refine c_ret ?_
    repeat (with_reducible first | refine x_then_ret ?_ | refine x_block_ret ?_)
    refine r_cell (k := 0) rfl rfl vi_36 hS rfl rfl ?_
    exact ⟨by unfold minQ; rw [if_neg h]; rfl, hS.below⟩
theorem QMax_ok (r s : RR) (w : World) (hr : Lr r + Lr s ≤ MX) :
    Ret Tryz.prog 67 #[aggR r, aggR s] w fun v w' => v = aggR (ofQ (maxQ (toQ r) (toQ s))) ∧ Below w.heap.size w w' := by
  have hS := St.init w
  refine enter Tryz.func67 rfl Tryz.ntmps67 rfl ?_
  repeat (with_reducible first | refine c_seq ?_ | refine c_block ?_ | refine c_skip ?_ | refine x_then ?_ | refine x_block ?_)
  refine c_reg ?_
  refine l_heavy rfl (s_box (new := encR r)  rfl rfl hS ?_)
  intro b1 wz2 hS hBz2
  refine l_heavy rfl (s_box (new := encR s)  rfl rfl hS ?_)
  intro b3 wz4 hS hBz4
  refine l_heavy rfl (s_alloc  vi_36 hS ?_)
  intro b5 wz6 hS hBz6
  refine l_nil ?_
  repeat (with_reducible first | refine c_seq ?_ | refine c_block ?_ | refine c_skip ?_ | refine x_then ?_ | refine x_block ?_)
  refine c_reg ?_
  refine l_read rfl (s_ldo (k := 2)  rfl vi_36 hS rfl rfl rfl (.inl rfl) ?_)
  refine l_read rfl (s_ldo (k := 1)  rfl vi_36 hS rfl rfl rfl (.inl rfl) ?_)
  refine l_heavy rfl (s_call Tryz.call9 rfl (QCompare_ok r s _ hr) ?_)
  rintro _ wc7 ⟨rfl, hBc7⟩
  replace hS := hS.grow hBc7
  refine l_pure rfl (s_geq  rfl rfl ?_)
  refine l_nil ?_
  repeat (with_reducible first | refine c_seq ?_ | refine c_block ?_ | refine c_skip ?_ | refine x_then ?_ | refine x_block ?_)
  by_cases h : toQ s ≤ toQ r
  · refine c_yes rfl (decide_eq_true (cmpQ_ge.2 h)) ?_
    repeat (with_reducible first | refine c_seq ?_ | refine c_block ?_ | refine c_skip ?_ | refine x_then ?_ | refine x_block ?_)
    refine c_reg ?_
    refine l_read rfl (s_ldo (k := 2)  rfl vi_36 hS rfl rfl rfl (.inl rfl) ?_)
    refine l_heavy rfl (s_call Tryz.call31 rfl (clean_ok r _ (by omega)) ?_)
    rintro _ wc8 ⟨rfl, hBc8⟩
    replace hS := hS.grow hBc8
    refine l_heavy rfl (s_sta (k := 0)  rfl rfl vi_36 hS rfl rfl rfl (Nat.le_of_ble_eq_true rfl) rfl ?_)
    intro wz9 hS
    refine l_nil ?_
    repeat (with_reducible first | refine c_seq ?_ | refine c_block ?_ | refine c_skip ?_ | refine x_then ?_ | refine x_block ?_)
    refine c_ret ?_
    repeat (with_reducible first | refine x_then_ret ?_ | refine x_block_ret ?_)
    refine r_cell (k := 0) rfl rfl vi_36 hS rfl rfl ?_
    exact ⟨by unfold maxQ; rw [if_pos h]; rfl, hS.below⟩
  · refine c_no rfl (decide_eq_false (fun g => h (cmpQ_ge.1 g))) ?_
    repeat (with_reducible first | refine c_seq ?_ | refine c_block ?_ | refine c_skip ?_ | refine x_then ?_ | refine x_block ?_)
    refine c_reg ?_
    refine l_read rfl (s_ldo (k := 1)  rfl vi_36 hS rfl rfl rfl (.inl rfl) ?_)
    refine l_heavy rfl (s_call Tryz.call31 rfl (clean_ok s _ (by omega)) ?_)
    rintro _ wc10 ⟨rfl, hBc10⟩
    replace hS := hS.grow hBc10
    refine l_heavy rfl (s_sta (k := 0)  rfl rfl vi_36 hS rfl rfl rfl (Nat.le_of_ble_eq_true rfl) rfl ?_)
    intro wz11 hS
    refine l_nil ?_
    repeat (with_reducible first | refine c_seq ?_ | refine c_block ?_ | refine c_skip ?_ | refine x_then ?_ | refine x_block ?_)
    refine c_ret ?_
    repeat (with_reducible first | refine x_then_ret ?_ | refine x_block_ret ?_)
    refine r_cell (k := 0) rfl rfl vi_36 hS rfl rfl ?_
    exact ⟨by unfold maxQ; rw [if_neg h]; rfl, hS.below⟩
end Go.Proofs.YtmghobajmhdbfaaGreatDoor
namespace Go.Proofs.YtmghobajmhdbfaaGreatDoor
open Go Go.RowKit Go.Sx
theorem mkRat_int (n : Int) : mkRat (sg (decide (n < 0)) n.natAbs) 1 = (n : Rat) := by
  have h : sg (decide (n < 0)) n.natAbs = n := by
    unfold sg
    by_cases h : n < 0 <;> simp [h] <;> omega
  rw [h]
  have := Rat.mkRat_self (n : Rat)
  rwa [Rat.num_intCast, Rat.den_intCast] at this
theorem natS_u64 {n : Nat} (h : n < 18446744073709551616) : (natS n).size ≤ 8 := natS_size_le h
theorem magnitude_ok (n : Int) (w : World) (h1 : -9223372036854775808 ≤ n) (h2 : n ≤ 9223372036854775807) :
    Ret Tryz.prog 68 #[.int .i64 n] w fun v w' => v = .string (natS n.natAbs) ∧ Below w.heap.size w w' := by
  have hS := St.init w
  refine enter Tryz.func68 rfl Tryz.ntmps68 rfl ?_
  repeat (with_reducible first | refine c_seq ?_ | refine c_block ?_ | refine c_skip ?_ | refine x_then ?_ | refine x_block ?_)
  refine c_reg ?_
  refine l_pure rfl (s_asg  rfl ?_)
  refine l_nil ?_
  repeat (with_reducible first | refine c_seq ?_ | refine c_block ?_ | refine c_skip ?_ | refine x_then ?_ | refine x_block ?_)
  refine c_reg ?_
  refine l_pure rfl (s_move  rfl ?_)
  refine l_pure rfl (s_lss  rfl rfl ?_)
  refine l_nil ?_
  repeat (with_reducible first | refine c_seq ?_ | refine c_block ?_ | refine c_skip ?_ | refine x_then ?_ | refine x_block ?_)
  by_cases h : n < 0
  · refine c_yes rfl (decide_eq_true h) ?_
    repeat (with_reducible first | refine c_seq ?_ | refine c_block ?_ | refine c_skip ?_ | refine x_then ?_ | refine x_block ?_)
    refine c_reg ?_
    refine l_pure rfl (s_move  rfl ?_)
    refine l_pure rfl (s_conv  rfl Tryz.underlying95 ⟨_, Tryz.underlying2⟩ (r := ((n + 18446744073709551616 : Int))) (by rw [wrapm_u64]; omega) ?_)
    refine l_pure rfl (s_neg  rfl (r := ((n.natAbs : Nat) : Int)) (by rw [wrapm_u64]; omega) ?_)
    refine l_heavy rfl (s_call Tryz.call95 rfl (FromUint_ok n.natAbs _ (by omega)) ?_)
    rintro _ wc1 ⟨rfl, hBc1⟩
    replace hS := hS.grow hBc1
    refine l_pure rfl (s_asg  rfl ?_)
    refine l_nil ?_
    repeat (with_reducible first | refine c_seq ?_ | refine c_block ?_ | refine c_skip ?_ | refine x_then ?_ | refine x_block ?_)
    refine c_ret ?_
    repeat (with_reducible first | refine x_then_ret ?_ | refine x_block_ret ?_)
    refine r_one rfl rfl ?_
    exact ⟨rfl, hS.below⟩
  · refine c_no rfl (decide_eq_false h) ?_
    repeat (with_reducible first | refine c_seq ?_ | refine c_block ?_ | refine c_skip ?_ | refine x_then ?_ | refine x_block ?_)
    refine c_reg ?_
    refine l_pure rfl (s_move  rfl ?_)
    refine l_pure rfl (s_conv  rfl Tryz.underlying95 ⟨_, Tryz.underlying2⟩ (r := ((n.natAbs : Nat) : Int)) (by rw [wrapm_u64]; omega) ?_)
    refine l_heavy rfl (s_call Tryz.call95 rfl (FromUint_ok n.natAbs _ (by omega)) ?_)
    rintro _ wc2 ⟨rfl, hBc2⟩
    replace hS := hS.grow hBc2
    refine l_pure rfl (s_asg  rfl ?_)
    refine l_nil ?_
    repeat (with_reducible first | refine c_seq ?_ | refine c_block ?_ | refine c_skip ?_ | refine x_then ?_ | refine x_block ?_)
    refine c_ret ?_
    repeat (with_reducible first | refine x_then_ret ?_ | refine x_block_ret ?_)
    refine r_one rfl rfl ?_
    exact ⟨rfl, hS.below⟩
theorem QInt_ok (n : Int) (w : World) (h1 : -9223372036854775808 ≤ n) (h2 : n ≤ 9223372036854775807) :
    Ret Tryz.prog 38 #[.int .i64 n] w fun v w' => v = aggR (ofQ (n : Rat)) ∧ Below w.heap.size w w' := by
  have hM : MX = 1099511627776 := rfl
  have hs := natS_u64 (n := n.natAbs) (by omega)
  have hred := fun w => reduced_ok (decide (n < 0)) (natS n.natAbs) ⟨#[1]⟩ w (by omega) (by show 1 ≤ _; omega) (by rw [val_le_one]; decide)
  rw [val_natS, val_le_one, mkRat_int] at hred
  have hS := St.init w
  refine enter Tryz.func38 rfl Tryz.ntmps38 rfl ?_
  repeat (with_reducible first | refine c_seq ?_ | refine c_block ?_ | refine c_skip ?_ | refine x_then ?_ | refine x_block ?_)
  refine c_reg ?_
  refine l_heavy rfl (s_alloc  vi_36 hS ?_)
  intro b1 wz2 hS hBz2
  refine l_nil ?_
  repeat (with_reducible first | refine c_seq ?_ | refine c_block ?_ | refine c_skip ?_ | refine x_then ?_ | refine x_block ?_)
  refine c_reg ?_
  refine l_pure rfl (s_move  rfl ?_)
  refine l_pure rfl (s_lss  rfl rfl ?_)
  refine l_pure rfl (s_move  rfl ?_)
  refine l_heavy rfl (s_call Tryz.call68 rfl (magnitude_ok n _ h1 h2) ?_)
  rintro _ wc3 ⟨rfl, hBc3⟩
  replace hS := hS.grow hBc3
  refine l_heavy rfl (s_call Tryz.call64 rfl (hred _) ?_)
  rintro _ wc4 ⟨rfl, hBc4⟩
  replace hS := hS.grow hBc4
  refine l_heavy rfl (s_sta (k := 0)  rfl rfl vi_36 hS rfl rfl rfl (Nat.le_of_ble_eq_true rfl) rfl ?_)
  intro wz5 hS
  refine l_nil ?_
  repeat (with_reducible first | refine c_seq ?_ | refine c_block ?_ | refine c_skip ?_ | refine x_then ?_ | refine x_block ?_)
  refine c_ret ?_
  repeat (with_reducible first | refine x_then_ret ?_ | refine x_block_ret ?_)
  refine r_cell (k := 0) rfl rfl vi_36 hS rfl rfl ?_
  exact ⟨rfl, hS.below⟩
def sumQ (l : List Rat) : Rat := l.foldl (· + ·) 0
theorem sumQ_snoc (l : List Rat) (q : Rat) : sumQ (l ++ [q]) = sumQ l + q := by unfold sumQ; rw [List.foldl_append]; rfl
/-- The lengths of a list's numbers. -/
def sumL : List RR → Nat
  | [] => 0
  | r :: l => Lr r + 1 + sumL l
theorem sumL_append (l m : List RR) : sumL (l ++ m) = sumL l + sumL m := by
  induction l with
  | nil => simp [sumL]
  | cons r l ih => simp only [List.cons_append, sumL, ih]; omega
theorem take_succ' {α : Type} (l : List α) (i : Nat) (d : α) (h : i < l.length) : l.take (i + 1) = l.take i ++ [l.getD i d] := by
  rw [List.take_succ_eq_append_getElem h, List.getD_eq_getElem?_getD, List.getElem?_eq_getElem h]; rfl
theorem sumL_take (l : List RR) (i : Nat) : sumL (l.take i) ≤ sumL l := by
  conv => rhs; rw [← List.take_append_drop i l, sumL_append]
  omega
def zRR : RR := ⟨false, ⟨#[]⟩, ⟨#[]⟩⟩
theorem getD_mem {α : Type} (l : List α) (i : Nat) (d : α) (h : i < l.length) : l.getD i d ∈ l := by
  rw [List.getD_eq_getElem?_getD, List.getElem?_eq_getElem h]; exact List.getElem_mem h
theorem encR_zero : encR zRR = encR (ofQ 0) := by rw [ofQ_zero]; rfl
theorem QSum_ok (v : Value) (l : List RR) (w : World) (hv : Sl encR 3 w v l) (hl : sumL l + 1 ≤ MX) :
    Ret Tryz.prog 10 #[v] w fun r w' => r = aggR (ofQ (sumQ (l.map toQ))) ∧ Below w.heap.size w w' := by
  have hM : MX = 1099511627776 := rfl
  have hmax := hv.maxLen
  have hS := St.init w
  refine enter Tryz.func10 rfl Tryz.ntmps10 rfl ?_
  repeat (with_reducible first | refine c_seq ?_ | refine c_block ?_ | refine c_skip ?_ | refine x_then ?_ | refine x_block ?_)
  refine c_reg ?_
  refine l_heavy rfl (s_alloc  vi_36 hS ?_)
  intro b1 wz2 hS hBz2
  refine l_nil ?_
  repeat (with_reducible first | refine c_seq ?_ | refine c_block ?_ | refine c_skip ?_ | refine x_then ?_ | refine x_block ?_)
  refine c_reg ?_
  refine l_pure rfl (s_build  rfl bz_36 ?_)
  refine l_heavy rfl (s_alloc  vi_36 hS ?_)
  intro b3 wz4 hS hBz4
  refine l_heavy rfl (s_sta (k := 0)  rfl rfl vi_36 hS rfl rfl rfl (Nat.le_of_ble_eq_true rfl) rfl ?_)
  intro wz5 hS
  refine l_nil ?_
  repeat (with_reducible first | refine c_seq ?_ | refine c_block ?_ | refine c_skip ?_ | refine x_then ?_ | refine x_block ?_)
  refine c_reg ?_
  refine l_pure rfl (s_move  rfl ?_)
  refine l_pure rfl (s_lenr  rfl (hv.below hS.below) ⟨_, Tryz.underlying24⟩ ?_)
  refine l_pure rfl (s_move  rfl ?_)
  refine l_nil ?_
  repeat (with_reducible first | refine c_seq ?_ | refine c_block ?_ | refine c_skip ?_ | refine x_then ?_ | refine x_block ?_)
  replace hS := hS.cast (H' := [(b3, 36, encR (ofQ (sumQ ((l.take 0).map toQ)))), (b1, 36, encR zRR)]) (by rw [show sumQ ((l.take 0).map toQ) = 0 from rfl, ← encR_zero]; rfl)
  refine c_loop (σ := Nat) (fun i ρ w' => i ≤ l.length ∧ L (sumQ ((l.take i).map toQ)) ≤ sumL (l.take i) + 1 ∧ ρ 2 = .pointer (some ⟨b1, 0, none⟩) ∧ ρ 3 = .pointer (some ⟨b3, 0, none⟩) ∧ ρ 7 = v ∧ ρ 8 = .int .i64 l.length ∧ ρ 9 = .int .i64 i ∧
      St w w' [(b3, 36, encR (ofQ (sumQ ((l.take i).map toQ)))), (b1, 36, encR zRR)]) (fun i => l.length - i) 0
    ⟨Nat.zero_le _, by rw [show sumQ ((l.take 0).map toQ) = 0 from rfl, L_zero]; omega, rfl, rfl, rfl, rfl, rfl, hS⟩ ?_
  clear hS
  rintro i ρ w2 ⟨hi, hLi, h2, h3, h7, h8, h9, hS⟩
  repeat (with_reducible first | refine c_seq ?_ | refine c_block ?_ | refine c_skip ?_ | refine x_then ?_ | refine x_block ?_)
  refine c_reg ?_
  refine l_pure rfl (s_lss  h9 h8 ?_)
  refine l_nil ?_
  repeat (with_reducible first | refine c_seq ?_ | refine c_block ?_ | refine c_skip ?_ | refine x_then ?_ | refine x_block ?_)
  by_cases hlt : i < l.length
  · refine c_yes rfl (decide_eq_true (by omega)) ?_
    repeat (with_reducible first | refine c_seq ?_ | refine c_block ?_ | refine c_skip ?_ | refine x_then ?_ | refine x_block ?_)
    have ht := take_succ' l i zRR hlt
    have hs1 := sumL_take l (i + 1)
    rw [ht, sumL_append] at hs1
    simp only [sumL] at hs1
    have hLr := L_toQ (l.getD i zRR)
    have hadd := L_add (sumQ ((l.take i).map toQ)) (toQ (l.getD i zRR))
    repeat (with_reducible first | refine c_seq ?_ | refine c_block ?_ | refine c_skip ?_ | refine x_then ?_ | refine x_block ?_)
    refine c_reg ?_
    refine l_pure rfl (s_ixr (i := i)  h7 h9 (hv.below hS.below) (by omega) (by first | omega | (simp; done) | (simp; omega)) si_24 ?_)
    refine l_read rfl (s_lde (i := i) zRR  rfl vi_36 (hv.below hS.below) (by first | omega | (simp; done) | (simp; omega)) rfl rfl (.inl rfl) ?_)
    refine l_heavy rfl (s_alloc  vi_36 hS ?_)
    intro b6 wz7 hS hBz7
    refine l_heavy rfl (s_sta (k := 0)  rfl rfl vi_36 hS rfl rfl rfl (Nat.le_of_ble_eq_true rfl) rfl ?_)
    intro wz8 hS
    refine l_nil ?_
    repeat (with_reducible first | refine c_seq ?_ | refine c_block ?_ | refine c_skip ?_ | refine x_then ?_ | refine x_block ?_)
    replace hS : St w _ [(_, 36, encR (l.getD i zRR)), (b3, 36, encR (ofQ (sumQ ((l.take i).map toQ)))), (b1, 36, encR zRR)] := hS
    repeat (with_reducible first | refine c_seq ?_ | refine c_block ?_ | refine c_skip ?_ | refine x_then ?_ | refine x_block ?_)
    refine c_draw [(0, .read), (1, .read), (2, .grow), (3, .grow), (4, .free)] (by kernel_rfl) (by kernel_rfl) hS ?_
    intro wz9 hS hBz9
    refine w_read rfl rfl (s_ldo (k := 1)  h3 vi_36 hS rfl rfl rfl (.inl rfl) ?_)
    refine w_read rfl rfl (s_ldo (k := 0)  rfl vi_36 hS rfl rfl rfl (.inl rfl) ?_)
    refine w_grow rfl rfl (s_call Tryz.call31 rfl (clean_ok (l.getD i zRR) _ (by omega)) ?_)
    rintro _ wc10 ⟨rfl, hBc10⟩
    replace hS := hS.grow hBc10
    refine ⟨hBc10, ?_⟩
    refine w_grow rfl rfl (s_call Tryz.call36 rfl (add_ok (sumQ ((l.take i).map toQ)) (toQ (l.getD i zRR)) _ (by omega)) ?_)
    rintro _ wc11 ⟨rfl, hBc11⟩
    replace hS := hS.grow hBc11
    refine ⟨hBc11, ?_⟩
    refine w_free rfl rfl (s_sta (k := 1)  h3 rfl vi_36 hS rfl rfl rfl (Nat.le_of_ble_eq_true rfl) rfl ?_)
    intro wz12 hS
    refine w_end ?_
    repeat (with_reducible first | refine c_seq ?_ | refine c_block ?_ | refine c_skip ?_ | refine x_then ?_ | refine x_block ?_)
    have he : sumQ ((l.take (i + 1)).map toQ) = sumQ ((l.take i).map toQ) + toQ (l.getD i zRR) := by rw [ht, List.map_append, List.map_singleton, sumQ_snoc]
    rw [← he] at hadd
    replace hS : St w _ [(_, 36, encR (l.getD i zRR)), (b3, 36, encR (ofQ (sumQ ((l.take i).map toQ) + toQ (l.getD i zRR)))), (b1, 36, encR zRR)] := hS
    rw [← he] at hS
    repeat (with_reducible first | refine c_seq ?_ | refine c_block ?_ | refine c_skip ?_ | refine x_then ?_ | refine x_block ?_)
    refine c_reg ?_
    refine l_pure rfl (s_add  h9 rfl (IntWalk.i64_in _ (by omega)) ?_)
    refine l_pure rfl (s_move  rfl ?_)
    refine l_nil ?_
    repeat (with_reducible first | refine c_seq ?_ | refine c_block ?_ | refine c_skip ?_ | refine x_then ?_ | refine x_block ?_)
    exact ⟨i + 1, _, rfl, ⟨hlt, by rw [ht, sumL_append] at *; simp only [sumL]; omega, h2, h3, h7, h8, vi rfl (by omega), hS.drop (List.sublist_cons_self _ _)⟩, by omega⟩
  · refine c_no rfl (decide_eq_false (by omega)) ?_
    repeat (with_reducible first | refine c_seq ?_ | refine c_block ?_ | refine c_skip ?_ | refine x_then ?_ | refine x_block ?_)
    refine c_exit ?_
    repeat (with_reducible first | refine x_then_exit ?_ | refine x_block_exit ?_ | refine x_block_pass rfl ?_)
    repeat (with_reducible first | refine c_seq ?_ | refine c_block ?_ | refine c_skip ?_ | refine x_then ?_ | refine x_block ?_)
    obtain rfl : i = l.length := by omega
    rw [List.take_length] at hS
    repeat (with_reducible first | refine c_seq ?_ | refine c_block ?_ | refine c_skip ?_ | refine x_then ?_ | refine x_block ?_)
    refine c_reg ?_
    refine l_read rfl (s_ldo (k := 0)  h3 vi_36 hS rfl rfl rfl (.inl rfl) ?_)
    refine l_heavy rfl (s_sta (k := 1)  h2 rfl vi_36 hS rfl rfl rfl (Nat.le_of_ble_eq_true rfl) rfl ?_)
    intro wz13 hS
    refine l_nil ?_
    repeat (with_reducible first | refine c_seq ?_ | refine c_block ?_ | refine c_skip ?_ | refine x_then ?_ | refine x_block ?_)
    refine c_ret ?_
    repeat (with_reducible first | refine x_then_ret ?_ | refine x_block_ret ?_)
    refine r_cell (k := 1) rfl h2 vi_36 hS rfl rfl ?_
    exact ⟨rfl, hS.below⟩
end Go.Proofs.YtmghobajmhdbfaaGreatDoor
namespace Go.Proofs.YtmghobajmhdbfaaGreatDoor
open Go Go.RowKit Go.Sx
theorem rNormalize_ok (s : ByteArray) (w : World) (hs : s.size ≤ 9223372036854775807) :
    Ret Tryz.prog 99 #[.string s] w fun v w' => v = .string (natS (val s)) ∧ w' = w := by
  refine enter Tryz.func99 rfl Tryz.ntmps99 rfl ?_
  repeat (with_reducible first | refine c_seq ?_ | refine c_block ?_ | refine c_skip ?_ | refine x_then ?_ | refine x_block ?_)
  refine c_reg ?_
  refine l_pure rfl (s_asg  rfl ?_)
  refine l_nil ?_
  repeat (with_reducible first | refine c_seq ?_ | refine c_block ?_ | refine c_skip ?_ | refine x_then ?_ | refine x_block ?_)
  refine c_reg ?_
  refine l_pure rfl (s_asg  rfl ?_)
  refine l_nil ?_
  repeat (with_reducible first | refine c_seq ?_ | refine c_block ?_ | refine c_skip ?_ | refine x_then ?_ | refine x_block ?_)
  refine c_loop (σ := Nat) (fun k ρ w' => k ≤ s.size ∧ (∀ i (_ : i < k) (h : i < s.size), s[i] = 0) ∧ ρ 0 = .string s ∧ ρ 3 = .int .i64 k ∧ w' = w) (fun k => s.size - k) 0
    ⟨by omega, fun i h => by omega, rfl, rfl, rfl⟩ ?_
  rintro k ρ w' ⟨hk, hz, h0, h3, rfl⟩
  by_cases hlt : k < s.size
  · repeat (with_reducible first | refine c_seq ?_ | refine c_block ?_ | refine c_skip ?_ | refine x_then ?_ | refine x_block ?_)
    refine c_reg ?_
    refine l_pure rfl (s_move  h3 ?_)
    refine l_pure rfl (s_move  h0 ?_)
    refine l_pure rfl (s_lens  rfl Tryz.underlying9 ?_)
    refine l_pure rfl (s_lss  rfl rfl ?_)
    refine l_pure rfl (s_move  rfl ?_)
    refine l_pure (gd_yes 8 (by kernel_rfl) rfl (decide_eq_true (by omega))) (s_move  h0 ?_)
    refine l_pure (gd_yes 8 (by kernel_rfl) rfl (decide_eq_true (by omega))) (s_move  h3 ?_)
    refine l_pure (gd_yes 8 (by kernel_rfl) rfl (decide_eq_true (by omega))) (s_ixs (i := k)  rfl rfl (by omega) (by omega) Tryz.underlying9 ?_)
    refine l_pure (gd_yes 8 (by kernel_rfl) rfl (decide_eq_true (by omega))) (s_eql  rfl rfl ?_)
    refine l_pure rfl (s_pick (vb rfl (decide_eq_true (by omega))) rfl ?_)
    refine l_nil ?_
    repeat (with_reducible first | refine c_seq ?_ | refine c_block ?_ | refine c_skip ?_ | refine x_then ?_ | refine x_block ?_)
    by_cases h : s[k] = 0
    · refine c_yes rfl (decide_eq_true (by rw [h]; rfl)) ?_
      repeat (with_reducible first | refine c_seq ?_ | refine c_block ?_ | refine c_skip ?_ | refine x_then ?_ | refine x_block ?_)
      refine c_reg ?_
      refine l_pure rfl (s_move  h3 ?_)
      refine l_pure rfl (s_add  rfl rfl (IntWalk.i64_in _ (by omega)) ?_)
      refine l_pure rfl (s_asg  rfl ?_)
      refine l_nil ?_
      repeat (with_reducible first | refine c_seq ?_ | refine c_block ?_ | refine c_skip ?_ | refine x_then ?_ | refine x_block ?_)
      refine ⟨k + 1, _, rfl, ⟨by omega, fun i hi hi' => ?_, h0, vi rfl (by omega), rfl⟩, by omega⟩
      rcases Nat.lt_or_ge i k with h2 | h2
      · exact hz i h2 hi'
      · obtain rfl : i = k := by omega
        exact h
    · refine c_no rfl (decide_eq_false (fun g => h (UInt8.toNat_inj.1 (by simp at g; exact g)))) ?_
      repeat (with_reducible first | refine c_seq ?_ | refine c_block ?_ | refine c_skip ?_ | refine x_then ?_ | refine x_block ?_)
      refine c_exit ?_
      repeat (with_reducible first | refine x_then_exit ?_ | refine x_block_exit ?_ | refine x_block_pass rfl ?_)
      repeat (with_reducible first | refine c_seq ?_ | refine c_block ?_ | refine c_skip ?_ | refine x_then ?_ | refine x_block ?_)
      refine c_reg ?_
      refine l_pure rfl (s_move  h0 ?_)
      refine l_pure rfl (s_move  h3 ?_)
      refine l_pure rfl (s_slcsl (lo := k)  rfl rfl rfl (by omega) Tryz.underlying9 ?_)
      refine l_pure rfl (s_asg  rfl ?_)
      refine l_nil ?_
      repeat (with_reducible first | refine c_seq ?_ | refine c_block ?_ | refine c_skip ?_ | refine x_then ?_ | refine x_block ?_)
      refine c_ret ?_
      repeat (with_reducible first | refine x_then_ret ?_ | refine x_block_ret ?_)
      refine r_one rfl rfl ?_
      exact ⟨congrArg Value.string (zdrop_val s k hk hz (.inr ⟨hlt, h⟩)), rfl⟩
  · repeat (with_reducible first | refine c_seq ?_ | refine c_block ?_ | refine c_skip ?_ | refine x_then ?_ | refine x_block ?_)
    refine c_reg ?_
    refine l_pure rfl (s_move  h3 ?_)
    refine l_pure rfl (s_move  h0 ?_)
    refine l_pure rfl (s_lens  rfl Tryz.underlying9 ?_)
    refine l_pure rfl (s_lss  rfl rfl ?_)
    refine l_pure rfl (s_move  rfl ?_)
    refine l_no (gno_yes 8 (by kernel_rfl) rfl (decide_eq_false (by omega))) ?_
    refine l_no (gno_yes 8 (by kernel_rfl) rfl (decide_eq_false (by omega))) ?_
    refine l_no (gno_yes 8 (by kernel_rfl) rfl (decide_eq_false (by omega))) ?_
    refine l_no (gno_yes 8 (by kernel_rfl) rfl (decide_eq_false (by omega))) ?_
    refine l_pure rfl (s_pick (vb rfl (decide_eq_false (by omega))) rfl ?_)
    refine l_nil ?_
    repeat (with_reducible first | refine c_seq ?_ | refine c_block ?_ | refine c_skip ?_ | refine x_then ?_ | refine x_block ?_)
    refine c_no rfl (rfl) ?_
    repeat (with_reducible first | refine c_seq ?_ | refine c_block ?_ | refine c_skip ?_ | refine x_then ?_ | refine x_block ?_)
    refine c_exit ?_
    repeat (with_reducible first | refine x_then_exit ?_ | refine x_block_exit ?_ | refine x_block_pass rfl ?_)
    repeat (with_reducible first | refine c_seq ?_ | refine c_block ?_ | refine c_skip ?_ | refine x_then ?_ | refine x_block ?_)
    refine c_reg ?_
    refine l_pure rfl (s_move  h0 ?_)
    refine l_pure rfl (s_move  h3 ?_)
    refine l_pure rfl (s_slcsl (lo := k)  rfl rfl rfl (by omega) Tryz.underlying9 ?_)
    refine l_pure rfl (s_asg  rfl ?_)
    refine l_nil ?_
    repeat (with_reducible first | refine c_seq ?_ | refine c_block ?_ | refine c_skip ?_ | refine x_then ?_ | refine x_block ?_)
    refine c_ret ?_
    repeat (with_reducible first | refine x_then_ret ?_ | refine x_block_ret ?_)
    refine r_one rfl rfl ?_
    exact ⟨congrArg Value.string (zdrop_val s k hk hz (.inl (by omega))), rfl⟩
/-- A number's limbs, by the length of its string. -/
theorem limb_len_natS (V : Nat) : (limb V).length = ((natS V).size + 3) / 4 := by
  obtain ⟨k, hk⟩ : ∃ k, k = (natS V).size := ⟨_, rfl⟩
  rw [← hk]
  rcases Nat.eq_zero_or_pos V with h0 | h0
  · subst h0
    rw [natS_size, digs_zero] at hk
    unfold limb
    rw [digs_zero, hk]; rfl
  · have h1 : V < 256 ^ k := by rw [hk]; exact lt_natS_size V
    have h2 : 256 ^ (k - 1) ≤ V := by
      refine pow_le_of_digs_length (by decide) ?_
      rw [← natS_size, ← hk]
      have : 1 ≤ k := by rw [hk]; exact natS_size_pos h0
      omega
    have h3 : (limb V).length ≤ (k + 3) / 4 := by
      refine limb_len_le (Nat.lt_of_lt_of_le h1 ?_)
      rw [show B32 = 256 ^ 4 from rfl, ← Nat.pow_mul]
      exact Nat.pow_le_pow_right (by decide) (by omega)
    have h4 : (k + 3) / 4 ≤ (limb V).length := by
      rcases Nat.lt_or_ge (limb V).length ((k + 3) / 4) with h | h
      · exfalso
        have h5 := limb_lt_pow V
        have h6 : B32 ^ (limb V).length ≤ 256 ^ (k - 1) := by
          rw [show B32 = 256 ^ 4 from rfl, ← Nat.pow_mul]
          exact Nat.pow_le_pow_right (by decide) (by omega)
        omega
      · exact h
    omega
theorem pad_limb (V : Nat) : pad B32 V (limb V).length = limb V := by
  have h := digs_of_take (b := B32) (by decide) (pad B32 V (limb V).length) (limb V).length (pad_lt (by decide) _ _) (by simp) (fun i h1 h2 => by simp at h2; omega) ?_
  · rw [ofDigs_pad_lt (limb_lt_pow V), List.take_of_length_le (by simp)] at h
    exact h
  · rcases Nat.eq_zero_or_pos (limb V).length with h0 | h0
    · exact .inl h0
    · right
      rw [pad_getD _ _ (by omega)]
      have hV : 0 < V := by
        rcases Nat.eq_zero_or_pos V with g | g
        · rw [g] at h0; unfold limb at h0; rw [digs_zero] at h0; exact absurd h0 (by simp)
        · exact g
      have := (top_pos hV).2
      omega
theorem rlimbs_ok (s : ByteArray) (w : World) (hs : s.size ≤ 70368744177664) :
    Ret Tryz.prog 78 #[.string s] w fun r w' => Sl (uk .u32) 1 w' r (limb (val s)) ∧ Below w.heap.size w w' := by
  have hS := St.init w
  have hsz := natS_val_size_le s
  refine enter Tryz.func78 rfl Tryz.ntmps78 rfl ?_
  repeat (with_reducible first | refine c_seq ?_ | refine c_block ?_ | refine c_skip ?_ | refine x_then ?_ | refine x_block ?_)
  refine c_reg ?_
  refine l_pure rfl (s_asg  rfl ?_)
  refine l_nil ?_
  repeat (with_reducible first | refine c_seq ?_ | refine c_block ?_ | refine c_skip ?_ | refine x_then ?_ | refine x_block ?_)
  refine c_reg ?_
  refine l_pure rfl (s_move  rfl ?_)
  refine l_heavy rfl (s_call Tryz.call99 rfl (rNormalize_ok _ _ (by omega)) ?_)
  rintro _ wq1 ⟨rfl, hq1⟩
  replace hq1 := hq1.symm
  subst hq1
  refine l_pure rfl (s_asg  rfl ?_)
  refine l_nil ?_
  repeat (with_reducible first | refine c_seq ?_ | refine c_block ?_ | refine c_skip ?_ | refine x_then ?_ | refine x_block ?_)
  obtain ⟨V, hV⟩ : ∃ V, V = val s := ⟨_, rfl⟩
  rw [← hV]
  rw [← hV] at hsz
  obtain ⟨S, hSe⟩ : ∃ S, S = natS V := ⟨_, rfl⟩
  have hvS : val S = V := by rw [hSe, val_natS]
  have hlen := limb_len_natS V
  rw [← hSe] at hlen hsz
  rw [← hSe]
  repeat (with_reducible first | refine c_seq ?_ | refine c_block ?_ | refine c_skip ?_ | refine x_then ?_ | refine x_block ?_)
  refine c_reg ?_
  refine l_pure rfl (s_move  rfl ?_)
  refine l_pure rfl (s_lens  rfl Tryz.underlying9 ?_)
  refine l_pure rfl (s_add  rfl rfl (IntWalk.i64_in _ (by omega)) ?_)
  refine l_pure rfl (s_quo  rfl rfl (by omega) (r := (((S.size + 3) / 4 : Nat) : Int)) (by exact IntWalk.i64_quo _ _ (by omega)) ?_)
  refine l_heavy rfl (s_makek (n := (S.size + 3) / 4)  rfl rfl si_91 (by omega) (by omega) (by omega) (by omega) hS ?_)
  intro b2 wz3 hS hBz3
  refine l_pure rfl (s_asg  rfl ?_)
  refine l_nil ?_
  repeat (with_reducible first | refine c_seq ?_ | refine c_block ?_ | refine c_skip ?_ | refine x_then ?_ | refine x_block ?_)
  refine c_reg ?_
  refine l_pure rfl (s_asg  rfl ?_)
  refine l_nil ?_
  repeat (with_reducible first | refine c_seq ?_ | refine c_block ?_ | refine c_skip ?_ | refine x_then ?_ | refine x_block ?_)
  obtain ⟨n, hn⟩ : ∃ n, n = (S.size + 3) / 4 := ⟨_, rfl⟩
  rw [← hn, ← pad_zero B32 n, show 0 = V % 256 ^ 0 by rw [Nat.pow_zero, Nat.mod_one]] at hS
  refine c_loop (σ := Nat) (fun i ρ w' => i ≤ S.size ∧ ρ 0 = .string S ∧ ρ 3 = .slice (some ⟨b2, 0, none⟩) n n ∧ ρ 4 = .int .i64 i ∧ St w w' [(b2, 94, Kr .u32 (pad B32 (V % 256 ^ i) n))]) (fun i => S.size - i) 0
    ⟨Nat.zero_le _, rfl, by rw [hn]; rfl, rfl, hS⟩ ?_
  clear hS
  rintro i ρ w2 ⟨hi, h0, h3, h4, hS⟩
  repeat (with_reducible first | refine c_seq ?_ | refine c_block ?_ | refine c_skip ?_ | refine x_then ?_ | refine x_block ?_)
  refine c_reg ?_
  refine l_pure rfl (s_move  h4 ?_)
  refine l_pure rfl (s_move  h0 ?_)
  refine l_pure rfl (s_lens  rfl Tryz.underlying9 ?_)
  refine l_pure rfl (s_lss  rfl rfl ?_)
  refine l_nil ?_
  repeat (with_reducible first | refine c_seq ?_ | refine c_block ?_ | refine c_skip ?_ | refine x_then ?_ | refine x_block ?_)
  by_cases hlt : i < S.size
  · refine c_yes rfl (decide_eq_true (by omega)) ?_
    repeat (with_reducible first | refine c_seq ?_ | refine c_block ?_ | refine c_skip ?_ | refine x_then ?_ | refine x_block ?_)
    have hb := sbytes_rget S i hlt
    rw [hvS] at hb
    have hl := dgt_lt (b := B32) (by decide) (V % 256 ^ i) (i / 4)
    have hd := dgt_lt (b := 256) (by decide) V i
    have hg : (pad B32 (V % 256 ^ i) n).getD (i / 4) 0 = dgt B32 (V % 256 ^ i) (i / 4) := pad_getD _ _ (by omega)
    have hp : 2 ^ (8 * (i % 4)) ≤ 2 ^ 24 := Nat.pow_le_pow_right (by decide) (by omega)
    have hq : dgt 256 V i * 2 ^ (8 * (i % 4)) < 4294967296 := Nat.lt_of_le_of_lt (Nat.mul_le_mul (Nat.le_of_lt_succ hd) hp) (by decide)
    repeat (with_reducible first | refine c_seq ?_ | refine c_block ?_ | refine c_skip ?_ | refine x_then ?_ | refine x_block ?_)
    refine c_draw [(0, .pure), (1, .pure), (2, .pure), (3, .pure), (4, .pure), (5, .pure), (6, .pure), (7, .read), (8, .pure), (9, .pure), (10, .pure), (11, .pure), (12, .pure), (13, .pure), (14, .pure), (15, .pure), (16, .pure), (17, .pure), (18, .pure), (19, .pure), (20, .pure), (21, .pure), (22, .pure), (23, .free)] (by kernel_rfl) (by kernel_rfl) hS ?_
    intro wz4 hS hBz4
    refine w_pure rfl rfl (s_move  h3 ?_)
    refine w_pure rfl rfl (s_move  h4 ?_)
    refine w_pure rfl rfl (s_quo  rfl rfl (by omega) (r := ((i / 4 : Nat) : Int)) (by exact IntWalk.i64_quo _ _ (by omega)) ?_)
    refine w_pure rfl rfl (s_move  h3 ?_)
    refine w_pure rfl rfl (s_move  h4 ?_)
    refine w_pure rfl rfl (s_quo  rfl rfl (by omega) (r := ((i / 4 : Nat) : Int)) (by exact IntWalk.i64_quo _ _ (by omega)) ?_)
    refine w_pure rfl rfl (s_ixo (i := i / 4)  rfl rfl (by omega) (by first | omega | (simp; done) | (simp; omega)) si_91 ?_)
    refine w_read rfl rfl (s_ldk (k := 0) (i := i / 4)  rfl vi_94 hS rfl (by omega) (by first | omega | (simp; done) | (simp; omega)) ?_)
    refine w_pure rfl rfl (s_move  h0 ?_)
    refine w_pure rfl rfl (s_move  h0 ?_)
    refine w_pure rfl rfl (s_lens  rfl Tryz.underlying9 ?_)
    refine w_pure rfl rfl (s_sub  rfl rfl (IntWalk.i64_in _ (by omega)) ?_)
    refine w_pure rfl rfl (s_move  h4 ?_)
    refine w_pure rfl rfl (s_sub  rfl rfl (IntWalk.i64_in _ (by omega)) ?_)
    refine w_pure rfl rfl (s_ixs (i := S.size - 1 - i)  rfl rfl (by omega) (by omega) Tryz.underlying9 ?_)
    refine w_pure rfl rfl (s_conv  rfl Tryz.underlying94 ⟨_, Tryz.underlying5⟩ (r := ((dgt 256 V i : Nat) : Int)) (by rw [hb]; exact IntWalk.u32_in _ (by omega)) ?_)
    refine w_pure rfl rfl (s_move  h4 ?_)
    refine w_pure rfl rfl (s_rem  rfl rfl (by omega) (r := ((i % 4 : Nat) : Int)) (by rfl) ?_)
    refine w_pure rfl rfl (s_mul  rfl rfl (r := ((8 * (i % 4) : Nat) : Int)) (by exact wr_i64 _ (by omega)) ?_)
    refine w_pure rfl rfl (s_conv  rfl Tryz.underlying85 ⟨_, Tryz.underlying3⟩ (r := ((8 * (i % 4) : Nat) : Int)) (by exact IntWalk.u64_in _ (by omega)) ?_)
    refine w_pure rfl rfl (s_shl  rfl rfl (by omega) (shl_v _ _ _ (show _ ≤ 32 by omega) (wr_u32 _ ⟨rfl, by omega, by omega⟩)) ?_)
    refine w_pure rfl rfl (s_or  rfl rfl (or_nat rfl _ _ (by rw [hg]; exact hl) hq) ?_)
    refine w_pure rfl rfl (s_ixo (i := i / 4)  rfl rfl (by omega) (by first | omega | (simp; done) | (simp; omega)) si_91 ?_)
    refine w_free rfl rfl (s_stk (k := 0) (i := i / 4) (a := _)  rfl rfl rfl vi_94 hS rfl (by omega) (by first | omega | (simp; done) | (simp; omega)) ?_)
    intro wz5 hS
    refine w_end ?_
    repeat (with_reducible first | refine c_seq ?_ | refine c_block ?_ | refine c_skip ?_ | refine x_then ?_ | refine x_block ?_)
    rw [hg, pad_byte] at hS
    repeat (with_reducible first | refine c_seq ?_ | refine c_block ?_ | refine c_skip ?_ | refine x_then ?_ | refine x_block ?_)
    refine c_reg ?_
    refine l_pure rfl (s_move  h4 ?_)
    refine l_pure rfl (s_add  rfl rfl (IntWalk.i64_in _ (by omega)) ?_)
    refine l_pure rfl (s_asg  rfl ?_)
    refine l_nil ?_
    repeat (with_reducible first | refine c_seq ?_ | refine c_block ?_ | refine c_skip ?_ | refine x_then ?_ | refine x_block ?_)
    exact ⟨i + 1, _, rfl, ⟨hlt, h0, h3, vi rfl (by omega), hS⟩, by omega⟩
  · refine c_no rfl (decide_eq_false (by omega)) ?_
    repeat (with_reducible first | refine c_seq ?_ | refine c_block ?_ | refine c_skip ?_ | refine x_then ?_ | refine x_block ?_)
    refine c_exit ?_
    repeat (with_reducible first | refine x_then_exit ?_ | refine x_block_exit ?_ | refine x_block_pass rfl ?_)
    repeat (with_reducible first | refine c_seq ?_ | refine c_block ?_ | refine c_skip ?_ | refine x_then ?_ | refine x_block ?_)
    obtain rfl : i = S.size := by omega
    have hval : V < 256 ^ S.size := by rw [← hvS]; exact val_lt S
    rw [Nat.mod_eq_of_lt hval, show n = (limb V).length by omega, pad_limb] at hS
    have hsl := hS.slk (k := 0) rfl (n := n) (cap := n) (by omega) (Nat.le_refl _) (by omega)
    rw [List.take_of_length_le (by omega)] at hsl
    repeat (with_reducible first | refine c_seq ?_ | refine c_block ?_ | refine c_skip ?_ | refine x_then ?_ | refine x_block ?_)
    refine c_reg ?_
    refine l_pure rfl (s_move  h3 ?_)
    refine l_pure rfl (s_asg  rfl ?_)
    refine l_nil ?_
    repeat (with_reducible first | refine c_seq ?_ | refine c_block ?_ | refine c_skip ?_ | refine x_then ?_ | refine x_block ?_)
    refine c_ret ?_
    repeat (with_reducible first | refine x_then_ret ?_ | refine x_block_ret ?_)
    refine r_one rfl rfl ?_
    exact ⟨hsl, hS.below⟩
theorem rstrip_ok (v : Value) (L : List Nat) (w : World) (hv : Sl (uk .u32) 1 w v L) (hL : ∀ d ∈ L, d < B32) :
    Ret Tryz.prog 101 #[v] w fun r w' => Sl (uk .u32) 1 w' r (limb (ofDigs B32 L)) ∧ w' = w := by
  have hmax := hv.maxLen
  refine enter Tryz.func101 rfl Tryz.ntmps101 rfl ?_
  repeat (with_reducible first | refine c_seq ?_ | refine c_block ?_ | refine c_skip ?_ | refine x_then ?_ | refine x_block ?_)
  refine c_reg ?_
  refine l_pure rfl (s_asg  rfl ?_)
  refine l_nil ?_
  repeat (with_reducible first | refine c_seq ?_ | refine c_block ?_ | refine c_skip ?_ | refine x_then ?_ | refine x_block ?_)
  refine c_reg ?_
  refine l_pure rfl (s_move  rfl ?_)
  refine l_pure rfl (s_lenr  rfl hv ⟨_, Tryz.underlying91⟩ ?_)
  refine l_pure rfl (s_asg  rfl ?_)
  refine l_nil ?_
  repeat (with_reducible first | refine c_seq ?_ | refine c_block ?_ | refine c_skip ?_ | refine x_then ?_ | refine x_block ?_)
  refine c_loop (σ := Nat) (fun n ρ w' => n ≤ L.length ∧ (∀ i, n ≤ i → i < L.length → L.getD i 0 = 0) ∧ ρ 0 = v ∧ ρ 3 = .int .i64 n ∧ w' = w) (fun n => n) L.length
    ⟨Nat.le_refl _, fun i h1 h2 => by omega, rfl, rfl, rfl⟩ ?_
  rintro n ρ w' ⟨hn, hz, h0, h3, rfl⟩
  have hdone : (n = 0 ∨ L.getD (n - 1) 0 ≠ 0) → L.take n = limb (ofDigs B32 L) := fun h => digs_of_take (b := B32) (by decide) L n hL hn hz h
  by_cases hpos : 0 < n
  · by_cases hl : L.getD (n - 1) 0 = 0
    · repeat (with_reducible first | refine c_seq ?_ | refine c_block ?_ | refine c_skip ?_ | refine x_then ?_ | refine x_block ?_)
      refine c_reg ?_
      refine l_pure rfl (s_move  h3 ?_)
      refine l_pure rfl (s_gtr  rfl rfl ?_)
      refine l_pure rfl (s_move  rfl ?_)
      refine l_pure (gd_yes 8 (by kernel_rfl) rfl (decide_eq_true (by omega))) (s_move  h0 ?_)
      refine l_pure (gd_yes 8 (by kernel_rfl) rfl (decide_eq_true (by omega))) (s_move  h3 ?_)
      refine l_pure (gd_yes 8 (by kernel_rfl) rfl (decide_eq_true (by omega))) (s_sub  rfl rfl (IntWalk.i64_in _ (by omega)) ?_)
      refine l_pure (gd_yes 8 (by kernel_rfl) rfl (decide_eq_true (by omega))) (s_ixr (i := n - 1)  rfl rfl hv (by omega) (by first | omega | (simp; done) | (simp; omega)) si_91 ?_)
      refine l_read (gd_yes 8 (by kernel_rfl) rfl (decide_eq_true (by omega))) (s_lde (i := n - 1) 0  rfl vi_94 hv (by first | omega | (simp; done) | (simp; omega)) rfl rfl (.inr rfl) ?_)
      refine l_pure (gd_yes 8 (by kernel_rfl) rfl (decide_eq_true (by omega))) (s_eql  rfl rfl ?_)
      refine l_pure rfl (s_pick (vb rfl (decide_eq_true (by omega))) rfl ?_)
      refine l_nil ?_
      repeat (with_reducible first | refine c_seq ?_ | refine c_block ?_ | refine c_skip ?_ | refine x_then ?_ | refine x_block ?_)
      refine c_yes rfl (decide_eq_true (by omega)) ?_
      repeat (with_reducible first | refine c_seq ?_ | refine c_block ?_ | refine c_skip ?_ | refine x_then ?_ | refine x_block ?_)
      refine c_reg ?_
      refine l_pure rfl (s_move  h3 ?_)
      refine l_pure rfl (s_sub  rfl rfl (IntWalk.i64_in _ (by omega)) ?_)
      refine l_pure rfl (s_asg  rfl ?_)
      refine l_nil ?_
      repeat (with_reducible first | refine c_seq ?_ | refine c_block ?_ | refine c_skip ?_ | refine x_then ?_ | refine x_block ?_)
      refine ⟨n - 1, _, rfl, ⟨by omega, fun i h1 h2 => ?_, h0, vi rfl (by omega), rfl⟩, by omega⟩
      rcases Nat.lt_or_ge i n with h4 | h4
      · rw [show i = n - 1 by omega]; exact hl
      · exact hz i h4 h2
    · repeat (with_reducible first | refine c_seq ?_ | refine c_block ?_ | refine c_skip ?_ | refine x_then ?_ | refine x_block ?_)
      refine c_reg ?_
      refine l_pure rfl (s_move  h3 ?_)
      refine l_pure rfl (s_gtr  rfl rfl ?_)
      refine l_pure rfl (s_move  rfl ?_)
      refine l_pure (gd_yes 8 (by kernel_rfl) rfl (decide_eq_true (by omega))) (s_move  h0 ?_)
      refine l_pure (gd_yes 8 (by kernel_rfl) rfl (decide_eq_true (by omega))) (s_move  h3 ?_)
      refine l_pure (gd_yes 8 (by kernel_rfl) rfl (decide_eq_true (by omega))) (s_sub  rfl rfl (IntWalk.i64_in _ (by omega)) ?_)
      refine l_pure (gd_yes 8 (by kernel_rfl) rfl (decide_eq_true (by omega))) (s_ixr (i := n - 1)  rfl rfl hv (by omega) (by first | omega | (simp; done) | (simp; omega)) si_91 ?_)
      refine l_read (gd_yes 8 (by kernel_rfl) rfl (decide_eq_true (by omega))) (s_lde (i := n - 1) 0  rfl vi_94 hv (by first | omega | (simp; done) | (simp; omega)) rfl rfl (.inr rfl) ?_)
      refine l_pure (gd_yes 8 (by kernel_rfl) rfl (decide_eq_true (by omega))) (s_eql  rfl rfl ?_)
      refine l_pure rfl (s_pick (vb rfl (decide_eq_true (by omega))) rfl ?_)
      refine l_nil ?_
      repeat (with_reducible first | refine c_seq ?_ | refine c_block ?_ | refine c_skip ?_ | refine x_then ?_ | refine x_block ?_)
      refine c_no rfl (decide_eq_false (by omega)) ?_
      repeat (with_reducible first | refine c_seq ?_ | refine c_block ?_ | refine c_skip ?_ | refine x_then ?_ | refine x_block ?_)
      refine c_exit ?_
      repeat (with_reducible first | refine x_then_exit ?_ | refine x_block_exit ?_ | refine x_block_pass rfl ?_)
      repeat (with_reducible first | refine c_seq ?_ | refine c_block ?_ | refine c_skip ?_ | refine x_then ?_ | refine x_block ?_)
      refine c_reg ?_
      refine l_pure rfl (s_move  h0 ?_)
      refine l_pure rfl (s_move  h3 ?_)
      refine l_pure rfl (s_subrh (hi := n)  rfl rfl hv rfl hn si_91 ?_)
      refine l_pure rfl (s_asg  rfl ?_)
      refine l_nil ?_
      repeat (with_reducible first | refine c_seq ?_ | refine c_block ?_ | refine c_skip ?_ | refine x_then ?_ | refine x_block ?_)
      refine c_ret ?_
      repeat (with_reducible first | refine x_then_ret ?_ | refine x_block_ret ?_)
      refine r_one rfl rfl ?_
      refine ⟨?_, rfl⟩
      rw [← hdone (.inr hl)]
      exact hv.sub (uk_len _) (by decide) (Nat.zero_le n) hn
  · repeat (with_reducible first | refine c_seq ?_ | refine c_block ?_ | refine c_skip ?_ | refine x_then ?_ | refine x_block ?_)
    refine c_reg ?_
    refine l_pure rfl (s_move  h3 ?_)
    refine l_pure rfl (s_gtr  rfl rfl ?_)
    refine l_pure rfl (s_move  rfl ?_)
    refine l_no (gno_yes 8 (by kernel_rfl) rfl (decide_eq_false (by omega))) ?_
    refine l_no (gno_yes 8 (by kernel_rfl) rfl (decide_eq_false (by omega))) ?_
    refine l_no (gno_yes 8 (by kernel_rfl) rfl (decide_eq_false (by omega))) ?_
    refine l_no (gno_yes 8 (by kernel_rfl) rfl (decide_eq_false (by omega))) ?_
    refine l_no (gno_yes 8 (by kernel_rfl) rfl (decide_eq_false (by omega))) ?_
    refine l_no (gno_yes 8 (by kernel_rfl) rfl (decide_eq_false (by omega))) ?_
    refine l_pure rfl (s_pick (vb rfl (decide_eq_false (by omega))) rfl ?_)
    refine l_nil ?_
    repeat (with_reducible first | refine c_seq ?_ | refine c_block ?_ | refine c_skip ?_ | refine x_then ?_ | refine x_block ?_)
    refine c_no rfl (rfl) ?_
    repeat (with_reducible first | refine c_seq ?_ | refine c_block ?_ | refine c_skip ?_ | refine x_then ?_ | refine x_block ?_)
    refine c_exit ?_
    repeat (with_reducible first | refine x_then_exit ?_ | refine x_block_exit ?_ | refine x_block_pass rfl ?_)
    repeat (with_reducible first | refine c_seq ?_ | refine c_block ?_ | refine c_skip ?_ | refine x_then ?_ | refine x_block ?_)
    refine c_reg ?_
    refine l_pure rfl (s_move  h0 ?_)
    refine l_pure rfl (s_move  h3 ?_)
    refine l_pure rfl (s_subrh (hi := n)  rfl rfl hv rfl hn si_91 ?_)
    refine l_pure rfl (s_asg  rfl ?_)
    refine l_nil ?_
    repeat (with_reducible first | refine c_seq ?_ | refine c_block ?_ | refine c_skip ?_ | refine x_then ?_ | refine x_block ?_)
    refine c_ret ?_
    repeat (with_reducible first | refine x_then_ret ?_ | refine x_block_ret ?_)
    refine r_one rfl rfl ?_
    refine ⟨?_, rfl⟩
    rw [← hdone (.inl (by omega))]
    exact hv.sub (uk_len _) (by decide) (Nat.zero_le n) hn
theorem four_bytes (V k q x : Nat) (hk : 0 < k) (hx : x = dgt B32 V (k - 1)) :
    (pad 256 (V / B32 ^ (k - 1)) (q + 4)).reverse = (pad 256 (V / B32 ^ k) q).reverse ++ [x / 16777216 % 256, x / 65536 % 256, x / 256 % 256, x % 256] := by
  have h := div_step B32 V (k - 1)
  rw [show k - 1 + 1 = k by omega, ← hx] at h
  have hlt : x < B32 := by rw [hx]; exact dgt_lt (by decide) _ _
  rw [h]
  generalize V / B32 ^ k = U
  have hB : B32 = 4294967296 := rfl
  rw [show q + 4 = q + 1 + 1 + 1 + 1 from rfl, pad_succ, pad_succ, pad_succ, pad_succ]
  simp only [List.reverse_cons, List.append_assoc, List.cons_append, List.nil_append]
  rw [hB] at hlt ⊢
  have e1 : (4294967296 * U + x) / 256 / 256 / 256 / 256 = U := by omega
  have e2 : (4294967296 * U + x) / 256 / 256 / 256 % 256 = x / 16777216 % 256 := by omega
  have e3 : (4294967296 * U + x) / 256 / 256 % 256 = x / 65536 % 256 := by omega
  have e4 : (4294967296 * U + x) / 256 % 256 = x / 256 % 256 := by omega
  have e5 : (4294967296 * U + x) % 256 = x % 256 := by omega
  rw [e1, e2, e3, e4, e5]
theorem rtext_ok (v : Value) (L : List Nat) (w : World) (hv : Sl (uk .u32) 1 w v L) (hL : ∀ d ∈ L, d < B32) (hs : L.length ≤ 17592186044416) :
    Ret Tryz.prog 104 #[v] w fun r w' => r = .string (natS (ofDigs B32 L)) ∧ Below w.heap.size w w' := by
  have hS := St.init w
  obtain ⟨V, hV⟩ : ∃ V, V = ofDigs B32 L := ⟨_, rfl⟩
  refine enter Tryz.func104 rfl Tryz.ntmps104 rfl ?_
  repeat (with_reducible first | refine c_seq ?_ | refine c_block ?_ | refine c_skip ?_ | refine x_then ?_ | refine x_block ?_)
  refine c_reg ?_
  refine l_pure rfl (s_asg  rfl ?_)
  refine l_nil ?_
  repeat (with_reducible first | refine c_seq ?_ | refine c_block ?_ | refine c_skip ?_ | refine x_then ?_ | refine x_block ?_)
  refine c_reg ?_
  refine l_pure rfl (s_move  rfl ?_)
  refine l_heavy rfl (s_call Tryz.call101 rfl (rstrip_ok v L _ hv hL) ?_)
  rintro _ wq1 ⟨hl, hq1⟩
  replace hq1 := hq1.symm
  subst hq1
  refine l_pure rfl (s_asg  rfl ?_)
  refine l_nil ?_
  repeat (with_reducible first | refine c_seq ?_ | refine c_block ?_ | refine c_skip ?_ | refine x_then ?_ | refine x_block ?_)
  rename_i vl
  rw [← hV] at hl ⊢
  obtain ⟨m, hm⟩ : ∃ m, m = (limb V).length := ⟨_, rfl⟩
  have hVm : V < B32 ^ m := by rw [hm]; exact limb_lt_pow V
  have hmL : m ≤ L.length := by
    rw [hm]; refine limb_len_le ?_
    rw [hV]; exact ofDigs_lt L hL
  repeat (with_reducible first | refine c_seq ?_ | refine c_block ?_ | refine c_skip ?_ | refine x_then ?_ | refine x_block ?_)
  refine c_reg ?_
  refine l_pure rfl (s_move  rfl ?_)
  refine l_pure rfl (s_lenr  rfl hl ⟨_, Tryz.underlying91⟩ ?_)
  refine l_pure rfl (s_mul  rfl rfl (IntWalk.i64_in _ (by omega)) ?_)
  refine l_heavy rfl (s_make0l (enc := uk .u8) (n := 4 * m)  rfl rfl si_114 (by omega) (by omega) (by omega) (by omega) hS ?_)
  intro va2 La2 wa2 hG hS hBa2
  refine l_pure rfl (s_asg  rfl ?_)
  refine l_nil ?_
  repeat (with_reducible first | refine c_seq ?_ | refine c_block ?_ | refine c_skip ?_ | refine x_then ?_ | refine x_block ?_)
  refine c_reg ?_
  refine l_pure rfl (s_move  rfl ?_)
  refine l_pure rfl (s_lenr  rfl (hl.below hS.below) ⟨_, Tryz.underlying91⟩ ?_)
  refine l_pure rfl (s_sub  rfl rfl (IntWalk.i64_in _ (by omega)) ?_)
  refine l_pure rfl (s_asg  rfl ?_)
  refine l_nil ?_
  repeat (with_reducible first | refine c_seq ?_ | refine c_block ?_ | refine c_skip ?_ | refine x_then ?_ | refine x_block ?_)
  refine c_loop (σ := Nat) (fun k ρ w' => k ≤ m ∧ ρ 0 = vl ∧ ρ 4 = .int .i64 ((k : Int) - 1) ∧ ∃ vb Lb, ρ 3 = vb ∧ Gl (uk .u8) 5 1 vb ((pad 256 (V / B32 ^ k) (4 * (m - k))).reverse) Lb ∧ St w w' ([] ++ Lb)) (fun k => k) m
    ⟨Nat.le_refl _, rfl, vi rfl (by omega), ⟨_, _, rfl, by rw [Nat.sub_self]; exact hG, hS⟩⟩ ?_
  clear hS
  rintro k ρ w3 ⟨hk, h0, h4, vb, Lb, h3, hG, hS⟩
  repeat (with_reducible first | refine c_seq ?_ | refine c_block ?_ | refine c_skip ?_ | refine x_then ?_ | refine x_block ?_)
  refine c_reg ?_
  refine l_pure rfl (s_move  h4 ?_)
  refine l_pure rfl (s_geq  rfl rfl ?_)
  refine l_nil ?_
  repeat (with_reducible first | refine c_seq ?_ | refine c_block ?_ | refine c_skip ?_ | refine x_then ?_ | refine x_block ?_)
  have hlenG : ((pad 256 (V / B32 ^ k) (4 * (m - k))).reverse).length = 4 * (m - k) := by simp
  by_cases hk0 : 0 < k
  · refine c_yes rfl (decide_eq_true (by omega)) ?_
    repeat (with_reducible first | refine c_seq ?_ | refine c_block ?_ | refine c_skip ?_ | refine x_then ?_ | refine x_block ?_)
    refine c_reg ?_
    refine l_pure rfl (s_move  h0 ?_)
    refine l_pure rfl (s_move  h4 ?_)
    refine l_pure rfl (s_ixr (i := k - 1)  rfl rfl (hl.below hS.below) (by omega) (by first | omega | (simp; done) | (simp; omega)) si_91 ?_)
    refine l_read rfl (s_lde (i := k - 1) 0  rfl vi_94 (hl.below hS.below) (by first | omega | (simp; done) | (simp; omega)) rfl rfl (.inr rfl) ?_)
    refine l_pure rfl (s_asg  rfl ?_)
    refine l_nil ?_
    repeat (with_reducible first | refine c_seq ?_ | refine c_block ?_ | refine c_skip ?_ | refine x_then ?_ | refine x_block ?_)
    have hx := limb_getD V (k - 1)
    have hxl := limb_le V (k - 1)
    rw [hx]
    obtain ⟨x, hxe⟩ : ∃ x, x = dgt B32 V (k - 1) := ⟨_, rfl⟩
    rw [← hxe] at hxl ⊢
    have h4b := four_bytes V k (4 * (m - k)) x hk0 hxe
    repeat (with_reducible first | refine c_seq ?_ | refine c_block ?_ | refine c_skip ?_ | refine x_then ?_ | refine x_block ?_)
    refine c_reg ?_
    refine l_pure rfl (s_move  h3 ?_)
    refine l_pure rfl (s_move  rfl ?_)
    refine l_pure rfl (s_shr  rfl rfl (by omega) (r := ((x / 16777216 : Nat) : Int)) (by exact shr_v (k := .u32) x 24 (by decide)) ?_)
    refine l_pure rfl (s_conv  rfl Tryz.underlying5 ⟨_, Tryz.underlying94⟩ (u8_mod _) ?_)
    refine l_pure rfl (s_move  rfl ?_)
    refine l_pure rfl (s_shr  rfl rfl (by omega) (r := ((x / 65536 : Nat) : Int)) (by exact shr_v (k := .u32) x 16 (by decide)) ?_)
    refine l_pure rfl (s_conv  rfl Tryz.underlying5 ⟨_, Tryz.underlying94⟩ (u8_mod _) ?_)
    refine l_pure rfl (s_move  rfl ?_)
    refine l_pure rfl (s_shr  rfl rfl (by omega) (r := ((x / 256 : Nat) : Int)) (by exact shr_v (k := .u32) x 8 (by decide)) ?_)
    refine l_pure rfl (s_conv  rfl Tryz.underlying5 ⟨_, Tryz.underlying94⟩ (u8_mod _) ?_)
    refine l_pure rfl (s_move  rfl ?_)
    refine l_pure rfl (s_conv  rfl Tryz.underlying5 ⟨_, Tryz.underlying94⟩ (u8_mod _) ?_)
    refine l_heavy rfl (s_bsl (vs := [_, _, _, _])  rfl si_114 rfl (by decide) (by decide) (by decide) (by simp [Value.cells]) rfl hS ?_)
    intro b3 wz4 hS hBz4
    refine l_heavy rfl (s_appl [x / 16777216 % 256, x / 65536 % 256, x / 256 % 256, x % 256]  rfl rfl si_114 (by decide) hG hS rfl rfl (uk_len _) (uk_one _ [x / 16777216 % 256, x / 65536 % 256, x / 256 % 256, x % 256]) (by first | omega | (simp only [List.length_cons, List.length_nil]; omega)) (by first | omega | (simp only [List.length_cons, List.length_nil]; omega)) ?_)
    intro va5 La5 wa5 hG hS hga5
    refine l_pure rfl (s_asg  rfl ?_)
    refine l_nil ?_
    repeat (with_reducible first | refine c_seq ?_ | refine c_block ?_ | refine c_skip ?_ | refine x_then ?_ | refine x_block ?_)
    rw [← h4b, show 4 * (m - k) + 4 = 4 * (m - (k - 1)) by omega] at hG
    repeat (with_reducible first | refine c_seq ?_ | refine c_block ?_ | refine c_skip ?_ | refine x_then ?_ | refine x_block ?_)
    refine c_reg ?_
    refine l_pure rfl (s_move  h4 ?_)
    refine l_pure rfl (s_sub  rfl rfl (IntWalk.i64_in _ (by omega)) ?_)
    refine l_pure rfl (s_asg  rfl ?_)
    refine l_nil ?_
    repeat (with_reducible first | refine c_seq ?_ | refine c_block ?_ | refine c_skip ?_ | refine x_then ?_ | refine x_block ?_)
    exact ⟨k - 1, _, rfl, ⟨by omega, h0, vi rfl (by omega), ⟨_, _, rfl, hG, hS⟩⟩, by omega⟩
  · refine c_no rfl (decide_eq_false (by omega)) ?_
    repeat (with_reducible first | refine c_seq ?_ | refine c_block ?_ | refine c_skip ?_ | refine x_then ?_ | refine x_block ?_)
    refine c_exit ?_
    repeat (with_reducible first | refine x_then_exit ?_ | refine x_block_exit ?_ | refine x_block_pass rfl ?_)
    repeat (with_reducible first | refine c_seq ?_ | refine c_block ?_ | refine c_skip ?_ | refine x_then ?_ | refine x_block ?_)
    obtain rfl : k = 0 := by omega
    rw [Nat.pow_zero, Nat.div_one, Nat.sub_zero] at hG
    have hVlt : V < 256 ^ (4 * m) := by rw [Nat.pow_mul]; exact hVm
    have hsz : (bstr (pad 256 V (4 * m)).reverse).size ≤ 9223372036854775807 := by rw [bstr_size]; simp; omega
    repeat (with_reducible first | refine c_seq ?_ | refine c_block ?_ | refine c_skip ?_ | refine x_then ?_ | refine x_block ?_)
    refine c_reg ?_
    refine l_pure rfl (s_move  h3 ?_)
    refine l_read rfl (s_b2sg  rfl ⟨Tryz.underlying114, Tryz.underlying5, Tryz.underlying9⟩ hG hS ?_)
    refine l_heavy rfl (s_call Tryz.call99 rfl (rNormalize_ok _ _ hsz) ?_)
    rintro _ wq6 ⟨rfl, hq6⟩
    replace hq6 := hq6.symm
    subst hq6
    refine l_pure rfl (s_asg  rfl ?_)
    refine l_nil ?_
    repeat (with_reducible first | refine c_seq ?_ | refine c_block ?_ | refine c_skip ?_ | refine x_then ?_ | refine x_block ?_)
    refine c_ret ?_
    repeat (with_reducible first | refine x_then_ret ?_ | refine x_block_ret ?_)
    refine r_one rfl rfl ?_
    rw [val_rpad, Nat.mod_eq_of_lt hVlt]
    exact ⟨rfl, hS.below⟩
theorem rFromUint_ok (u : Nat) (w : World) (hu : u < 18446744073709551616) :
    Ret Tryz.prog 84 #[.int .u64 u] w fun r w' => r = .string (natS u) ∧ Below w.heap.size w w' := by
  have hS := St.init w
  refine enter Tryz.func84 rfl Tryz.ntmps84 rfl ?_
  repeat (with_reducible first | refine c_seq ?_ | refine c_block ?_ | refine c_skip ?_ | refine x_then ?_ | refine x_block ?_)
  refine c_reg ?_
  refine l_pure rfl (s_asg  rfl ?_)
  refine l_nil ?_
  repeat (with_reducible first | refine c_seq ?_ | refine c_block ?_ | refine c_skip ?_ | refine x_then ?_ | refine x_block ?_)
  refine c_reg ?_
  refine l_pure rfl (s_move  rfl ?_)
  refine l_pure rfl (s_conv  rfl Tryz.underlying94 ⟨_, Tryz.underlying95⟩ (u32_mod _) ?_)
  refine l_pure rfl (s_move  rfl ?_)
  refine l_pure rfl (s_shr  rfl rfl (by omega) (r := ((u / 4294967296 : Nat) : Int)) (by exact shr_v _ 32 (by decide)) ?_)
  refine l_pure rfl (s_conv  rfl Tryz.underlying94 ⟨_, Tryz.underlying95⟩ (r := ((u / 4294967296 : Nat) : Int)) (by exact wr_u32 _ (by omega)) ?_)
  refine l_heavy rfl (s_bsl (vs := [_, _])  rfl si_91 rfl (by decide) (by decide) (by decide) (by simp [Value.cells]) rfl hS ?_)
  intro b1 wz2 hS hBz2
  have hsl := St.slk (L := [u % 4294967296, u / 4294967296]) hS (k := 0) rfl (n := 2) (cap := 2) (by simp) (by omega) (by omega)
  have hd : ∀ d ∈ [u % 4294967296, u / 4294967296], d < B32 := by
    intro d hd
    simp only [List.mem_cons, List.not_mem_nil, or_false] at hd
    unfold B32; omega
  refine l_heavy rfl (s_call Tryz.call104 rfl (rtext_ok _ _ _ hsl hd (by simp)) ?_)
  rintro _ wc3 ⟨rfl, hBc3⟩
  replace hS := hS.grow hBc3
  refine l_pure rfl (s_asg  rfl ?_)
  refine l_nil ?_
  repeat (with_reducible first | refine c_seq ?_ | refine c_block ?_ | refine c_skip ?_ | refine x_then ?_ | refine x_block ?_)
  refine c_ret ?_
  repeat (with_reducible first | refine x_then_ret ?_ | refine x_block_ret ?_)
  refine r_one rfl rfl ?_
  exact ⟨vs rfl (congrArg natS (ofDigs_two u)), hS.below⟩
end Go.Proofs.YtmghobajmhdbfaaGreatDoor
namespace Go.Proofs.YtmghobajmhdbfaaGreatDoor
open Go Go.RowKit Go.Sx
theorem rorder_ok (u v : Value) (m n : Nat) (w : World) (hu : Sl (uk .u32) 1 w u (limb m)) (hv : Sl (uk .u32) 1 w v (limb n)) :
    Ret Tryz.prog 81 #[u, v] w fun r w' => r = .int .i64 (cmpI m n) ∧ Below w.heap.size w w' := by
  have hlu := hu.maxLen
  have hlv := hv.maxLen
  have hS := St.init w
  refine enter Tryz.func81 rfl Tryz.ntmps81 rfl ?_
  repeat (with_reducible first | refine c_seq ?_ | refine c_block ?_ | refine c_skip ?_ | refine x_then ?_ | refine x_block ?_)
  refine c_reg ?_
  refine l_pure rfl (s_asg  rfl ?_)
  refine l_nil ?_
  repeat (with_reducible first | refine c_seq ?_ | refine c_block ?_ | refine c_skip ?_ | refine x_then ?_ | refine x_block ?_)
  refine c_reg ?_
  refine l_pure rfl (s_move  rfl ?_)
  refine l_pure rfl (s_lenr  rfl (hu.below hS.below) ⟨_, Tryz.underlying91⟩ ?_)
  refine l_pure rfl (s_move  rfl ?_)
  refine l_pure rfl (s_lenr  rfl (hv.below hS.below) ⟨_, Tryz.underlying91⟩ ?_)
  refine l_pure rfl (s_neq  rfl rfl ?_)
  refine l_nil ?_
  repeat (with_reducible first | refine c_seq ?_ | refine c_block ?_ | refine c_skip ?_ | refine x_then ?_ | refine x_block ?_)
  by_cases hl : (limb m).length = (limb n).length
  · refine c_no rfl (decide_eq_false (by simp [hl])) ?_
    repeat (with_reducible first | refine c_seq ?_ | refine c_block ?_ | refine c_skip ?_ | refine x_then ?_ | refine x_block ?_)
    refine c_reg ?_
    refine l_pure rfl (s_move  rfl ?_)
    refine l_pure rfl (s_lenr  rfl (hu.below hS.below) ⟨_, Tryz.underlying91⟩ ?_)
    refine l_pure rfl (s_sub  rfl rfl (IntWalk.i64_in _ (by omega)) ?_)
    refine l_pure rfl (s_asg  rfl ?_)
    refine l_nil ?_
    repeat (with_reducible first | refine c_seq ?_ | refine c_block ?_ | refine c_skip ?_ | refine x_then ?_ | refine x_block ?_)
    refine c_loop (σ := Nat) (fun i ρ w' => i ≤ (limb m).length ∧ m / B32 ^ i = n / B32 ^ i ∧ ρ 0 = u ∧ ρ 1 = v ∧ ρ 5 = .int .i64 ((i : Int) - 1) ∧ St w w' []) (fun i => i) (limb m).length
      ⟨Nat.le_refl _, ?_, rfl, rfl, rfl, hS⟩ ?_
    · have h1 : m < B32 ^ (limb m).length := lt_pow_digs_length (by decide) m
      have h2 : n < B32 ^ (limb n).length := lt_pow_digs_length (by decide) n
      rw [Nat.div_eq_of_lt h1, hl, Nat.div_eq_of_lt h2]
    clear hS
    rintro i ρ w' ⟨hi, hq, h0, h1, h5, hS⟩
    repeat (with_reducible first | refine c_seq ?_ | refine c_block ?_ | refine c_skip ?_ | refine x_then ?_ | refine x_block ?_)
    refine c_reg ?_
    refine l_pure rfl (s_move  h5 ?_)
    refine l_pure rfl (s_geq  rfl rfl ?_)
    refine l_nil ?_
    repeat (with_reducible first | refine c_seq ?_ | refine c_block ?_ | refine c_skip ?_ | refine x_then ?_ | refine x_block ?_)
    by_cases hpos : 0 < i
    · refine c_yes rfl (decide_eq_true (by omega)) ?_
      repeat (with_reducible first | refine c_seq ?_ | refine c_block ?_ | refine c_skip ?_ | refine x_then ?_ | refine x_block ?_)
      have hlen : i - 1 < (limb m).length := by omega
      repeat (with_reducible first | refine c_seq ?_ | refine c_block ?_ | refine c_skip ?_ | refine x_then ?_ | refine x_block ?_)
      refine c_draw [(0, .pure), (1, .pure), (2, .pure), (3, .read), (4, .pure), (5, .pure), (6, .pure), (7, .read), (8, .pure)] (by kernel_rfl) (by kernel_rfl) hS ?_
      intro wz1 hS hBz1
      refine w_pure rfl rfl (s_move  h0 ?_)
      refine w_pure rfl rfl (s_move  h5 ?_)
      refine w_pure rfl rfl (s_ixr (i := i - 1)  rfl rfl (hu.below hS.below) (by omega) (by first | omega | (simp; done) | (simp; omega)) si_91 ?_)
      refine w_read rfl rfl (s_lde (i := i - 1) 0  rfl vi_94 (hu.below hS.below) (by first | omega | (simp; done) | (simp; omega)) rfl rfl (.inr rfl) ?_)
      refine w_pure rfl rfl (s_move  h1 ?_)
      refine w_pure rfl rfl (s_move  h5 ?_)
      refine w_pure rfl rfl (s_ixr (i := i - 1)  rfl rfl (hv.below hS.below) (by omega) (by first | omega | (simp; done) | (simp; omega)) si_91 ?_)
      refine w_read rfl rfl (s_lde (i := i - 1) 0  rfl vi_94 (hv.below hS.below) (by first | omega | (simp; done) | (simp; omega)) rfl rfl (.inr rfl) ?_)
      refine w_pure rfl rfl (s_neq  rfl rfl ?_)
      refine w_end ?_
      repeat (with_reducible first | refine c_seq ?_ | refine c_block ?_ | refine c_skip ?_ | refine x_then ?_ | refine x_block ?_)
      rw [limb_getD, limb_getD]
      have hs1 := div_step B32 m (i - 1)
      have hs2 := div_step B32 n (i - 1)
      rw [show i - 1 + 1 = i by omega] at hs1 hs2
      by_cases hne : dgt B32 m (i - 1) = dgt B32 n (i - 1)
      · refine c_no rfl (decide_eq_false (by omega)) ?_
        repeat (with_reducible first | refine c_seq ?_ | refine c_block ?_ | refine c_skip ?_ | refine x_then ?_ | refine x_block ?_)
        refine c_reg ?_
        refine l_pure rfl (s_move  h5 ?_)
        refine l_pure rfl (s_sub  rfl rfl (IntWalk.i64_in _ (by omega)) ?_)
        refine l_pure rfl (s_asg  rfl ?_)
        refine l_nil ?_
        repeat (with_reducible first | refine c_seq ?_ | refine c_block ?_ | refine c_skip ?_ | refine x_then ?_ | refine x_block ?_)
        exact ⟨i - 1, _, rfl, ⟨by omega, by rw [hs1, hs2, hq, hne], h0, h1, vi rfl (by omega), hS⟩, by omega⟩
      · refine c_yes rfl (decide_eq_true (by omega)) ?_
        repeat (with_reducible first | refine c_seq ?_ | refine c_block ?_ | refine c_skip ?_ | refine x_then ?_ | refine x_block ?_)
        refine c_draw [(0, .pure), (1, .pure), (2, .pure), (3, .read), (4, .pure), (5, .pure), (6, .pure), (7, .read), (8, .pure)] (by kernel_rfl) (by kernel_rfl) hS ?_
        intro wz2 hS hBz2
        refine w_pure rfl rfl (s_move  h0 ?_)
        refine w_pure rfl rfl (s_move  h5 ?_)
        refine w_pure rfl rfl (s_ixr (i := i - 1)  rfl rfl (hu.below hS.below) (by omega) (by first | omega | (simp; done) | (simp; omega)) si_91 ?_)
        refine w_read rfl rfl (s_lde (i := i - 1) 0  rfl vi_94 (hu.below hS.below) (by first | omega | (simp; done) | (simp; omega)) rfl rfl (.inr rfl) ?_)
        refine w_pure rfl rfl (s_move  h1 ?_)
        refine w_pure rfl rfl (s_move  h5 ?_)
        refine w_pure rfl rfl (s_ixr (i := i - 1)  rfl rfl (hv.below hS.below) (by omega) (by first | omega | (simp; done) | (simp; omega)) si_91 ?_)
        refine w_read rfl rfl (s_lde (i := i - 1) 0  rfl vi_94 (hv.below hS.below) (by first | omega | (simp; done) | (simp; omega)) rfl rfl (.inr rfl) ?_)
        refine w_pure rfl rfl (s_lss  rfl rfl ?_)
        refine w_end ?_
        repeat (with_reducible first | refine c_seq ?_ | refine c_block ?_ | refine c_skip ?_ | refine x_then ?_ | refine x_block ?_)
        rw [limb_getD, limb_getD]
        by_cases hlt : dgt B32 m (i - 1) < dgt B32 n (i - 1)
        · refine c_yes rfl (decide_eq_true (by omega)) ?_
          repeat (with_reducible first | refine c_seq ?_ | refine c_block ?_ | refine c_skip ?_ | refine x_then ?_ | refine x_block ?_)
          refine c_reg ?_
          refine l_pure rfl (s_asg  rfl ?_)
          refine l_nil ?_
          repeat (with_reducible first | refine c_seq ?_ | refine c_block ?_ | refine c_skip ?_ | refine x_then ?_ | refine x_block ?_)
          refine c_ret ?_
          repeat (with_reducible first | refine x_then_ret ?_ | refine x_block_ret ?_)
          refine r_one rfl rfl ?_
          refine ⟨vi rfl (cmpI_lt (lt_of_div_lt' (b := B32) (i := i - 1) ?_)).symm, hS.below⟩
          rw [hs1, hs2, hq]; omega
        · refine c_no rfl (decide_eq_false (by omega)) ?_
          repeat (with_reducible first | refine c_seq ?_ | refine c_block ?_ | refine c_skip ?_ | refine x_then ?_ | refine x_block ?_)
          refine c_reg ?_
          refine l_pure rfl (s_asg  rfl ?_)
          refine l_nil ?_
          repeat (with_reducible first | refine c_seq ?_ | refine c_block ?_ | refine c_skip ?_ | refine x_then ?_ | refine x_block ?_)
          refine c_ret ?_
          repeat (with_reducible first | refine x_then_ret ?_ | refine x_block_ret ?_)
          refine r_one rfl rfl ?_
          refine ⟨vi rfl (cmpI_gt (lt_of_div_lt' (b := B32) (i := i - 1) ?_)).symm, hS.below⟩
          rw [hs1, hs2, hq]; omega
    · refine c_no rfl (decide_eq_false (by omega)) ?_
      repeat (with_reducible first | refine c_seq ?_ | refine c_block ?_ | refine c_skip ?_ | refine x_then ?_ | refine x_block ?_)
      refine c_exit ?_
      repeat (with_reducible first | refine x_then_exit ?_ | refine x_block_exit ?_ | refine x_block_pass rfl ?_)
      repeat (with_reducible first | refine c_seq ?_ | refine c_block ?_ | refine c_skip ?_ | refine x_then ?_ | refine x_block ?_)
      refine c_reg ?_
      refine l_pure rfl (s_asg  rfl ?_)
      refine l_nil ?_
      repeat (with_reducible first | refine c_seq ?_ | refine c_block ?_ | refine c_skip ?_ | refine x_then ?_ | refine x_block ?_)
      refine c_ret ?_
      repeat (with_reducible first | refine x_then_ret ?_ | refine x_block_ret ?_)
      refine r_one rfl rfl ?_
      obtain rfl : i = 0 := by omega
      rw [Nat.pow_zero, Nat.div_one, Nat.div_one] at hq
      rw [hq]
      exact ⟨vi rfl (by rw [cmpI_self]), hS.below⟩
  · refine c_yes rfl (decide_eq_true (by omega)) ?_
    repeat (with_reducible first | refine c_seq ?_ | refine c_block ?_ | refine c_skip ?_ | refine x_then ?_ | refine x_block ?_)
    refine c_reg ?_
    refine l_pure rfl (s_move  rfl ?_)
    refine l_pure rfl (s_lenr  rfl (hu.below hS.below) ⟨_, Tryz.underlying91⟩ ?_)
    refine l_pure rfl (s_move  rfl ?_)
    refine l_pure rfl (s_lenr  rfl (hv.below hS.below) ⟨_, Tryz.underlying91⟩ ?_)
    refine l_pure rfl (s_lss  rfl rfl ?_)
    refine l_nil ?_
    repeat (with_reducible first | refine c_seq ?_ | refine c_block ?_ | refine c_skip ?_ | refine x_then ?_ | refine x_block ?_)
    by_cases hlt : (limb m).length < (limb n).length
    · refine c_yes rfl (decide_eq_true (by omega)) ?_
      repeat (with_reducible first | refine c_seq ?_ | refine c_block ?_ | refine c_skip ?_ | refine x_then ?_ | refine x_block ?_)
      refine c_reg ?_
      refine l_pure rfl (s_asg  rfl ?_)
      refine l_nil ?_
      repeat (with_reducible first | refine c_seq ?_ | refine c_block ?_ | refine c_skip ?_ | refine x_then ?_ | refine x_block ?_)
      refine c_ret ?_
      repeat (with_reducible first | refine x_then_ret ?_ | refine x_block_ret ?_)
      refine r_one rfl rfl ?_
      exact ⟨vi rfl (cmpI_lt (limb_len_lt hlt)).symm, hS.below⟩
    · refine c_no rfl (decide_eq_false (by omega)) ?_
      repeat (with_reducible first | refine c_seq ?_ | refine c_block ?_ | refine c_skip ?_ | refine x_then ?_ | refine x_block ?_)
      refine c_reg ?_
      refine l_pure rfl (s_asg  rfl ?_)
      refine l_nil ?_
      repeat (with_reducible first | refine c_seq ?_ | refine c_block ?_ | refine c_skip ?_ | refine x_then ?_ | refine x_block ?_)
      refine c_ret ?_
      repeat (with_reducible first | refine x_then_ret ?_ | refine x_block_ret ?_)
      refine r_one rfl rfl ?_
      exact ⟨vi rfl (cmpI_gt (limb_len_lt (by omega))).symm, hS.below⟩
end Go.Proofs.YtmghobajmhdbfaaGreatDoor
namespace Go.Proofs.YtmghobajmhdbfaaGreatDoor
open Go Go.RowKit Go.Sx
theorem rshort_ok (vx : Value) (X d : Nat) (w : World) (hx : Sl (uk .u32) 1 w vx (limb X)) (hd : 0 < d) (hd2 : d ≤ 4294967295) (hmx : (limb X).length ≤ 17592186044416) :
    Ret Tryz.prog 113 #[vx, .int .u32 d] w fun r w' => (∃ v, r = .tuple #[v, .int .u32 (X % d : Nat)] ∧ Sl (uk .u32) 1 w' v (limb (X / d))) ∧ Below w.heap.size w w' := by
  have hS := St.init w
  obtain ⟨n, hn⟩ : ∃ n, n = (limb X).length := ⟨_, rfl⟩
  have hXn : X < B32 ^ n := hn ▸ limb_lt_pow X
  refine enter Tryz.func113 rfl Tryz.ntmps113 rfl ?_
  repeat (with_reducible first | refine c_seq ?_ | refine c_block ?_ | refine c_skip ?_ | refine x_then ?_ | refine x_block ?_)
  refine c_reg ?_
  refine l_pure rfl (s_asg  rfl ?_)
  refine l_pure rfl (s_asg  rfl ?_)
  refine l_nil ?_
  repeat (with_reducible first | refine c_seq ?_ | refine c_block ?_ | refine c_skip ?_ | refine x_then ?_ | refine x_block ?_)
  refine c_reg ?_
  refine l_pure rfl (s_move  rfl ?_)
  refine l_pure rfl (s_lenr  rfl (hx.below hS.below) ⟨_, Tryz.underlying91⟩ ?_)
  refine l_heavy rfl (s_makek (n := (limb X).length)  rfl rfl si_91 (by omega) (by omega) (by omega) (by omega) hS ?_)
  intro b1 wz2 hS hBz2
  refine l_pure rfl (s_asg  rfl ?_)
  refine l_nil ?_
  repeat (with_reducible first | refine c_seq ?_ | refine c_block ?_ | refine c_skip ?_ | refine x_then ?_ | refine x_block ?_)
  refine c_reg ?_
  refine l_pure rfl (s_asg  rfl ?_)
  refine l_nil ?_
  repeat (with_reducible first | refine c_seq ?_ | refine c_block ?_ | refine c_skip ?_ | refine x_then ?_ | refine x_block ?_)
  refine c_reg ?_
  refine l_pure rfl (s_move  rfl ?_)
  refine l_pure rfl (s_lenr  rfl (hx.below hS.below) ⟨_, Tryz.underlying91⟩ ?_)
  refine l_pure rfl (s_sub  rfl rfl (IntWalk.i64_in _ (by omega)) ?_)
  refine l_pure rfl (s_asg  rfl ?_)
  refine l_nil ?_
  repeat (with_reducible first | refine c_seq ?_ | refine c_block ?_ | refine c_skip ?_ | refine x_then ?_ | refine x_block ?_)
  rw [← hn, ← pad_zero B32 n] at hS
  refine c_loop (σ := Nat × Nat × Nat) (fun s ρ w' => s.1 ≤ n ∧ s.2.2 < d ∧ X / B32 ^ s.1 = s.2.1 * d + s.2.2 ∧ B32 ^ s.1 * s.2.1 < B32 ^ n ∧ ρ 0 = vx ∧ ρ 1 = .int .u32 d ∧ ρ 6 = .slice (some ⟨b1, 0, none⟩) n n ∧ ρ 7 = .int .u64 s.2.2 ∧ ρ 8 = .int .i64 ((s.1 : Int) - 1) ∧ St w w' [(b1, 94, Kr .u32 (pad B32 (B32 ^ s.1 * s.2.1) n))]) (fun s => s.1) (n, 0, 0)
    ⟨Nat.le_refl _, hd, by simp only [Nat.zero_mul]; exact Nat.div_eq_of_lt hXn, by simp only [Nat.mul_zero]; omega, rfl, rfl, by rw [hn]; rfl, rfl, vi rfl (by rw [hn]), hS⟩ ?_
  clear hS
  rintro ⟨i, q, r⟩ ρ w3 ⟨hi, hr, hinv, hq, h0, h1, h6, h7, h8, hS⟩
  simp only at hi hr hinv hq h0 h1 h6 h7 h8 hS
  repeat (with_reducible first | refine c_seq ?_ | refine c_block ?_ | refine c_skip ?_ | refine x_then ?_ | refine x_block ?_)
  refine c_reg ?_
  refine l_pure rfl (s_move  h8 ?_)
  refine l_pure rfl (s_geq  rfl rfl ?_)
  refine l_nil ?_
  repeat (with_reducible first | refine c_seq ?_ | refine c_block ?_ | refine c_skip ?_ | refine x_then ?_ | refine x_block ?_)
  by_cases hlt : 0 < i
  · refine c_yes rfl (decide_eq_true (by omega)) ?_
    repeat (with_reducible first | refine c_seq ?_ | refine c_block ?_ | refine c_skip ?_ | refine x_then ?_ | refine x_block ?_)
    have hil : i - 1 < (limb X).length := by omega
    have x1 := limb_le X (i - 1)
    have hg : (limb X).getD (i - 1) 0 = dgt B32 X (i - 1) := limb_getD X (i - 1)
    have hor : r * 2 ^ 32 ||| dgt B32 X (i - 1) = dgt B32 X (i - 1) + r * 2 ^ 32 := by rw [Nat.or_comm]; exact or_add _ _ _ (by omega)
    repeat (with_reducible first | refine c_seq ?_ | refine c_block ?_ | refine c_skip ?_ | refine x_then ?_ | refine x_block ?_)
    refine c_reg ?_
    refine l_pure rfl (s_move  h7 ?_)
    refine l_pure rfl (s_shl  rfl rfl (by omega) (r := ((r * 2 ^ 32 : Nat) : Int)) (by exact shl_v r 32 _ (by decide) (wr_u64 _ ⟨rfl, by omega, by omega⟩)) ?_)
    refine l_pure rfl (s_move  h0 ?_)
    refine l_pure rfl (s_move  h8 ?_)
    refine l_pure rfl (s_ixr (i := i - 1)  rfl rfl (hx.below hS.below) (by omega) (by first | omega | (simp; done) | (simp; omega)) si_91 ?_)
    refine l_read rfl (s_lde (i := i - 1) 0  rfl vi_94 (hx.below hS.below) (by first | omega | (simp; done) | (simp; omega)) rfl rfl (.inr rfl) ?_)
    refine l_pure rfl (s_conv  rfl Tryz.underlying95 ⟨_, Tryz.underlying94⟩ (r := ((dgt B32 X (i - 1) : Nat) : Int)) (by rw [hg]; exact wr_u64 _ ⟨rfl, by omega, by omega⟩) ?_)
    refine l_pure rfl (s_or  rfl rfl (r := ((dgt B32 X (i - 1) + r * 2 ^ 32 : Nat) : Int)) (by rw [← hor]; exact or_nat rfl _ _ (by show _ < 18446744073709551616; omega) (by show _ < 18446744073709551616; omega)) ?_)
    refine l_pure rfl (s_asg  rfl ?_)
    refine l_nil ?_
    repeat (with_reducible first | refine c_seq ?_ | refine c_block ?_ | refine c_skip ?_ | refine x_then ?_ | refine x_block ?_)
    obtain ⟨t, ht⟩ : ∃ t, t = dgt B32 X (i - 1) + r * 2 ^ 32 := ⟨_, rfl⟩
    rw [← ht]
    have ht1 : t / d ≤ 4294967295 := by
      have : t < d * 4294967296 := by
        have : (r + 1) * 4294967296 ≤ d * 4294967296 := Nat.mul_le_mul_right _ hr
        omega
      have := Nat.div_lt_of_lt_mul this
      omega
    repeat (with_reducible first | refine c_seq ?_ | refine c_block ?_ | refine c_skip ?_ | refine x_then ?_ | refine x_block ?_)
    refine c_reg ?_
    refine l_pure rfl (s_move  h6 ?_)
    refine l_pure rfl (s_move  h8 ?_)
    refine l_pure rfl (s_move  rfl ?_)
    refine l_pure rfl (s_move  h1 ?_)
    refine l_pure rfl (s_conv  rfl Tryz.underlying95 ⟨_, Tryz.underlying94⟩ (r := ((d : Nat) : Int)) (by exact wr_u64 _ ⟨rfl, by omega, by omega⟩) ?_)
    refine l_pure rfl (s_quo  rfl rfl (by omega) (IntWalk.u64_quo _ _ (by omega)) ?_)
    refine l_pure rfl (s_conv  rfl Tryz.underlying94 ⟨_, Tryz.underlying95⟩ (r := ((t / d : Nat) : Int)) (by exact wr_u32 _ ⟨by push_cast; rfl, Int.natCast_nonneg _, by generalize t / d = z at ht1 ⊢; omega⟩) ?_)
    refine l_pure rfl (s_ixo (i := i - 1)  rfl rfl (by omega) (by first | omega | (simp; done) | (simp; omega)) si_91 ?_)
    refine l_heavy rfl (s_stk (k := 0) (i := i - 1) (a := _)  rfl rfl rfl vi_94 hS rfl (by omega) (by first | omega | (simp; done) | (simp; omega)) ?_)
    intro wz3 hS
    refine l_nil ?_
    repeat (with_reducible first | refine c_seq ?_ | refine c_block ?_ | refine c_skip ?_ | refine x_then ?_ | refine x_block ?_)
    refine c_reg ?_
    refine l_pure rfl (s_move  rfl ?_)
    refine l_pure rfl (s_move  h1 ?_)
    refine l_pure rfl (s_conv  rfl Tryz.underlying95 ⟨_, Tryz.underlying94⟩ (r := ((d : Nat) : Int)) (by exact wr_u64 _ ⟨rfl, by omega, by omega⟩) ?_)
    refine l_pure rfl (s_rem  rfl rfl (by omega) (r := ((t % d : Nat) : Int)) (by rw [Int.tmod_eq_emod_of_nonneg (by omega)]; push_cast; rfl) ?_)
    refine l_pure rfl (s_asg  rfl ?_)
    refine l_nil ?_
    repeat (with_reducible first | refine c_seq ?_ | refine c_block ?_ | refine c_skip ?_ | refine x_then ?_ | refine x_block ?_)
    obtain ⟨e1, e2⟩ := pad_set_low (b := B32) (q := q) (i := i) (e := t / d) (n := n) (by decide) (by unfold B32; omega) hlt hi hq
    rw [List.set_cons_zero, e1] at hS
    repeat (with_reducible first | refine c_seq ?_ | refine c_block ?_ | refine c_skip ?_ | refine x_then ?_ | refine x_block ?_)
    refine c_reg ?_
    refine l_pure rfl (s_move  h8 ?_)
    refine l_pure rfl (s_sub  rfl rfl (IntWalk.i64_in _ (by omega)) ?_)
    refine l_pure rfl (s_asg  rfl ?_)
    refine l_nil ?_
    repeat (with_reducible first | refine c_seq ?_ | refine c_block ?_ | refine c_skip ?_ | refine x_then ?_ | refine x_block ?_)
    have hs := div_step B32 X (i - 1)
    rw [show i - 1 + 1 = i by omega, hinv] at hs
    refine ⟨(i - 1, B32 * q + t / d, t % d), _, rfl, ⟨by simp only; omega, Nat.mod_lt _ hd, ?_, e2, h0, h1, h6, rfl, vi rfl (by simp only; omega), hS⟩, by simp only; omega⟩
    simp only
    have h9 := Nat.div_add_mod t d
    have h10 : B32 = 2 ^ 32 := rfl
    rw [hs, Nat.add_mul, Nat.mul_add, Nat.mul_assoc, Nat.add_assoc, Nat.add_assoc, Nat.mul_comm (t / d) d, h9, ht, h10]
    omega
  · refine c_no rfl (decide_eq_false (by omega)) ?_
    repeat (with_reducible first | refine c_seq ?_ | refine c_block ?_ | refine c_skip ?_ | refine x_then ?_ | refine x_block ?_)
    refine c_exit ?_
    repeat (with_reducible first | refine x_then_exit ?_ | refine x_block_exit ?_ | refine x_block_pass rfl ?_)
    repeat (with_reducible first | refine c_seq ?_ | refine c_block ?_ | refine c_skip ?_ | refine x_then ?_ | refine x_block ?_)
    obtain rfl : i = 0 := by omega
    rw [Nat.pow_zero, Nat.div_one] at hinv
    rw [Nat.pow_zero, Nat.one_mul] at hS hq
    have hqd : X / d = q := by rw [hinv, Nat.add_comm, Nat.add_mul_div_right _ _ hd, Nat.div_eq_of_lt hr, Nat.zero_add]
    have hrd : X % d = r := by rw [hinv, Nat.mul_add_mod_self_right, Nat.mod_eq_of_lt hr]
    have hsl := hS.slk (k := 0) rfl (n := n) (cap := n) (by simp) (Nat.le_refl _) (by omega)
    rw [List.take_of_length_le (by simp)] at hsl
    repeat (with_reducible first | refine c_seq ?_ | refine c_block ?_ | refine c_skip ?_ | refine x_then ?_ | refine x_block ?_)
    refine c_reg ?_
    refine l_pure rfl (s_move  h6 ?_)
    refine l_heavy rfl (s_call Tryz.call101 rfl (rstrip_ok _ _ _ hsl (pad_lt (by decide) _ _)) ?_)
    rintro _ wq4 ⟨hv, hq4⟩
    replace hq4 := hq4.symm
    subst hq4
    refine l_pure rfl (s_move  h7 ?_)
    refine l_pure rfl (s_conv  rfl Tryz.underlying94 ⟨_, Tryz.underlying95⟩ (r := ((r : Nat) : Int)) (by exact wr_u32 _ ⟨rfl, by omega, by omega⟩) ?_)
    refine l_pure rfl (s_asg  rfl ?_)
    refine l_pure rfl (s_asg  rfl ?_)
    refine l_nil ?_
    repeat (with_reducible first | refine c_seq ?_ | refine c_block ?_ | refine c_skip ?_ | refine x_then ?_ | refine x_block ?_)
    refine c_ret ?_
    repeat (with_reducible first | refine x_then_ret ?_ | refine x_block_ret ?_)
    refine r_two rfl rfl rfl ?_
    rw [ofDigs_pad_lt hq] at hv
    rw [hqd, hrd]
    exact ⟨⟨_, rfl, hv⟩, hS.below⟩
theorem rshifted_ok (vx : Value) (X c n : Nat) (w : World) (hx : Sl (uk .u32) 1 w vx (limb X)) (hc : c < 32) (hn : (limb X).length + 1 = n) (hmx : n ≤ 17592186044416) :
    Ret Tryz.prog 123 #[vx, .int .u64 c] w fun r w' =>
      (∃ b, r = .slice (some ⟨b, 0, none⟩) n n ∧ w.heap.size ≤ b ∧ w'.heap[b]? = some (.cells (Kr .u32 (pad B32 (X * 2 ^ c) n)).toArray 94 (0, 0))) ∧ Below w.heap.size w w' := by
  have hS := St.init w
  obtain ⟨m, hm⟩ : ∃ m, m = (limb X).length := ⟨_, rfl⟩
  have hXm : X < B32 ^ m := hm ▸ limb_lt_pow X
  have hp2 : 2 ^ c ≤ 2 ^ 31 := Nat.pow_le_pow_right (by decide) (by omega)
  have hpos : 0 < 2 ^ c := Nat.pow_pos (by decide)
  refine enter Tryz.func123 rfl Tryz.ntmps123 rfl ?_
  repeat (with_reducible first | refine c_seq ?_ | refine c_block ?_ | refine c_skip ?_ | refine x_then ?_ | refine x_block ?_)
  refine c_reg ?_
  refine l_pure rfl (s_asg  rfl ?_)
  refine l_nil ?_
  repeat (with_reducible first | refine c_seq ?_ | refine c_block ?_ | refine c_skip ?_ | refine x_then ?_ | refine x_block ?_)
  refine c_reg ?_
  refine l_pure rfl (s_move  rfl ?_)
  refine l_pure rfl (s_lenr  rfl (hx.below hS.below) ⟨_, Tryz.underlying91⟩ ?_)
  refine l_pure rfl (s_add  rfl rfl (IntWalk.i64_in _ (by omega)) ?_)
  refine l_heavy rfl (s_makek (n := n)  rfl rfl si_91 (by omega) (by omega) (by omega) (by omega) hS ?_)
  intro b1 wz2 hS hBz2
  refine l_pure rfl (s_asg  rfl ?_)
  refine l_nil ?_
  repeat (with_reducible first | refine c_seq ?_ | refine c_block ?_ | refine c_skip ?_ | refine x_then ?_ | refine x_block ?_)
  refine c_reg ?_
  refine l_pure rfl (s_asg  rfl ?_)
  refine l_nil ?_
  repeat (with_reducible first | refine c_seq ?_ | refine c_block ?_ | refine c_skip ?_ | refine x_then ?_ | refine x_block ?_)
  rw [← pad_zero B32 n] at hS
  refine c_loop (σ := Nat) (fun i ρ w' => i ≤ m ∧ ρ 0 = vx ∧ ρ 1 = .int .u64 c ∧ ρ 5 = .slice (some ⟨b1, 0, none⟩) n n ∧ ρ 6 = .int .i64 i ∧ St w w' [(b1, 94, Kr .u32 (pad B32 (X % B32 ^ i * 2 ^ c) n))]) (fun i => m - i) 0
    ⟨Nat.zero_le _, rfl, rfl, rfl, rfl, by rw [Nat.pow_zero, Nat.mod_one, Nat.zero_mul]; exact hS⟩ ?_
  clear hS
  rintro i ρ w3 ⟨hi, h0, h1, h5, h6, hS⟩
  repeat (with_reducible first | refine c_seq ?_ | refine c_block ?_ | refine c_skip ?_ | refine x_then ?_ | refine x_block ?_)
  refine c_reg ?_
  refine l_pure rfl (s_move  h6 ?_)
  refine l_pure rfl (s_move  h0 ?_)
  refine l_pure rfl (s_lenr  rfl (hx.below hS.below) ⟨_, Tryz.underlying91⟩ ?_)
  refine l_pure rfl (s_lss  rfl rfl ?_)
  refine l_nil ?_
  repeat (with_reducible first | refine c_seq ?_ | refine c_block ?_ | refine c_skip ?_ | refine x_then ?_ | refine x_block ?_)
  by_cases hlt : i < m
  · refine c_yes rfl (decide_eq_true (by omega)) ?_
    repeat (with_reducible first | refine c_seq ?_ | refine c_block ?_ | refine c_skip ?_ | refine x_then ?_ | refine x_block ?_)
    have hil : i < (limb X).length := by omega
    have x1 := limb_le X i
    obtain ⟨x, hxd⟩ : ∃ x, x = dgt B32 X i := ⟨_, rfl⟩
    rw [← hxd] at x1
    have hx2 : x * 2 ^ c ≤ 4294967295 * 2 ^ 31 := Nat.mul_le_mul x1 hp2
    obtain ⟨V, hV⟩ : ∃ V, V = X % B32 ^ i * 2 ^ c := ⟨_, rfl⟩
    have hVs : X % B32 ^ (i + 1) * 2 ^ c = V + B32 ^ i * (x * 2 ^ c) := by rw [mod_pow_succ, Nat.add_mul, ← hV, Nat.mul_assoc, hxd]
    have hVlt : V < B32 ^ i * 2 ^ c := by rw [hV]; exact Nat.mul_lt_mul_of_pos_right (mod_lt_pow (by decide) X i) hpos
    have hBi : 0 < B32 ^ i := Nat.pow_pos (by decide)
    have hVd : V / B32 ^ i < 2 ^ c := Nat.div_lt_of_lt_mul hVlt
    have hVb : V < B32 ^ (i + 1) := by
      have : B32 ^ i * 2 ^ c ≤ B32 ^ i * B32 := Nat.mul_le_mul_left _ (by unfold B32; omega)
      rw [Nat.pow_succ]; omega
    have hdg : dgt B32 V i = V / B32 ^ i := dgt_top (by decide) hVb
    have hfit := shift_fit (V / B32 ^ i) x c (by omega) hVd
    have hget : (pad B32 V n).getD i 0 = V / B32 ^ i := by rw [pad_getD _ _ (by omega), hdg]
    rw [← hV] at hS
    have hsplit := Nat.div_add_mod (x * 2 ^ c) 4294967296
    have hlow : V + B32 ^ i * ((x * 2 ^ c) % 4294967296) < B32 ^ (i + 1) := by
      have h8 := Nat.div_add_mod V (B32 ^ i)
      have h9 := Nat.mod_lt V hBi
      have h10 : B32 ^ i * (V / B32 ^ i + (x * 2 ^ c) % 4294967296 + 1) ≤ B32 ^ i * B32 := Nat.mul_le_mul_left _ hfit
      rw [Nat.mul_add, Nat.mul_add] at h10
      rw [Nat.pow_succ]; omega
    repeat (with_reducible first | refine c_seq ?_ | refine c_block ?_ | refine c_skip ?_ | refine x_then ?_ | refine x_block ?_)
    refine c_reg ?_
    refine l_pure rfl (s_move  h0 ?_)
    refine l_pure rfl (s_move  h6 ?_)
    refine l_pure rfl (s_ixr (i := i)  rfl rfl (hx.below hS.below) (by omega) (by first | omega | (simp; done) | (simp; omega)) si_91 ?_)
    refine l_read rfl (s_lde (i := i) 0  rfl vi_94 (hx.below hS.below) (by first | omega | (simp; done) | (simp; omega)) rfl rfl (.inr rfl) ?_)
    refine l_pure rfl (s_conv  rfl Tryz.underlying95 ⟨_, Tryz.underlying94⟩ (r := ((x : Nat) : Int)) (by rw [limb_getD, hxd]; exact wr_u64 _ ⟨rfl, by omega, by omega⟩) ?_)
    refine l_pure rfl (s_move  h1 ?_)
    refine l_pure rfl (s_shl  rfl rfl (by omega) (shl_v x c ((x * 2 ^ c : Nat) : Int) (by show c ≤ 64; omega) (wr_u64 _ ⟨rfl, by omega, by omega⟩)) ?_)
    refine l_pure rfl (s_asg  rfl ?_)
    refine l_nil ?_
    repeat (with_reducible first | refine c_seq ?_ | refine c_block ?_ | refine c_skip ?_ | refine x_then ?_ | refine x_block ?_)
    refine c_reg ?_
    refine l_pure rfl (s_move  h5 ?_)
    refine l_pure rfl (s_move  h6 ?_)
    refine l_pure rfl (s_move  h5 ?_)
    refine l_pure rfl (s_move  h6 ?_)
    refine l_pure rfl (s_ixo (i := i)  rfl rfl (by omega) (by first | omega | (simp; done) | (simp; omega)) si_91 ?_)
    refine l_read rfl (s_ldk (k := 0) (i := i)  rfl vi_94 hS rfl (by omega) (by first | omega | (simp; done) | (simp; omega)) ?_)
    refine l_pure rfl (s_move  rfl ?_)
    refine l_pure rfl (s_conv  rfl Tryz.underlying94 ⟨_, Tryz.underlying95⟩ (u32_mod _) ?_)
    refine l_pure rfl (s_or  rfl rfl (r := ((V / B32 ^ i + (x * 2 ^ c) % 4294967296 : Nat) : Int)) (by rw [hget, ← or_shift _ _ _ (by omega) hVd]; exact or_nat rfl _ _ (by show _ < 4294967296; omega) (by show _ < 4294967296; omega)) ?_)
    refine l_pure rfl (s_ixo (i := i)  rfl rfl (by omega) (by first | omega | (simp; done) | (simp; omega)) si_91 ?_)
    refine l_heavy rfl (s_stk (k := 0) (i := i) (a := _)  rfl rfl rfl vi_94 hS rfl (by omega) (by first | omega | (simp; done) | (simp; omega)) ?_)
    intro wz3 hS
    refine l_nil ?_
    repeat (with_reducible first | refine c_seq ?_ | refine c_block ?_ | refine c_skip ?_ | refine x_then ?_ | refine x_block ?_)
    have hset := pad_add (b := B32) (v := V) (n := n) (k := i) (x := (x * 2 ^ c) % 4294967296) (by decide) hVb hlow
    rw [hdg] at hset
    rw [List.set_cons_zero, hset] at hS
    have hnext : V + B32 ^ i * ((x * 2 ^ c) % 4294967296) + B32 ^ (i + 1) * (x * 2 ^ c / 4294967296) = X % B32 ^ (i + 1) * 2 ^ c := by
      have : B32 ^ (i + 1) * (x * 2 ^ c / 4294967296) = B32 ^ i * (4294967296 * (x * 2 ^ c / 4294967296)) := by rw [Nat.pow_succ, Nat.mul_assoc]
      rw [hVs, this, Nat.add_assoc, ← Nat.mul_add]
      congr 2; omega
    have hhi : x * 2 ^ c / 4294967296 < 2147483648 := by omega
    repeat (with_reducible first | refine c_seq ?_ | refine c_block ?_ | refine c_skip ?_ | refine x_then ?_ | refine x_block ?_)
    refine c_reg ?_
    refine l_pure rfl (s_move  h5 ?_)
    refine l_pure rfl (s_move  h6 ?_)
    refine l_pure rfl (s_add  rfl rfl (IntWalk.i64_in _ (by omega)) ?_)
    refine l_pure rfl (s_move  rfl ?_)
    refine l_pure rfl (s_shr  rfl rfl (by omega) (r := ((x * 2 ^ c / 4294967296 : Nat) : Int)) (by exact shr_v _ 32 (by decide)) ?_)
    refine l_pure rfl (s_conv  rfl Tryz.underlying94 ⟨_, Tryz.underlying95⟩ (r := ((x * 2 ^ c / 4294967296 : Nat) : Int)) (by exact wr_u32 _ ⟨rfl, by omega, by omega⟩) ?_)
    refine l_pure rfl (s_ixo (i := i + 1)  rfl rfl (by omega) (by first | omega | (simp; done) | (simp; omega)) si_91 ?_)
    refine l_heavy rfl (s_stk (k := 0) (i := i + 1) (a := _)  rfl rfl rfl vi_94 hS rfl (by omega) (by first | omega | (simp; done) | (simp; omega)) ?_)
    intro wz4 hS
    refine l_nil ?_
    repeat (with_reducible first | refine c_seq ?_ | refine c_block ?_ | refine c_skip ?_ | refine x_then ?_ | refine x_block ?_)
    obtain ⟨e1, e2⟩ := pad_put (b := B32) (r := V + B32 ^ i * ((x * 2 ^ c) % 4294967296)) (i := i + 1) (d := x * 2 ^ c / 4294967296) (n := n) (by decide) hlow (show _ < 4294967296 by omega)
    rw [List.set_cons_zero, e1, hnext] at hS
    repeat (with_reducible first | refine c_seq ?_ | refine c_block ?_ | refine c_skip ?_ | refine x_then ?_ | refine x_block ?_)
    refine c_reg ?_
    refine l_pure rfl (s_move  h6 ?_)
    refine l_pure rfl (s_add  rfl rfl (IntWalk.i64_in _ (by omega)) ?_)
    refine l_pure rfl (s_asg  rfl ?_)
    refine l_nil ?_
    repeat (with_reducible first | refine c_seq ?_ | refine c_block ?_ | refine c_skip ?_ | refine x_then ?_ | refine x_block ?_)
    exact ⟨i + 1, _, rfl, ⟨hlt, h0, h1, h5, vi rfl (by omega), hS⟩, by omega⟩
  · refine c_no rfl (decide_eq_false (by omega)) ?_
    repeat (with_reducible first | refine c_seq ?_ | refine c_block ?_ | refine c_skip ?_ | refine x_then ?_ | refine x_block ?_)
    refine c_exit ?_
    repeat (with_reducible first | refine x_then_exit ?_ | refine x_block_exit ?_ | refine x_block_pass rfl ?_)
    repeat (with_reducible first | refine c_seq ?_ | refine c_block ?_ | refine c_skip ?_ | refine x_then ?_ | refine x_block ?_)
    obtain rfl : i = m := by omega
    rw [Nat.mod_eq_of_lt hXm] at hS
    repeat (with_reducible first | refine c_seq ?_ | refine c_block ?_ | refine c_skip ?_ | refine x_then ?_ | refine x_block ?_)
    refine c_reg ?_
    refine l_pure rfl (s_move  h5 ?_)
    refine l_pure rfl (s_asg  rfl ?_)
    refine l_nil ?_
    repeat (with_reducible first | refine c_seq ?_ | refine c_block ?_ | refine c_skip ?_ | refine x_then ?_ | refine x_block ?_)
    refine c_ret ?_
    repeat (with_reducible first | refine x_then_ret ?_ | refine x_block_ret ?_)
    refine r_one rfl rfl ?_
    exact ⟨⟨b1, rfl, hS.ge (k := 0) rfl, hS.get (k := 0) rfl⟩, hS.below⟩
end Go.Proofs.YtmghobajmhdbfaaGreatDoor
