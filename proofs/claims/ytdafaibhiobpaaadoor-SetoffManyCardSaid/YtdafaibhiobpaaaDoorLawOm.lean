/-
  The law of the numbers of parties and obligations that are accepted: its walk.
-/
import Derived.Test.YtdafaibhiobpaaaDoorLawOf
namespace Go.Proofs.YtdafaibhiobpaaaDoor
open Go Go.RowKit Go.Sx

def obZ : Ob := ⟨0, 1, zRR, 0, 0, false⟩
theorem built_ObZ : Tryd.prog.built 28 [(0, .int .i64 0), (1, .int .i64 1)] = some #[.int .i64 0, .int .i64 1, .bool false, .string ⟨#[]⟩, .string ⟨#[]⟩, .int .i64 0, .int .i64 0, .bool false] := by kernel_rfl
theorem obsE_many (p k : Nat) (hp : 2 ≤ p) : obsE p (List.replicate k obZ) = if 32 < p then 1 else if 64 < k then 2 else 0 := by
  by_cases h1 : 32 < p
  · rw [if_pos h1]
    unfold obsE
    rw [if_pos (by omega)]
  · rw [if_neg h1]
    by_cases h2 : 64 < k
    · rw [if_pos h2]
      unfold obsE
      rw [if_neg (by omega), if_pos (by rw [List.length_replicate]; exact h2)]
    · rw [if_neg h2]
      refine obs_of (by omega) (by rw [List.length_replicate]; omega) fun o ho => ?_
      rw [(List.mem_replicate.1 ho).2]
      exact ⟨decide_eq_true (by show (0 : Int) ≤ 0 ∧ (0 : Int) < p ∧ (0 : Int) ≤ 1 ∧ (1 : Int) < p ∧ (0 : Int) ≠ 1; omega), by show 0 ≤ toQ zRR; rw [toQ_zRR]; exact Rat.le_refl, by decide, by decide, by decide⟩
theorem ObB_many (k : Nat) : ObB MX (List.replicate k obZ) := by
  intro o ho
  rw [(List.mem_replicate.1 ho).2]
  show Lr zRR ≤ MX
  rw [Lr_zRR]; decide
set_option maxHeartbeats 1000000 in
theorem SetoffMany_ok (n q : Nat) (w : World) :
    Ret Tryd.prog 4 #[.int .u8 n, .int .u8 q] w fun v w' => v = .bool true ∧ Below w.heap.size w w' := by
  have hS := St.init w
  have hn80 : n % 80 < 80 := Nat.mod_lt _ (by decide)
  have hq40 : q % 40 < 40 := Nat.mod_lt _ (by decide)
  have hrs : ∀ i : Nat, List.replicate i obZ ++ [obZ] = List.replicate (i + 1) obZ := fun i => List.replicate_succ'.symm
  refine enter Tryd.func4 rfl Tryd.ntmps4 rfl ?_
  repeat (with_reducible first | refine c_seq ?_ | refine c_block ?_ | refine c_skip ?_ | refine x_then ?_ | refine x_block ?_)
  refine c_reg ?_
  refine l_pure rfl (s_asg  rfl ?_)
  refine l_nil ?_
  repeat (with_reducible first | refine c_seq ?_ | refine c_block ?_ | refine c_skip ?_ | refine x_then ?_ | refine x_block ?_)
  refine c_reg ?_
  refine l_pure rfl (s_asg  rfl ?_)
  refine l_nil ?_
  repeat (with_reducible first | refine c_seq ?_ | refine c_block ?_ | refine c_skip ?_ | refine x_then ?_ | refine x_block ?_)
  refine c_reg ?_
  refine l_pure rfl (s_asg  rfl ?_)
  refine l_nil ?_
  repeat (with_reducible first | refine c_seq ?_ | refine c_skip ?_ | refine x_then ?_ | refine x_block ?_)
  refine c_cut1 (fun ρ w' => ρ 1 = .int .u8 q ∧ ∃ sO LO, ρ 5 = sO ∧ Gl encOb 28 8 sO (List.replicate (n % 80) obZ) LO ∧ St w w' ([] ++ LO)) ?_ ?_
  · repeat (with_reducible first | refine c_seq ?_ | refine c_block ?_ | refine c_skip ?_ | refine x_then ?_ | refine x_block ?_)
    refine c_loop (σ := Nat) (fun i ρ w' => i ≤ n % 80 ∧ ρ 0 = .int .u8 n ∧ ρ 1 = .int .u8 q ∧ ρ 6 = .int .i64 i ∧ ∃ sO LO, ρ 5 = sO ∧ Gl encOb 28 8 sO (List.replicate i obZ) LO ∧ St w w' ([] ++ LO)) (fun i => n % 80 - i) 0
      ⟨Nat.zero_le _, rfl, rfl, rfl, ⟨_, [], rfl, Gl.nil _ _ _, hS⟩⟩ ?_
    clear hS
    rintro i ρ w2 ⟨hi, h0, h1, h6, sO, LO, h5, hG, hS⟩
    have hl := List.length_replicate (n := i) (a := obZ)
    repeat (with_reducible first | refine c_seq ?_ | refine c_block ?_ | refine c_skip ?_ | refine x_then ?_ | refine x_block ?_)
    refine c_reg ?_
    refine l_pure rfl (s_move  h6 ?_)
    refine l_pure rfl (s_move  h0 ?_)
    refine l_pure rfl (s_rem  rfl rfl (by omega) (r := ((n % 80 : Nat) : Int)) (by exact rem_nat n 80) ?_)
    refine l_pure rfl (s_conv  rfl Tryd.underlying3 ⟨_, Tryd.underlying5⟩ (r := ((n % 80 : Nat) : Int)) (by exact wr_i64 _ ⟨rfl, by omega, by omega⟩) ?_)
    refine l_pure rfl (s_lss  rfl rfl ?_)
    refine l_nil ?_
    repeat (with_reducible first | refine c_seq ?_ | refine c_block ?_ | refine c_skip ?_ | refine x_then ?_ | refine x_block ?_)
    by_cases hlt : i < n % 80
    · refine c_yes rfl (decide_eq_true (by omega)) ?_
      repeat (with_reducible first | refine c_seq ?_ | refine c_block ?_ | refine c_skip ?_ | refine x_then ?_ | refine x_block ?_)
      refine c_reg ?_
      refine l_pure rfl (s_move  h5 ?_)
      refine l_pure rfl (s_build  rfl (built_ObZ) ?_)
      refine l_heavy rfl (s_bsl (vs := [aggOb obZ])  rfl si_22 rfl (by decide) (by decide) (by decide) (by simp [Value.cells, aggOb]) rfl hS ?_)
      intro bx wz1 hS hBz1
      refine l_heavy rfl (s_appl [obZ]  rfl rfl si_22 (by decide) hG hS rfl rfl encOb_len (encOb_one [obZ]) (by first | omega | (simp only [List.length_cons, List.length_nil]; omega)) (by first | omega | (simp only [List.length_cons, List.length_nil]; omega)) ?_)
      intro va2 La2 wa2 hG hS hga2
      refine l_pure rfl (s_asg  rfl ?_)
      refine l_nil ?_
      repeat (with_reducible first | refine c_seq ?_ | refine c_block ?_ | refine c_skip ?_ | refine x_then ?_ | refine x_block ?_)
      rw [hrs] at hG
      repeat (with_reducible first | refine c_seq ?_ | refine c_block ?_ | refine c_skip ?_ | refine x_then ?_ | refine x_block ?_)
      refine c_reg ?_
      refine l_pure rfl (s_move  h6 ?_)
      refine l_pure rfl (s_add  rfl rfl (IntWalk.i64_in _ (by omega)) ?_)
      refine l_pure rfl (s_asg  rfl ?_)
      refine l_nil ?_
      repeat (with_reducible first | refine c_seq ?_ | refine c_block ?_ | refine c_skip ?_ | refine x_then ?_ | refine x_block ?_)
      exact ⟨i + 1, _, rfl, ⟨hlt, by assumption, by assumption, vi rfl (by omega), ⟨_, _, rfl, hG, hS⟩⟩, by omega⟩
    · refine c_no rfl (decide_eq_false (by omega)) ?_
      repeat (with_reducible first | refine c_seq ?_ | refine c_block ?_ | refine c_skip ?_ | refine x_then ?_ | refine x_block ?_)
      refine c_exit ?_
      repeat (with_reducible first | refine x_then_exit ?_ | refine x_block_exit ?_ | refine x_block_pass rfl ?_)
      repeat (with_reducible first | refine c_seq ?_ | refine c_block ?_ | refine c_skip ?_ | refine x_then ?_ | refine x_block ?_)
      obtain rfl : i = n % 80 := by omega
      exact ⟨_, rfl, by assumption, ⟨_, _, by assumption, hG, hS⟩⟩
  clear hS
  rintro ρ w2 ⟨h1, sO, LO, h5, hG, hS⟩
  have hl := List.length_replicate (n := n % 80) (a := obZ)
  repeat (with_reducible first | refine c_seq ?_ | refine c_block ?_ | refine c_skip ?_ | refine x_then ?_ | refine x_block ?_)
  refine c_reg ?_
  refine l_pure rfl (s_move  h1 ?_)
  refine l_pure rfl (s_rem  rfl rfl (by omega) (r := ((q % 40 : Nat) : Int)) (by exact rem_nat q 40) ?_)
  refine l_pure rfl (s_conv  rfl Tryd.underlying3 ⟨_, Tryd.underlying5⟩ (r := ((q % 40 : Nat) : Int)) (by exact wr_i64 _ ⟨rfl, by omega, by omega⟩) ?_)
  refine l_pure rfl (s_add  rfl rfl (r := ((2 + q % 40 : Nat) : Int)) (by exact wr_i64 _ ⟨by omega, by omega, by omega⟩) ?_)
  refine l_pure rfl (s_asg  rfl ?_)
  refine l_nil ?_
  repeat (with_reducible first | refine c_seq ?_ | refine c_block ?_ | refine c_skip ?_ | refine x_then ?_ | refine x_block ?_)
  obtain ⟨p, hp⟩ : ∃ p, p = 2 + q % 40 := ⟨_, rfl⟩
  rw [← hp]
  repeat (with_reducible first | refine c_seq ?_ | refine c_block ?_ | refine c_skip ?_ | refine x_then ?_ | refine x_block ?_)
  refine c_reg ?_
  refine l_pure rfl (s_asg  rfl ?_)
  refine l_nil ?_
  repeat (with_reducible first | refine c_seq ?_ | refine c_skip ?_ | refine x_then ?_ | refine x_block ?_)
  have hE := obsE_many p (n % 80) (by omega)
  refine c_cut1 (fun ρ w' => ρ 5 = sO ∧ ρ 7 = .int .i64 p ∧ ρ 8 = .int .i64 (obsE p (List.replicate (n % 80) obZ)) ∧ St w w' ([] ++ LO)) ?_ ?_
  · repeat (with_reducible first | refine c_seq ?_ | refine c_block ?_ | refine c_skip ?_ | refine x_then ?_ | refine x_block ?_)
    repeat (with_reducible first | refine c_seq ?_ | refine c_block ?_ | refine c_skip ?_ | refine x_then ?_ | refine x_block ?_)
    refine c_reg ?_
    refine l_pure rfl (s_move  rfl ?_)
    refine l_pure rfl (s_gtr  rfl rfl ?_)
    refine l_pure rfl (s_asg  rfl ?_)
    refine l_nil ?_
    repeat (with_reducible first | refine c_seq ?_ | refine c_block ?_ | refine c_skip ?_ | refine x_then ?_ | refine x_block ?_)
    by_cases h32 : 32 < p
    · rw [if_pos h32] at hE
      refine c_yes rfl (decide_eq_true (by omega)) ?_
      repeat (with_reducible first | refine c_seq ?_ | refine c_block ?_ | refine c_skip ?_ | refine x_then ?_ | refine x_block ?_)
      refine c_reg ?_
      refine l_pure rfl (s_asg  rfl ?_)
      refine l_nil ?_
      repeat (with_reducible first | refine c_seq ?_ | refine c_block ?_ | refine c_skip ?_ | refine x_then ?_ | refine x_block ?_)
      exact ⟨_, rfl, by assumption, by rfl, by rw [hE]; rfl, hS⟩
    · rw [if_neg h32] at hE
      refine c_no rfl (decide_eq_false (by omega)) ?_
      repeat (with_reducible first | refine c_seq ?_ | refine c_block ?_ | refine c_skip ?_ | refine x_then ?_ | refine x_block ?_)
      refine c_reg ?_
      refine l_pure rfl (s_move  h5 ?_)
      refine l_pure rfl (s_lenr  rfl (hG.sl hS encOb_len) ⟨_, Tryd.underlying22⟩ ?_)
      refine l_pure rfl (s_gtr  rfl rfl ?_)
      refine l_pure rfl (s_asg  rfl ?_)
      refine l_nil ?_
      repeat (with_reducible first | refine c_seq ?_ | refine c_block ?_ | refine c_skip ?_ | refine x_then ?_ | refine x_block ?_)
      by_cases h64 : 64 < n % 80
      · rw [if_pos h64] at hE
        refine c_yes rfl (decide_eq_true (by omega)) ?_
        repeat (with_reducible first | refine c_seq ?_ | refine c_block ?_ | refine c_skip ?_ | refine x_then ?_ | refine x_block ?_)
        refine c_reg ?_
        refine l_pure rfl (s_asg  rfl ?_)
        refine l_nil ?_
        repeat (with_reducible first | refine c_seq ?_ | refine c_block ?_ | refine c_skip ?_ | refine x_then ?_ | refine x_block ?_)
        exact ⟨_, rfl, by assumption, by rfl, by rw [hE]; rfl, hS⟩
      · rw [if_neg h64] at hE
        refine c_no rfl (decide_eq_false (by omega)) ?_
        repeat (with_reducible first | refine c_seq ?_ | refine c_block ?_ | refine c_skip ?_ | refine x_then ?_ | refine x_block ?_)
        exact ⟨_, rfl, by assumption, by rfl, by rw [hE]; rfl, hS⟩
  clear hS h1 h5
  rintro ρ w3 ⟨h5, h7, h8, hS⟩
  repeat (with_reducible first | refine c_seq ?_ | refine c_block ?_ | refine c_skip ?_ | refine x_then ?_ | refine x_block ?_)
  refine c_reg ?_
  refine l_heavy rfl (s_call Tryd.call12 rfl (Oawake_ok _) ?_)
  rintro r w4 ⟨rfl, hB4⟩
  replace hS := hS.grow hB4
  refine l_pure rfl (s_move  rfl ?_)
  refine l_pure (gd_yes 32 (by kernel_rfl) rfl rfl) (s_move  h7 ?_)
  refine l_pure (gd_yes 32 (by kernel_rfl) rfl rfl) (s_move  h5 ?_)
  refine l_heavy (gd_yes 32 (by kernel_rfl) rfl rfl) (s_call Tryd.call15 rfl (OCheck_ok p _ _ _ (hG.sl hS encOb_len) (ObB_many _)) ?_)
  rintro r w5 ⟨rfl, hB5⟩
  replace hS := hS.grow hB5
  refine l_pure (gd_yes 32 (by kernel_rfl) rfl rfl) (s_move  h8 ?_)
  refine l_pure (gd_yes 32 (by kernel_rfl) rfl rfl) (s_eql  rfl rfl ?_)
  refine l_pure rfl (s_pick (vb rfl rfl) rfl ?_)
  refine l_pure rfl (s_asg  rfl ?_)
  refine l_nil ?_
  repeat (with_reducible first | refine c_seq ?_ | refine c_block ?_ | refine c_skip ?_ | refine x_then ?_ | refine x_block ?_)
  refine c_ret ?_
  repeat (with_reducible first | refine x_then_ret ?_ | refine x_block_ret ?_)
  refine r_one rfl rfl ?_
  exact ⟨vb rfl (decide_eq_true rfl), hS.below⟩
end Go.Proofs.YtdafaibhiobpaaaDoor
