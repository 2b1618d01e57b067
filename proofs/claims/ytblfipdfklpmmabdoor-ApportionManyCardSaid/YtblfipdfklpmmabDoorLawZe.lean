/-
  Plain facts on lists of one whole number and zeros; walks: what is too long is refused.
-/
import Derived.Test.YtblfipdfklpmmabDoorLawZd
namespace Go.Proofs.YtblfipdfklpmmabDoor
open Go Go.RowKit Go.Sx

def cstF (c : Int) (i : Nat) : Rat := ((if i = 0 then c else 0 : Int) : Rat)
def cst (c : Int) (k : Nat) : List RR := tab k fun i => ofQ (cstF c i)
theorem cst_len (c : Int) (k : Nat) : (cst c k).length = k := tab_len _ _
theorem qA_cst {c : Int} {k i : Nat} (hi : i < k) : qA (cst c k) i = cstF c i := by
  unfold qA cst; rw [tab_get _ _ hi, toQ_ofQ]
theorem fr_cst {c : Int} {k i : Nat} (hi : i < k) : frQ (qA (cst c k)) i = 0 := by
  unfold frQ; rw [qA_cst hi]; unfold cstF; rw [Rat.floor_intCast]; exact Rat.sub_self
theorem sumR_cst (c : Int) : ∀ k, 1 ≤ k → sumR (cstF c) k = (c : Rat)
  | 1, _ => by rw [sumR_succ]; show 0 + ((c : Int) : Rat) = c; exact Rat.zero_add _
  | k + 2, _ => by
    rw [sumR_succ, sumR_cst c (k + 1) (by omega)]
    show (c : Rat) + ((0 : Int) : Rat) = c
    exact Rat.add_zero _
theorem sum_cst (c : Int) {k : Nat} (hk : 1 ≤ k) : sumQ ((cst c k).map toQ) = (c : Rat) := by
  unfold cst; rw [sum_tab, sumR_cst c k hk]
theorem cstF_nn {c : Int} (hc : 0 ≤ c) (i : Nat) : 0 ≤ cstF c i := by
  unfold cstF
  refine Rat.intCast_nonneg.2 ?_
  split
  · exact hc
  · exact Int.le_refl _
theorem negs_cst {c : Int} (hc : 0 ≤ c) (k : Nat) : negs (cst c k) = false := negs_of fun q hq => by
  obtain ⟨r, hr, rfl⟩ := List.mem_map.1 hq
  obtain ⟨i, _, rfl⟩ := tab_mem hr
  rw [toQ_ofQ]; exact cstF_nn hc i
theorem RB_cst {c : Int} (hc : c.natAbs < 256) (k : Nat) : RB 1 (cst c k) := fun r hr => by
  obtain ⟨i, _, rfl⟩ := tab_mem hr
  rw [Lr_ofQ]
  unfold cstF
  refine L_int _ ?_ (by decide)
  split
  · exact hc
  · decide
theorem lgE_cst {c : Int} (hc : 0 ≤ c) (hm : c ≤ 1000) {k : Nat} (hk : 1 ≤ k) (h2 : k ≤ 1024) : lgE (cst c k) = 0 := by
  have hi : i64V (c : Rat) = (c, true) := by rw [i64V_int, if_pos (by omega)]
  unfold lgE
  rw [if_neg (by rw [cst_len]; omega), negs_cst hc, if_neg (by decide), sum_cst c hk, hi, if_neg (fun e => Bool.noConfusion e)]
theorem shL_cst {k : Nat} (hk : 1 ≤ k) : shL 5 (cst 1 k) = cst 5 k := by
  have h : ∀ i, i < (cst 1 k).length → ofQ (shQ 5 (cst 1 k) i) = ofQ (cstF 5 i) := by
    intro i hi
    rw [cst_len] at hi
    congr 1
    have e : toQ ((cst 1 k).getD i zRR) = cstF 1 i := qA_cst hi
    unfold shQ
    rw [e, sum_cst 1 hk]
    unfold cstF
    by_cases h0 : i = 0
    · rw [if_pos h0, if_pos h0]; decide +kernel
    · rw [if_neg h0, if_neg h0]; decide +kernel
  unfold shL
  rw [tab_congr h, cst_len]; rfl
theorem spE_cst {k : Nat} (hk : 1 ≤ k) (h2 : k ≤ 1024) : spE 5 (cst 1 k) = 0 := by
  unfold spE
  rw [if_neg (by rw [cst_len]; omega), negs_cst (by decide), if_neg (by simp), sum_cst 1 hk, if_neg (by decide +kernel), shL_cst hk, lgE_cst (by decide) (by decide) hk h2]
theorem cst_set (k : Nat) (c : Int) : (List.replicate k zRR).set 0 (ofQ (c : Rat)) = cst c k := by
  rw [tab_rep, tab_set]
  refine tab_congr fun j _ => ?_
  unfold cstF
  by_cases h0 : j = 0
  · rw [if_pos h0, if_pos h0]
  · rw [if_neg h0, if_neg h0]; exact ofQ_zero.symm
theorem Largest_long (v : Value) (l : List RR) (w : World) (hv : Sl encR 3 w v l) (h20 : 1024 < l.length) :
    Ret Tryd.prog 5 #[v] w fun r w' => (∃ v', r = .tuple #[v', .int .i64 2]) ∧ Below w.heap.size w w' := by
  have hS := St.init w
  have hmx := hv.maxLen
  refine enter Tryd.func5 rfl Tryd.ntmps5 rfl ?_
  repeat (with_reducible first | refine c_seq ?_ | refine c_block ?_ | refine c_skip ?_ | refine x_then ?_ | refine x_block ?_)
  refine c_reg ?_
  refine l_pure rfl (s_asg  rfl ?_)
  refine l_pure rfl (s_asg  rfl ?_)
  refine l_nil ?_
  repeat (with_reducible first | refine c_seq ?_ | refine c_block ?_ | refine c_skip ?_ | refine x_then ?_ | refine x_block ?_)
  refine c_reg ?_
  refine l_pure rfl (s_move  rfl ?_)
  refine l_pure rfl (s_lenr  rfl (hv.below hS.below) ⟨_, Tryd.underlying23⟩ ?_)
  refine l_pure rfl (s_gtr  rfl rfl ?_)
  refine l_nil ?_
  repeat (with_reducible first | refine c_seq ?_ | refine c_block ?_ | refine c_skip ?_ | refine x_then ?_ | refine x_block ?_)
  refine c_yes rfl (decide_eq_true (by omega)) ?_
  repeat (with_reducible first | refine c_seq ?_ | refine c_block ?_ | refine c_skip ?_ | refine x_then ?_ | refine x_block ?_)
  refine c_reg ?_
  refine l_pure rfl (s_asg  rfl ?_)
  refine l_pure rfl (s_asg  rfl ?_)
  refine l_nil ?_
  repeat (with_reducible first | refine c_seq ?_ | refine c_block ?_ | refine c_skip ?_ | refine x_then ?_ | refine x_block ?_)
  refine c_ret ?_
  repeat (with_reducible first | refine x_then_ret ?_ | refine x_block_ret ?_)
  refine r_two rfl rfl rfl ?_
  exact ⟨⟨_, rfl⟩, hS.below⟩
theorem Split_long (total : Int) (v : Value) (l : List RR) (w : World) (hv : Sl encR 3 w v l) (h20 : 1024 < l.length) :
    Ret Tryd.prog 6 #[.int .i64 total, v] w fun r w' => (∃ v', r = .tuple #[v', .int .i64 2]) ∧ Below w.heap.size w w' := by
  have hS := St.init w
  have hmx := hv.maxLen
  refine enter Tryd.func6 rfl Tryd.ntmps6 rfl ?_
  repeat (with_reducible first | refine c_seq ?_ | refine c_block ?_ | refine c_skip ?_ | refine x_then ?_ | refine x_block ?_)
  refine c_reg ?_
  refine l_pure rfl (s_asg  rfl ?_)
  refine l_pure rfl (s_asg  rfl ?_)
  refine l_nil ?_
  repeat (with_reducible first | refine c_seq ?_ | refine c_block ?_ | refine c_skip ?_ | refine x_then ?_ | refine x_block ?_)
  refine c_reg ?_
  refine l_pure rfl (s_move  rfl ?_)
  refine l_pure rfl (s_lenr  rfl (hv.below hS.below) ⟨_, Tryd.underlying23⟩ ?_)
  refine l_pure rfl (s_gtr  rfl rfl ?_)
  refine l_nil ?_
  repeat (with_reducible first | refine c_seq ?_ | refine c_block ?_ | refine c_skip ?_ | refine x_then ?_ | refine x_block ?_)
  refine c_yes rfl (decide_eq_true (by omega)) ?_
  repeat (with_reducible first | refine c_seq ?_ | refine c_block ?_ | refine c_skip ?_ | refine x_then ?_ | refine x_block ?_)
  refine c_reg ?_
  refine l_pure rfl (s_asg  rfl ?_)
  refine l_pure rfl (s_asg  rfl ?_)
  refine l_nil ?_
  repeat (with_reducible first | refine c_seq ?_ | refine c_block ?_ | refine c_skip ?_ | refine x_then ?_ | refine x_block ?_)
  refine c_ret ?_
  repeat (with_reducible first | refine x_then_ret ?_ | refine x_block_ret ?_)
  refine r_two rfl rfl rfl ?_
  exact ⟨⟨_, rfl⟩, hS.below⟩
end Go.Proofs.YtblfipdfklpmmabDoor
