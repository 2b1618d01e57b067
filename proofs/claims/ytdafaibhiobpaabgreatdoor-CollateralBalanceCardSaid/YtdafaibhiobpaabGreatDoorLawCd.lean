/-
  Walks: comparing charges; a copy of what is owed.
-/
import Derived.Test.YtdafaibhiobpaabGreatDoorLawSc
namespace Go.Proofs.YtdafaibhiobpaabGreatDoor
open Go Go.RowKit Go.Sx

theorem share1_ok (p i k : Nat) (vl : Value) (cs : List Ch) (w : World) (hp : At w ⟨p, 0, none⟩ [vl]) (hl : Sl encCh 6 w vl cs) (hi : i < cs.length) (hk : k < cs.length) :
    Ret Tryz.prog 46 #[.int .i64 i, .int .i64 k, .pointer (some ⟨p, 0, none⟩)] w fun v w' => v = .int .i64 (cmpC cs i k) ∧ Below w.heap.size w w' := by
  have hS := St.init w
  have hci : cmpC cs i k = if pr cs i < pr cs k then -1 else if pr cs k < pr cs i then 1 else 0 := by
    unfold cmpC; rw [Int.toNat_natCast, Int.toNat_natCast]
  rw [hci]
  have e1 : (cs.getD i zCh).prio = pr cs i := rfl
  have e2 : (cs.getD k zCh).prio = pr cs k := rfl
  refine enter Tryz.func46 rfl Tryz.ntmps46 rfl ?_
  repeat (with_reducible first | refine c_seq ?_ | refine c_block ?_ | refine c_skip ?_ | refine x_then ?_ | refine x_block ?_)
  refine c_reg ?_
  refine l_pure rfl (s_asg  rfl ?_)
  refine l_nil ?_
  repeat (with_reducible first | refine c_seq ?_ | refine c_block ?_ | refine c_skip ?_ | refine x_then ?_ | refine x_block ?_)
  refine c_draw [(0, .read), (1, .pure), (2, .pure), (3, .pure), (4, .read), (5, .read), (6, .pure), (7, .pure), (8, .pure), (9, .read), (10, .pure), (11, .pure)] (by kernel_rfl) (by kernel_rfl) hS ?_
  intro wz1 hS hBz1
  refine w_read rfl rfl (s_ld (cs := [vl])  rfl vi_30 (hp.below hS.below) rfl rfl (.inr rfl) ?_)
  refine w_pure rfl rfl (s_move  rfl ?_)
  refine w_pure rfl rfl (s_ixr (i := i)  rfl rfl (hl.below hS.below) (by omega) (by first | omega | (simp; done) | (simp; omega)) si_30 ?_)
  refine w_pure rfl rfl (s_fldr  rfl (spot_el (hl.below hS.below) (fun _ => rfl) (by decide) (by first | omega | (simp; done) | (simp; omega))) fo_38_1 ?_)
  refine w_read rfl rfl (s_ldfe (i := i) (off := 1) zCh  rfl vi_3 (hl.below hS.below) (fun _ => rfl) (by decide) (by first | omega | (simp; done) | (simp; omega)) rfl rfl (.inr rfl) ?_)
  refine w_read rfl rfl (s_ld (cs := [vl])  rfl vi_30 (hp.below hS.below) rfl rfl (.inr rfl) ?_)
  refine w_pure rfl rfl (s_move  rfl ?_)
  refine w_pure rfl rfl (s_ixr (i := k)  rfl rfl (hl.below hS.below) (by omega) (by first | omega | (simp; done) | (simp; omega)) si_30 ?_)
  refine w_pure rfl rfl (s_fldr  rfl (spot_el (hl.below hS.below) (fun _ => rfl) (by decide) (by first | omega | (simp; done) | (simp; omega))) fo_38_1 ?_)
  refine w_read rfl rfl (s_ldfe (i := k) (off := 1) zCh  rfl vi_3 (hl.below hS.below) (fun _ => rfl) (by decide) (by first | omega | (simp; done) | (simp; omega)) rfl rfl (.inr rfl) ?_)
  refine w_pure rfl rfl (s_lss  rfl rfl ?_)
  refine w_pure rfl rfl (s_asg  rfl ?_)
  refine w_end ?_
  repeat (with_reducible first | refine c_seq ?_ | refine c_block ?_ | refine c_skip ?_ | refine x_then ?_ | refine x_block ?_)
  by_cases h1 : pr cs i < pr cs k
  · rw [if_pos h1]
    refine c_yes rfl (decide_eq_true h1) ?_
    repeat (with_reducible first | refine c_seq ?_ | refine c_block ?_ | refine c_skip ?_ | refine x_then ?_ | refine x_block ?_)
    refine c_reg ?_
    refine l_pure rfl (s_asg  rfl ?_)
    refine l_nil ?_
    repeat (with_reducible first | refine c_seq ?_ | refine c_block ?_ | refine c_skip ?_ | refine x_then ?_ | refine x_block ?_)
    refine c_ret ?_
    repeat (with_reducible first | refine x_then_ret ?_ | refine x_block_ret ?_)
    refine r_one rfl rfl ?_
    exact ⟨rfl, hS.below⟩
  · rw [if_neg h1]
    refine c_no rfl (decide_eq_false h1) ?_
    repeat (with_reducible first | refine c_seq ?_ | refine c_block ?_ | refine c_skip ?_ | refine x_then ?_ | refine x_block ?_)
    refine c_draw [(0, .read), (1, .pure), (2, .pure), (3, .pure), (4, .read), (5, .read), (6, .pure), (7, .pure), (8, .pure), (9, .read), (10, .pure), (11, .pure)] (by kernel_rfl) (by kernel_rfl) hS ?_
    intro wz2 hS hBz2
    refine w_read rfl rfl (s_ld (cs := [vl])  rfl vi_30 (hp.below hS.below) rfl rfl (.inr rfl) ?_)
    refine w_pure rfl rfl (s_move  rfl ?_)
    refine w_pure rfl rfl (s_ixr (i := i)  rfl rfl (hl.below hS.below) (by omega) (by first | omega | (simp; done) | (simp; omega)) si_30 ?_)
    refine w_pure rfl rfl (s_fldr  rfl (spot_el (hl.below hS.below) (fun _ => rfl) (by decide) (by first | omega | (simp; done) | (simp; omega))) fo_38_1 ?_)
    refine w_read rfl rfl (s_ldfe (i := i) (off := 1) zCh  rfl vi_3 (hl.below hS.below) (fun _ => rfl) (by decide) (by first | omega | (simp; done) | (simp; omega)) rfl rfl (.inr rfl) ?_)
    refine w_read rfl rfl (s_ld (cs := [vl])  rfl vi_30 (hp.below hS.below) rfl rfl (.inr rfl) ?_)
    refine w_pure rfl rfl (s_move  rfl ?_)
    refine w_pure rfl rfl (s_ixr (i := k)  rfl rfl (hl.below hS.below) (by omega) (by first | omega | (simp; done) | (simp; omega)) si_30 ?_)
    refine w_pure rfl rfl (s_fldr  rfl (spot_el (hl.below hS.below) (fun _ => rfl) (by decide) (by first | omega | (simp; done) | (simp; omega))) fo_38_1 ?_)
    refine w_read rfl rfl (s_ldfe (i := k) (off := 1) zCh  rfl vi_3 (hl.below hS.below) (fun _ => rfl) (by decide) (by first | omega | (simp; done) | (simp; omega)) rfl rfl (.inr rfl) ?_)
    refine w_pure rfl rfl (s_gtr  rfl rfl ?_)
    refine w_pure rfl rfl (s_asg  rfl ?_)
    refine w_end ?_
    repeat (with_reducible first | refine c_seq ?_ | refine c_block ?_ | refine c_skip ?_ | refine x_then ?_ | refine x_block ?_)
    by_cases h2 : pr cs k < pr cs i
    · rw [if_pos h2]
      refine c_yes rfl (decide_eq_true h2) ?_
      repeat (with_reducible first | refine c_seq ?_ | refine c_block ?_ | refine c_skip ?_ | refine x_then ?_ | refine x_block ?_)
      refine c_reg ?_
      refine l_pure rfl (s_asg  rfl ?_)
      refine l_nil ?_
      repeat (with_reducible first | refine c_seq ?_ | refine c_block ?_ | refine c_skip ?_ | refine x_then ?_ | refine x_block ?_)
      refine c_ret ?_
      repeat (with_reducible first | refine x_then_ret ?_ | refine x_block_ret ?_)
      refine r_one rfl rfl ?_
      exact ⟨rfl, hS.below⟩
    · rw [if_neg h2]
      refine c_no rfl (decide_eq_false h2) ?_
      repeat (with_reducible first | refine c_seq ?_ | refine c_block ?_ | refine c_skip ?_ | refine x_then ?_ | refine x_block ?_)
      refine c_reg ?_
      refine l_pure rfl (s_asg  rfl ?_)
      refine l_nil ?_
      repeat (with_reducible first | refine c_seq ?_ | refine c_block ?_ | refine c_skip ?_ | refine x_then ?_ | refine x_block ?_)
      refine c_ret ?_
      repeat (with_reducible first | refine x_then_ret ?_ | refine x_block_ret ?_)
      refine r_one rfl rfl ?_
      exact ⟨rfl, hS.below⟩
theorem Clone_ok (vo : Value) (l : List RR) (w : World) (ho : Sl encR 3 w vo l) (hl : l.length ≤ 1000000) :
    Ret Tryz.prog 47 #[vo] w fun r w' => ∃ LO, Gl encR 29 3 r l LO ∧ St w w' ([] ++ LO) := by
  obtain ⟨a, c, rfl, h1, h2, h3⟩ := ho.form
  have hS := St.init w
  have hW := hS.below
  refine enter Tryz.func47 rfl Tryz.ntmps47 rfl ?_
  repeat (with_reducible first | refine c_seq ?_ | refine c_block ?_ | refine c_skip ?_ | refine x_then ?_ | refine x_block ?_)
  refine c_reg ?_
  refine l_pure rfl (s_asg  rfl ?_)
  refine l_nil ?_
  repeat (with_reducible first | refine c_seq ?_ | refine c_block ?_ | refine c_skip ?_ | refine x_then ?_ | refine x_block ?_)
  refine c_reg ?_
  refine l_pure rfl (s_move  rfl ?_)
  refine l_pure rfl (s_eqnil  rfl rfl (ht := ⟨_, Tryz.underlying24⟩) ?_)
  refine l_nil ?_
  repeat (with_reducible first | refine c_seq ?_ | refine c_block ?_ | refine c_skip ?_ | refine x_then ?_ | refine x_block ?_)
  cases a with
  | none =>
    refine c_yes rfl (rfl) ?_
    repeat (with_reducible first | refine c_seq ?_ | refine c_block ?_ | refine c_skip ?_ | refine x_then ?_ | refine x_block ?_)
    refine c_reg ?_
    refine l_pure rfl (s_asg  rfl ?_)
    refine l_nil ?_
    repeat (with_reducible first | refine c_seq ?_ | refine c_block ?_ | refine c_skip ?_ | refine x_then ?_ | refine x_block ?_)
    refine c_ret ?_
    repeat (with_reducible first | refine x_then_ret ?_ | refine x_block_ret ?_)
    refine r_one rfl rfl ?_
    have := h3 rfl
    obtain rfl : l = [] := List.eq_nil_of_length_eq_zero (by omega)
    exact ⟨[], Gl.nil _ _ _, hS⟩
  | some a =>
    refine c_no rfl (rfl) ?_
    repeat (with_reducible first | refine c_seq ?_ | refine c_block ?_ | refine c_skip ?_ | refine x_then ?_ | refine x_block ?_)
    refine c_reg ?_
    refine l_heavy rfl (s_bsl0  si_24 hS ?_)
    intro b5 wz1 hS hBz1
    refine l_pure rfl (s_move  rfl ?_)
    refine l_heavy rfl (s_appc  rfl rfl si_24 (by decide) (H := []) (Gl.make0 (z := encR zRR) (n := 0) rfl (by decide)) hS (ho.below hS.below) rfl encR_len (encR_one l) (by simp; omega) (by simp; omega) ?_)
    intro va2 La2 wa2 hG hS hga2
    refine l_pure rfl (s_asg  rfl ?_)
    refine l_nil ?_
    repeat (with_reducible first | refine c_seq ?_ | refine c_block ?_ | refine c_skip ?_ | refine x_then ?_ | refine x_block ?_)
    refine c_ret ?_
    repeat (with_reducible first | refine x_then_ret ?_ | refine x_block_ret ?_)
    refine r_one rfl rfl ?_
    exact ⟨_, hG, hS⟩
end Go.Proofs.YtdafaibhiobpaabGreatDoor
