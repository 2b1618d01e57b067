/-
  Walks: dividing a total (reference); the laws that both agree with the definition.
-/
import Derived.Test.YtmapmdldlcfjhaaGreatDoorLawWa
namespace Go.Proofs.YtmapmdldlcfjhaaGreatDoor
open Go Go.RowKit Go.Sx

set_option maxHeartbeats 2000000 in
theorem rSplit_ok (total : Int) (v : Value) (l : List RR) (K : Nat) (w : World) (h1 : -9223372036854775808 ≤ total) (h2 : total ≤ 9223372036854775807) (hv : Sl encR 3 w v l) (hl : RB K l) (h20 : l.length ≤ 20) (hK : 3000 * K + 4000 ≤ MX) :
    Ret Tryz.prog 17 #[.int .i64 total, v] w fun r w' => (∃ v', r = .tuple #[v', .int .i64 (spE total l)] ∧ Sl enI 1 w' v' (spL total l)) ∧ Below w.heap.size w w' := by
  have hM : MX = 1099511627776 := rfl
  have hno : spE total l ≠ 0 → spL total l = [] := fun h => if_neg h
  have hsl := sumL_le hl
  have hsl2 : l.length * (K + 1) ≤ 20 * (K + 1) := Nat.mul_le_mul_right _ h20
  have hLs := L_sumQ l
  have hLt := L_i64 h1 h2
  have hsum := fun w h => rSum_ok v l w h (by omega)
  have hS := St.init w
  refine enter Tryz.func17 rfl Tryz.ntmps17 rfl ?_
  repeat (with_reducible first | refine c_seq ?_ | refine c_block ?_ | refine c_skip ?_ | refine x_then ?_ | refine x_block ?_)
  refine c_reg ?_
  refine l_pure rfl (s_asg  rfl ?_)
  refine l_pure rfl (s_asg  rfl ?_)
  refine l_nil ?_
  repeat (with_reducible first | refine c_seq ?_ | refine c_block ?_ | refine c_skip ?_ | refine x_then ?_ | refine x_block ?_)
  refine c_reg ?_
  refine l_pure rfl (s_move  rfl ?_)
  refine l_pure rfl (s_lenr  rfl (hv.below hS.below) ⟨_, Tryz.underlying22⟩ ?_)
  refine l_pure rfl (s_gtr  rfl rfl ?_)
  refine l_nil ?_
  repeat (with_reducible first | refine c_seq ?_ | refine c_block ?_ | refine c_skip ?_ | refine x_then ?_ | refine x_block ?_)
  refine c_no rfl (decide_eq_false (by omega)) ?_
  repeat (with_reducible first | refine c_seq ?_ | refine c_block ?_ | refine c_skip ?_ | refine x_then ?_ | refine x_block ?_)
  by_cases hneg : total < 0
  · have he : spE total l = 7 := by unfold spE; rw [if_neg (by omega), if_pos (.inl hneg)]
    repeat (with_reducible first | refine c_seq ?_ | refine c_block ?_ | refine c_skip ?_ | refine x_then ?_ | refine x_block ?_)
    refine c_reg ?_
    refine l_pure rfl (s_move  rfl ?_)
    refine l_pure rfl (s_lss  rfl rfl ?_)
    refine l_pure rfl (s_move  rfl ?_)
    refine l_no (gno_yes 14 (by kernel_rfl) rfl (decide_eq_true hneg)) ?_
    refine l_no (gno_yes 14 (by kernel_rfl) rfl (decide_eq_true hneg)) ?_
    refine l_pure rfl (s_pick (vb rfl (decide_eq_true hneg)) rfl ?_)
    refine l_nil ?_
    repeat (with_reducible first | refine c_seq ?_ | refine c_block ?_ | refine c_skip ?_ | refine x_then ?_ | refine x_block ?_)
    refine c_yes rfl (rfl) ?_
    repeat (with_reducible first | refine c_seq ?_ | refine c_block ?_ | refine c_skip ?_ | refine x_then ?_ | refine x_block ?_)
    refine c_reg ?_
    refine l_pure rfl (s_asg  rfl ?_)
    refine l_pure rfl (s_asg  rfl ?_)
    refine l_nil ?_
    repeat (with_reducible first | refine c_seq ?_ | refine c_block ?_ | refine c_skip ?_ | refine x_then ?_ | refine x_block ?_)
    refine c_ret ?_
    repeat (with_reducible first | refine x_then_ret ?_ | refine x_block_ret ?_)
    refine r_two rfl rfl rfl ?_
    refine ⟨⟨_, by rw [he]; rfl, ?_⟩, hS.below⟩
    rw [hno (by rw [he]; decide)]; exact Sl.nil _ _ _
  repeat (with_reducible first | refine c_seq ?_ | refine c_block ?_ | refine c_skip ?_ | refine x_then ?_ | refine x_block ?_)
  refine c_reg ?_
  refine l_pure rfl (s_move  rfl ?_)
  refine l_pure rfl (s_lss  rfl rfl ?_)
  refine l_pure rfl (s_move  rfl ?_)
  refine l_pure (gd_yes 14 (by kernel_rfl) rfl (decide_eq_false hneg)) (s_move  rfl ?_)
  refine l_heavy (gd_yes 14 (by kernel_rfl) rfl (decide_eq_false hneg)) (s_call Tryz.call48 rfl (rbelow_ok v l _ (hv.below hS.below) (RB_mono hl (by omega))) ?_)
  rintro r w2 ⟨rfl, hB2⟩
  replace hS := hS.grow hB2
  refine l_pure rfl (s_pick (vb rfl (decide_eq_false hneg)) rfl ?_)
  refine l_nil ?_
  repeat (with_reducible first | refine c_seq ?_ | refine c_block ?_ | refine c_skip ?_ | refine x_then ?_ | refine x_block ?_)
  cases hn : negs l with
  | true =>
    have he : spE total l = 7 := by unfold spE; rw [if_neg (by omega), if_pos (.inr hn)]
    refine c_yes rfl (rfl) ?_
    repeat (with_reducible first | refine c_seq ?_ | refine c_block ?_ | refine c_skip ?_ | refine x_then ?_ | refine x_block ?_)
    refine c_reg ?_
    refine l_pure rfl (s_asg  rfl ?_)
    refine l_pure rfl (s_asg  rfl ?_)
    refine l_nil ?_
    repeat (with_reducible first | refine c_seq ?_ | refine c_block ?_ | refine c_skip ?_ | refine x_then ?_ | refine x_block ?_)
    refine c_ret ?_
    repeat (with_reducible first | refine x_then_ret ?_ | refine x_block_ret ?_)
    refine r_two rfl rfl rfl ?_
    refine ⟨⟨_, by rw [he]; rfl, ?_⟩, hS.below⟩
    rw [hno (by rw [he]; decide)]; exact Sl.nil _ _ _
  | false =>
  have hor : ¬ (total < 0 ∨ negs l = true) := by rw [hn]; simp; omega
  refine c_no rfl (rfl) ?_
  repeat (with_reducible first | refine c_seq ?_ | refine c_block ?_ | refine c_skip ?_ | refine x_then ?_ | refine x_block ?_)
  refine c_reg ?_
  refine l_pure rfl (s_move  rfl ?_)
  refine l_heavy rfl (s_call Tryz.call27 rfl (hsum _ (hv.below hS.below)) ?_)
  rintro _ wc1 ⟨rfl, hBc1⟩
  replace hS := hS.grow hBc1
  refine l_heavy rfl (s_alloc  vi_37 hS ?_)
  intro b6 wz2 hS hBz2
  refine l_heavy rfl (s_sta (k := 0)  rfl rfl vi_37 hS rfl rfl rfl (Nat.le_of_ble_eq_true rfl) rfl ?_)
  intro wz3 hS
  refine l_nil ?_
  repeat (with_reducible first | refine c_seq ?_ | refine c_block ?_ | refine c_skip ?_ | refine x_then ?_ | refine x_block ?_)
  obtain ⟨s, hs⟩ : ∃ s, s = sumQ (l.map toQ) := ⟨_, rfl⟩
  rw [← hs] at hLs
  replace hS : St w _ [(b6, 37, encR (ofQ (sumQ (l.map toQ))))] := hS
  rw [← hs] at hS
  repeat (with_reducible first | refine c_seq ?_ | refine c_block ?_ | refine c_skip ?_ | refine x_then ?_ | refine x_block ?_)
  refine c_forget (fun ρ' => ρ' 0 = .int .i64 total ∧ ρ' 1 = v ∧ ρ' 6 = .pointer (some ⟨b6, 0, none⟩) ∧ True) ⟨rfl, rfl, rfl, trivial⟩ ?_
  rintro ρk4 ⟨hk4_0, hk4_1, hk4_6, -⟩
  repeat (with_reducible first | refine c_seq ?_ | refine c_block ?_ | refine c_skip ?_ | refine x_then ?_ | refine x_block ?_)
  refine c_reg ?_
  refine l_pure rfl (s_fld  hk4_6 fo_37_1 ?_)
  refine l_read rfl (s_ldo (k := 0)  rfl vi_9 hS rfl rfl rfl (.inr rfl) ?_)
  refine l_pure rfl (s_eqs  rfl rfl ?_)
  refine l_nil ?_
  repeat (with_reducible first | refine c_seq ?_ | refine c_block ?_ | refine c_skip ?_ | refine x_then ?_ | refine x_block ?_)
  by_cases hs0 : s = 0
  · have he : spE total l = 6 := by unfold spE; rw [if_neg (by omega), if_neg hor, if_pos (by rw [← hs]; exact hs0)]
    refine c_yes rfl (decide_eq_true (ofQ_num_nil.2 hs0)) ?_
    repeat (with_reducible first | refine c_seq ?_ | refine c_block ?_ | refine c_skip ?_ | refine x_then ?_ | refine x_block ?_)
    refine c_reg ?_
    refine l_pure rfl (s_asg  rfl ?_)
    refine l_pure rfl (s_asg  rfl ?_)
    refine l_nil ?_
    repeat (with_reducible first | refine c_seq ?_ | refine c_block ?_ | refine c_skip ?_ | refine x_then ?_ | refine x_block ?_)
    refine c_ret ?_
    repeat (with_reducible first | refine x_then_ret ?_ | refine x_block_ret ?_)
    refine r_two rfl rfl rfl ?_
    refine ⟨⟨_, by rw [he]; rfl, ?_⟩, hS.below⟩
    rw [hno (by rw [he]; decide)]; exact Sl.nil _ _ _
  · have he : spE total l = lgE (shL total l) := by unfold spE; rw [if_neg (by omega), if_neg hor, if_neg (by rw [← hs]; exact hs0)]
    have hsp : spL total l = lgL (shL total l) := by
      unfold spL
      by_cases g : spE total l = 0
      · rw [if_pos g]
      · rw [if_neg g]
        rw [he] at g
        exact (if_neg g).symm
    rw [he, hsp]
    obtain ⟨n, hn'⟩ : ∃ n, n = l.length := ⟨_, rfl⟩
    have hshL : shL total l = tab n fun i => ofQ (shQ total l i) := by rw [hn']; rfl
    refine c_no rfl (decide_eq_false (fun g => hs0 (ofQ_num_nil.1 g))) ?_
    repeat (with_reducible first | refine c_seq ?_ | refine c_block ?_ | refine c_skip ?_ | refine x_then ?_ | refine x_block ?_)
    refine c_reg ?_
    refine l_pure rfl (s_asg  rfl ?_)
    refine l_nil ?_
    repeat (with_reducible first | refine c_seq ?_ | refine c_block ?_ | refine c_skip ?_ | refine x_then ?_ | refine x_block ?_)
    refine c_reg ?_
    refine l_pure rfl (s_asg  rfl ?_)
    refine l_nil ?_
    repeat (with_reducible first | refine c_seq ?_ | refine c_skip ?_ | refine x_then ?_ | refine x_block ?_)
    refine c_cut1 (fun ρ w' => ∃ sP LP, ρ 7 = sP ∧ Gl encR 37 3 sP (tab n fun i => ofQ (shQ total l i)) LP ∧ St w w' ([(b6, 37, encR (ofQ s))] ++ LP)) ?_ ?_
    · repeat (with_reducible first | refine c_seq ?_ | refine c_block ?_ | refine c_skip ?_ | refine x_then ?_ | refine x_block ?_)
      refine c_loop (σ := Nat) (fun i ρ w' => i ≤ n ∧ ρ 0 = .int .i64 total ∧ ρ 1 = v ∧ ρ 6 = .pointer (some ⟨b6, 0, none⟩) ∧ ρ 8 = .int .i64 i ∧ ∃ sP LP, ρ 7 = sP ∧ Gl encR 37 3 sP (tab i fun i => ofQ (shQ total l i)) LP ∧ St w w' ([(b6, 37, encR (ofQ s))] ++ LP)) (fun i => n - i) 0
        ⟨Nat.zero_le _, by assumption, by assumption, by assumption, rfl, ⟨_, [], rfl, Gl.nil _ _ _, hS⟩⟩ ?_
      clear hS
      rintro i ρ w4 ⟨hi, h0, h1', h6, h8, sP, LP, h7, hP, hS⟩
      have htl := tab_len i (fun i => ofQ (shQ total l i))
      repeat (with_reducible first | refine c_seq ?_ | refine c_block ?_ | refine c_skip ?_ | refine x_then ?_ | refine x_block ?_)
      refine c_reg ?_
      refine l_pure rfl (s_move  h8 ?_)
      refine l_pure rfl (s_move  h1' ?_)
      refine l_pure rfl (s_lenr  rfl (hv.below hS.below) ⟨_, Tryz.underlying22⟩ ?_)
      refine l_pure rfl (s_lss  rfl rfl ?_)
      refine l_nil ?_
      repeat (with_reducible first | refine c_seq ?_ | refine c_block ?_ | refine c_skip ?_ | refine x_then ?_ | refine x_block ?_)
      by_cases hlt : i < n
      · refine c_yes rfl (decide_eq_true (by omega)) ?_
        repeat (with_reducible first | refine c_seq ?_ | refine c_block ?_ | refine c_skip ?_ | refine x_then ?_ | refine x_block ?_)
        have hLi := hl _ (getD_mem l i zRR (by omega))
        have hLt2 := L_toQ (l.getD i zRR)
        have hfx := fun w => rFix_ok (l.getD i zRR) w (by omega)
        unfold fx at hfx
        have hLm := L_mul (total : Rat) (toQ (l.getD i zRR))
        have hti := fun w => rTimes_ok (total : Rat) (toQ (l.getD i zRR)) w (by omega)
        have hov := fun w => rOver_ok ((total : Rat) * toQ (l.getD i zRR)) s w (by omega) hs0
        have hex : (total : Rat) * toQ (l.getD i zRR) / s = shQ total l i := by
          rw [hs]
          unfold shQ
          rw [Rat.div_def, Rat.div_def, Rat.mul_assoc, Rat.mul_assoc, Rat.mul_comm (toQ _)]
        rw [hex] at hov
        repeat (with_reducible first | refine c_seq ?_ | refine c_block ?_ | refine c_skip ?_ | refine x_then ?_ | refine x_block ?_)
        refine c_draw [(0, .pure), (1, .pure), (3, .pure), (4, .pure), (5, .pure), (6, .read), (9, .read), (2, .grow), (7, .grow), (8, .grow), (10, .grow), (11, .grow), (12, .free), (13, .pure)] (by kernel_rfl) (by kernel_rfl) hS ?_
        intro wz5 hS hBz5
        refine w_pure rfl rfl (s_move  h7 ?_)
        refine w_pure rfl rfl (s_move  h0 ?_)
        refine w_pure rfl rfl (s_move  h1' ?_)
        refine w_pure rfl rfl (s_move  h8 ?_)
        refine w_pure rfl rfl (s_ixr (i := i)  rfl rfl (hv.below hS.below) (by omega) (by first | omega | (simp; done) | (simp; omega)) si_22 ?_)
        refine w_read rfl rfl (s_lde (i := i) zRR  rfl vi_37 (hv.below hS.below) (by first | omega | (simp; done) | (simp; omega)) rfl rfl (.inl rfl) ?_)
        refine w_read rfl rfl (s_ldo (k := 0)  h6 vi_37 hS rfl rfl rfl (.inl rfl) ?_)
        refine w_grow rfl rfl (s_call Tryz.call31 rfl (rInt_ok total _ h1 h2) ?_)
        rintro _ wc6 ⟨rfl, hBc6⟩
        replace hS := hS.grow hBc6
        refine ⟨hBc6, ?_⟩
        refine w_grow rfl rfl (s_call Tryz.call52 rfl (hfx _) ?_)
        rintro _ wc7 ⟨rfl, hBc7⟩
        replace hS := hS.grow hBc7
        refine ⟨hBc7, ?_⟩
        refine w_grow rfl rfl (s_call Tryz.call57 rfl (hti _) ?_)
        rintro _ wc8 ⟨rfl, hBc8⟩
        replace hS := hS.grow hBc8
        refine ⟨hBc8, ?_⟩
        refine w_grow rfl rfl (s_call Tryz.call56 rfl (hov _) ?_)
        rintro _ wc9 ⟨rfl, hBc9⟩
        replace hS := hS.grow hBc9
        refine ⟨hBc9, ?_⟩
        refine w_grow rfl rfl (s_bsl (vs := [aggR (ofQ (shQ total l i))])  rfl si_22 rfl (by decide) (by decide) (by decide) (by simp [Value.cells, aggR]) rfl hS ?_)
        intro bx wz10 hS hBz10
        refine ⟨hBz10, ?_⟩
        refine w_free rfl rfl (s_appl [ofQ (shQ total l i)]  rfl rfl si_22 (by decide) hP hS rfl rfl encR_len (encR_one [ofQ (shQ total l i)]) (by first | omega | (simp only [List.length_cons, List.length_nil]; omega)) (by first | omega | (simp only [List.length_cons, List.length_nil]; omega)) ?_)
        intro va11 La11 wa11 hP hS hga11
        refine w_pure rfl rfl (s_asg  rfl ?_)
        refine w_end ?_
        repeat (with_reducible first | refine c_seq ?_ | refine c_block ?_ | refine c_skip ?_ | refine x_then ?_ | refine x_block ?_)
        rw [← tab_succ] at hP
        repeat (with_reducible first | refine c_seq ?_ | refine c_block ?_ | refine c_skip ?_ | refine x_then ?_ | refine x_block ?_)
        refine c_reg ?_
        refine l_pure rfl (s_move  h8 ?_)
        refine l_pure rfl (s_add  rfl rfl (IntWalk.i64_in _ (by omega)) ?_)
        refine l_pure rfl (s_asg  rfl ?_)
        refine l_nil ?_
        repeat (with_reducible first | refine c_seq ?_ | refine c_block ?_ | refine c_skip ?_ | refine x_then ?_ | refine x_block ?_)
        exact ⟨i + 1, _, rfl, ⟨hlt, by assumption, by assumption, by assumption, vi rfl (by omega), ⟨_, _, rfl, hP, hS⟩⟩, by omega⟩
      · refine c_no rfl (decide_eq_false (by omega)) ?_
        repeat (with_reducible first | refine c_seq ?_ | refine c_block ?_ | refine c_skip ?_ | refine x_then ?_ | refine x_block ?_)
        refine c_exit ?_
        repeat (with_reducible first | refine x_then_exit ?_ | refine x_block_exit ?_ | refine x_block_pass rfl ?_)
        repeat (with_reducible first | refine c_seq ?_ | refine c_block ?_ | refine c_skip ?_ | refine x_then ?_ | refine x_block ?_)
        obtain rfl : i = n := by omega
        exact ⟨_, rfl, ⟨_, _, h7, hP, hS⟩⟩
    clear hS
    rintro ρ w4 ⟨sP, LP, h7, hP, hS⟩
    have hslF := hP.sl hS encR_len
    rw [← hshL] at hslF
    repeat (with_reducible first | refine c_seq ?_ | refine c_block ?_ | refine c_skip ?_ | refine x_then ?_ | refine x_block ?_)
    refine c_reg ?_
    refine l_pure rfl (s_move  h7 ?_)
    refine l_heavy rfl (s_call Tryz.call14 rfl (rLargest_ok _ (shL total l) (21 * K + 29) _ hslF (shL_RB h1 h2 hl h20) (by rw [shL_len]; exact h20) (by omega)) ?_)
    rintro r w5 ⟨⟨v', rfl, hv'⟩, hB5⟩
    replace hS := hS.grow hB5
    refine l_pure rfl (s_ext  rfl rfl ?_)
    refine l_pure rfl (s_ext  rfl rfl ?_)
    refine l_pure rfl (s_asg  rfl ?_)
    refine l_pure rfl (s_asg  rfl ?_)
    refine l_nil ?_
    repeat (with_reducible first | refine c_seq ?_ | refine c_block ?_ | refine c_skip ?_ | refine x_then ?_ | refine x_block ?_)
    refine c_ret ?_
    repeat (with_reducible first | refine x_then_ret ?_ | refine x_block_ret ?_)
    refine r_two rfl rfl rfl ?_
    exact ⟨⟨_, rfl, hv'⟩, hS.below⟩
theorem few_RB' {A : List RR} (h : A.all few = true) : RB 24 A := fun r hr => few_Lr (List.all_eq_true.1 h r hr)
theorem ApportionLargest_ok (vr : Value) (raw : List RR) (w : World) (hr : Sl encR 3 w vr raw) :
    Ret Tryz.prog 3 #[vr] w fun v w' => v = .bool true ∧ Below w.heap.size w w' := by
  have hM : MX = 1099511627776 := rfl
  have hS := St.init w
  refine enter Tryz.func3 rfl Tryz.ntmps3 rfl ?_
  repeat (with_reducible first | refine c_seq ?_ | refine c_block ?_ | refine c_skip ?_ | refine x_then ?_ | refine x_block ?_)
  refine c_reg ?_
  refine l_pure rfl (s_asg  rfl ?_)
  refine l_nil ?_
  repeat (with_reducible first | refine c_seq ?_ | refine c_block ?_ | refine c_skip ?_ | refine x_then ?_ | refine x_block ?_)
  refine c_reg ?_
  refine l_pure rfl (s_move  rfl ?_)
  refine l_heavy rfl (s_call Tryz.call11 rfl (FewRats_ok vr raw 20 _ (hr.below hS.below)) ?_)
  rintro _ wc1 ⟨rfl, hBc1⟩
  replace hS := hS.grow hBc1
  refine l_pure rfl (s_not  rfl ?_)
  refine l_nil ?_
  repeat (with_reducible first | refine c_seq ?_ | refine c_block ?_ | refine c_skip ?_ | refine x_then ?_ | refine x_block ?_)
  cases hf : decide ((raw.length : Int) ≤ 20) && raw.all few with
  | false =>
    refine c_yes rfl (rfl) ?_
    repeat (with_reducible first | refine c_seq ?_ | refine c_block ?_ | refine c_skip ?_ | refine x_then ?_ | refine x_block ?_)
    refine c_reg ?_
    refine l_heavy rfl (s_call Tryz.call12 rfl (Aawake_ok _) ?_)
    rintro _ wc2 ⟨rfl, hBc2⟩
    replace hS := hS.grow hBc2
    refine l_pure rfl (s_asg  rfl ?_)
    refine l_nil ?_
    repeat (with_reducible first | refine c_seq ?_ | refine c_block ?_ | refine c_skip ?_ | refine x_then ?_ | refine x_block ?_)
    refine c_ret ?_
    repeat (with_reducible first | refine x_then_ret ?_ | refine x_block_ret ?_)
    refine r_one rfl rfl ?_
    exact ⟨rfl, hS.below⟩
  | true =>
  rw [Bool.and_eq_true, decide_eq_true_eq] at hf
  have hRB := few_RB' hf.2
  refine c_no rfl (rfl) ?_
  repeat (with_reducible first | refine c_seq ?_ | refine c_block ?_ | refine c_skip ?_ | refine x_then ?_ | refine x_block ?_)
  refine c_reg ?_
  refine l_pure rfl (s_move  rfl ?_)
  refine l_heavy rfl (s_call Tryz.call13 rfl (Largest_ok vr raw 24 _ (hr.below hS.below) hRB (by omega) (by omega)) ?_)
  rintro r w2 ⟨⟨va, rfl, hva⟩, hB2⟩
  replace hS := hS.grow hB2
  refine l_pure rfl (s_move  rfl ?_)
  refine l_pure rfl (s_ext  rfl rfl ?_)
  refine l_pure rfl (s_ext  rfl rfl ?_)
  refine l_pure rfl (s_asg  rfl ?_)
  refine l_pure rfl (s_asg  rfl ?_)
  refine l_nil ?_
  repeat (with_reducible first | refine c_seq ?_ | refine c_block ?_ | refine c_skip ?_ | refine x_then ?_ | refine x_block ?_)
  refine c_reg ?_
  refine l_pure rfl (s_move  rfl ?_)
  refine l_heavy rfl (s_call Tryz.call14 rfl (rLargest_ok vr raw 24 _ (hr.below hS.below) hRB (by omega) (by omega)) ?_)
  rintro r w3 ⟨⟨vb_, rfl, hvb⟩, hB3⟩
  replace hS := hS.grow hB3
  replace hva := hva.below hB3
  refine l_pure rfl (s_move  rfl ?_)
  refine l_pure rfl (s_ext  rfl rfl ?_)
  refine l_pure rfl (s_ext  rfl rfl ?_)
  refine l_pure rfl (s_asg  rfl ?_)
  refine l_pure rfl (s_asg  rfl ?_)
  refine l_nil ?_
  repeat (with_reducible first | refine c_seq ?_ | refine c_block ?_ | refine c_skip ?_ | refine x_then ?_ | refine x_block ?_)
  refine c_reg ?_
  refine l_heavy rfl (s_call Tryz.call12 rfl (Aawake_ok _) ?_)
  rintro r wa ⟨rfl, hBa⟩
  replace hS := hS.grow hBa
  replace hva := hva.below hBa
  replace hvb := hvb.below hBa
  refine l_pure rfl (s_move  rfl ?_)
  refine l_pure (gd_yes 22 (by kernel_rfl) rfl rfl) (s_move  rfl ?_)
  refine l_pure (gd_yes 22 (by kernel_rfl) rfl rfl) (s_move  rfl ?_)
  refine l_heavy (gd_yes 22 (by kernel_rfl) rfl rfl) (s_call Tryz.call15 rfl (same_ok _ _ _ _ _ hva hvb) ?_)
  rintro r w6 ⟨rfl, hB6⟩
  replace hS := hS.grow hB6
  refine l_pure rfl (s_pick (vb rfl rfl) rfl ?_)
  refine l_pure rfl (s_move  rfl ?_)
  refine l_pure (gd_yes 27 (by kernel_rfl) rfl (decide_eq_true rfl)) (s_move  rfl ?_)
  refine l_pure (gd_yes 27 (by kernel_rfl) rfl (decide_eq_true rfl)) (s_move  rfl ?_)
  refine l_pure (gd_yes 27 (by kernel_rfl) rfl (decide_eq_true rfl)) (s_eql  rfl rfl ?_)
  refine l_pure rfl (s_pick (vb rfl (decide_eq_true rfl)) rfl ?_)
  refine l_pure rfl (s_asg  rfl ?_)
  refine l_nil ?_
  repeat (with_reducible first | refine c_seq ?_ | refine c_block ?_ | refine c_skip ?_ | refine x_then ?_ | refine x_block ?_)
  refine c_ret ?_
  repeat (with_reducible first | refine x_then_ret ?_ | refine x_block_ret ?_)
  refine r_one rfl rfl ?_
  exact ⟨vb rfl (decide_eq_true rfl), hS.below⟩
theorem ApportionSplit_ok (total : Int) (vr : Value) (raw : List RR) (w : World) (h1 : -9223372036854775808 ≤ total) (h2 : total ≤ 9223372036854775807) (hr : Sl encR 3 w vr raw) :
    Ret Tryz.prog 4 #[.int .i64 total, vr] w fun v w' => v = .bool true ∧ Below w.heap.size w w' := by
  have hM : MX = 1099511627776 := rfl
  have hS := St.init w
  refine enter Tryz.func4 rfl Tryz.ntmps4 rfl ?_
  repeat (with_reducible first | refine c_seq ?_ | refine c_block ?_ | refine c_skip ?_ | refine x_then ?_ | refine x_block ?_)
  refine c_reg ?_
  refine l_pure rfl (s_asg  rfl ?_)
  refine l_nil ?_
  repeat (with_reducible first | refine c_seq ?_ | refine c_block ?_ | refine c_skip ?_ | refine x_then ?_ | refine x_block ?_)
  refine c_reg ?_
  refine l_pure rfl (s_move  rfl ?_)
  refine l_heavy rfl (s_call Tryz.call11 rfl (FewRats_ok vr raw 20 _ (hr.below hS.below)) ?_)
  rintro _ wc1 ⟨rfl, hBc1⟩
  replace hS := hS.grow hBc1
  refine l_pure rfl (s_not  rfl ?_)
  refine l_nil ?_
  repeat (with_reducible first | refine c_seq ?_ | refine c_block ?_ | refine c_skip ?_ | refine x_then ?_ | refine x_block ?_)
  cases hf : decide ((raw.length : Int) ≤ 20) && raw.all few with
  | false =>
    refine c_yes rfl (rfl) ?_
    repeat (with_reducible first | refine c_seq ?_ | refine c_block ?_ | refine c_skip ?_ | refine x_then ?_ | refine x_block ?_)
    refine c_reg ?_
    refine l_heavy rfl (s_call Tryz.call12 rfl (Aawake_ok _) ?_)
    rintro _ wc2 ⟨rfl, hBc2⟩
    replace hS := hS.grow hBc2
    refine l_pure rfl (s_asg  rfl ?_)
    refine l_nil ?_
    repeat (with_reducible first | refine c_seq ?_ | refine c_block ?_ | refine c_skip ?_ | refine x_then ?_ | refine x_block ?_)
    refine c_ret ?_
    repeat (with_reducible first | refine x_then_ret ?_ | refine x_block_ret ?_)
    refine r_one rfl rfl ?_
    exact ⟨rfl, hS.below⟩
  | true =>
  rw [Bool.and_eq_true, decide_eq_true_eq] at hf
  have hRB := few_RB' hf.2
  refine c_no rfl (rfl) ?_
  repeat (with_reducible first | refine c_seq ?_ | refine c_block ?_ | refine c_skip ?_ | refine x_then ?_ | refine x_block ?_)
  refine c_reg ?_
  refine l_pure rfl (s_move  rfl ?_)
  refine l_pure rfl (s_move  rfl ?_)
  refine l_heavy rfl (s_call Tryz.call16 rfl (Split_ok total vr raw 24 _ h1 h2 (hr.below hS.below) hRB (by omega) (by omega)) ?_)
  rintro r w2 ⟨⟨va, rfl, hva⟩, hB2⟩
  replace hS := hS.grow hB2
  refine l_pure rfl (s_move  rfl ?_)
  refine l_pure rfl (s_ext  rfl rfl ?_)
  refine l_pure rfl (s_ext  rfl rfl ?_)
  refine l_pure rfl (s_asg  rfl ?_)
  refine l_pure rfl (s_asg  rfl ?_)
  refine l_nil ?_
  repeat (with_reducible first | refine c_seq ?_ | refine c_block ?_ | refine c_skip ?_ | refine x_then ?_ | refine x_block ?_)
  refine c_reg ?_
  refine l_pure rfl (s_move  rfl ?_)
  refine l_pure rfl (s_move  rfl ?_)
  refine l_heavy rfl (s_call Tryz.call17 rfl (rSplit_ok total vr raw 24 _ h1 h2 (hr.below hS.below) hRB (by omega) (by omega)) ?_)
  rintro r w3 ⟨⟨vb_, rfl, hvb⟩, hB3⟩
  replace hS := hS.grow hB3
  replace hva := hva.below hB3
  refine l_pure rfl (s_move  rfl ?_)
  refine l_pure rfl (s_ext  rfl rfl ?_)
  refine l_pure rfl (s_ext  rfl rfl ?_)
  refine l_pure rfl (s_asg  rfl ?_)
  refine l_pure rfl (s_asg  rfl ?_)
  refine l_nil ?_
  repeat (with_reducible first | refine c_seq ?_ | refine c_block ?_ | refine c_skip ?_ | refine x_then ?_ | refine x_block ?_)
  refine c_reg ?_
  refine l_heavy rfl (s_call Tryz.call12 rfl (Aawake_ok _) ?_)
  rintro r wa ⟨rfl, hBa⟩
  replace hS := hS.grow hBa
  replace hva := hva.below hBa
  replace hvb := hvb.below hBa
  refine l_pure rfl (s_move  rfl ?_)
  refine l_pure (gd_yes 26 (by kernel_rfl) rfl rfl) (s_move  rfl ?_)
  refine l_pure (gd_yes 26 (by kernel_rfl) rfl rfl) (s_move  rfl ?_)
  refine l_heavy (gd_yes 26 (by kernel_rfl) rfl rfl) (s_call Tryz.call15 rfl (same_ok _ _ _ _ _ hva hvb) ?_)
  rintro r w6 ⟨rfl, hB6⟩
  replace hS := hS.grow hB6
  refine l_pure rfl (s_pick (vb rfl rfl) rfl ?_)
  refine l_pure rfl (s_move  rfl ?_)
  refine l_pure (gd_yes 31 (by kernel_rfl) rfl (decide_eq_true rfl)) (s_move  rfl ?_)
  refine l_pure (gd_yes 31 (by kernel_rfl) rfl (decide_eq_true rfl)) (s_move  rfl ?_)
  refine l_pure (gd_yes 31 (by kernel_rfl) rfl (decide_eq_true rfl)) (s_eql  rfl rfl ?_)
  refine l_pure rfl (s_pick (vb rfl (decide_eq_true rfl)) rfl ?_)
  refine l_pure rfl (s_asg  rfl ?_)
  refine l_nil ?_
  repeat (with_reducible first | refine c_seq ?_ | refine c_block ?_ | refine c_skip ?_ | refine x_then ?_ | refine x_block ?_)
  refine c_ret ?_
  repeat (with_reducible first | refine x_then_ret ?_ | refine x_block_ret ?_)
  refine r_one rfl rfl ?_
  exact ⟨vb rfl (decide_eq_true rfl), hS.below⟩
end Go.Proofs.YtmapmdldlcfjhaaGreatDoor
