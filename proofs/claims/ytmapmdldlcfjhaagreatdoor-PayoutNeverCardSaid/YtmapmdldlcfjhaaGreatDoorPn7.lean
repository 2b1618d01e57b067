/-
  Part 7 of the texts that the law's proof is made of: the framework and the walks.
-/
import Derived.Test.YtmapmdldlcfjhaaGreatDoorPn6
namespace Go.Proofs.YtmapmdldlcfjhaaGreatDoor
open Go Go.RowKit Go.Sx
set_option maxHeartbeats 1000000 in
theorem Pawake_ok (w : World) :
    Ret Tryz.prog 19 #[] w fun v w' => v = .bool true ∧ Below w.heap.size w w' := by
  have hM : MX = 1099511627776 := rfl
  have hb3 : RB 1 T3 := fun x hx => by
    have : x = Q13 := by
      simp only [T3, List.mem_cons, List.not_mem_nil, or_false] at hx
      rcases hx with h | h | h <;> exact h
    rw [this]; exact RB_Q13
  have hb1 : RB 1 T1 := fun x hx => by
    have : x = Q13 := by
      simp only [T1, List.mem_cons, List.not_mem_nil, or_false] at hx
      exact hx
    rw [this]; exact RB_Q13
  have hS := St.init w
  refine enter Tryz.func19 rfl Tryz.ntmps19 rfl ?_
  repeat (with_reducible first | refine c_seq ?_ | refine c_block ?_ | refine c_skip ?_ | refine x_then ?_ | refine x_block ?_)
  refine c_reg ?_
  refine l_pure rfl (s_asg  rfl ?_)
  refine l_nil ?_
  repeat (with_reducible first | refine c_seq ?_ | refine c_block ?_ | refine c_skip ?_ | refine x_then ?_ | refine x_block ?_)
  refine c_reg ?_
  refine l_heavy rfl (s_call Tryz.call37 rfl (Ratio_ok 1 3 _ (by decide) (by decide) (by decide) (by decide)) ?_)
  rintro r w1 ⟨rfl, hB1⟩
  replace hS := hS.grow hB1
  refine l_heavy rfl (s_alloc  vi_37 hS ?_)
  intro b1 wz1 hS hBz1
  refine l_heavy rfl (s_sta (k := 0)  rfl rfl vi_37 hS rfl rfl rfl (Nat.le_of_ble_eq_true rfl) rfl ?_)
  intro wz2 hS
  refine l_nil ?_
  repeat (with_reducible first | refine c_seq ?_ | refine c_block ?_ | refine c_skip ?_ | refine x_then ?_ | refine x_block ?_)
  replace hS : St w _ [(b1, 37, encR Q13)] := hS
  repeat (with_reducible first | refine c_seq ?_ | refine c_block ?_ | refine c_skip ?_ | refine x_then ?_ | refine x_block ?_)
  refine c_reg ?_
  refine l_read rfl (s_ldo (k := 0)  rfl vi_37 hS rfl rfl rfl (.inl rfl) ?_)
  refine l_read rfl (s_ldo (k := 0)  rfl vi_37 hS rfl rfl rfl (.inl rfl) ?_)
  refine l_read rfl (s_ldo (k := 0)  rfl vi_37 hS rfl rfl rfl (.inl rfl) ?_)
  refine l_heavy rfl (s_bsl (vs := [aggR Q13, aggR Q13, aggR Q13])  rfl si_22 rfl (by decide) (by decide) (by decide) (by simp [Value.cells, aggR]) rfl hS ?_)
  intro b11 wz3 hS hBz3
  replace hS : St w _ [(b11, 37, T3.flatMap encR), (b1, 37, encR Q13)] := hS
  have hT := hS.sle (k := 0) (L := T3) (n := 3) (cap := 3) rfl encR_len (by decide) (by decide) (by decide)
  refine l_heavy rfl (s_call Tryz.call24 rfl (RoundR_ok _ T3 1 _ hT hb3 (by decide) (by omega)) ?_)
  rintro r w2 ⟨⟨va, rfl, hva⟩, hB2⟩
  rw [rE_T3]
  rw [rL_T3] at hva
  replace hS := hS.grow hB2
  refine l_pure rfl (s_move  rfl ?_)
  refine l_pure rfl (s_ext  rfl rfl ?_)
  refine l_pure rfl (s_ext  rfl rfl ?_)
  refine l_pure rfl (s_asg  rfl ?_)
  refine l_pure rfl (s_asg  rfl ?_)
  refine l_nil ?_
  repeat (with_reducible first | refine c_seq ?_ | refine c_block ?_ | refine c_skip ?_ | refine x_then ?_ | refine x_block ?_)
  refine c_reg ?_
  refine l_heavy rfl (s_bsl (vs := [.int .i64 33])  rfl si_25 rfl (by decide) (by decide) (by decide) (by simp [Value.cells]) rfl hS ?_)
  intro b16 wz4 hS hBz4
  refine l_read rfl (s_ldo (k := 2)  rfl vi_37 hS rfl rfl rfl (.inl rfl) ?_)
  refine l_heavy rfl (s_bsl (vs := [aggR Q13])  rfl si_22 rfl (by decide) (by decide) (by decide) (by simp [Value.cells, aggR]) rfl hS ?_)
  intro b18 wz5 hS hBz5
  have hBm := (bt hBz4 hBz5)
  replace hS : St w _ [(b18, 37, T1.flatMap encR), (b16, 2, [(33 : Int)].flatMap enI), (b11, 37, T3.flatMap encR), (b1, 37, encR Q13)] := hS
  have hT1 := hS.sle (k := 0) (L := T1) (n := 1) (cap := 1) rfl encR_len (by decide) (by decide) (by decide)
  have hP1 := hS.sle (k := 1) (L := [(33 : Int)]) (n := 1) (cap := 1) rfl enI_len (by decide) (by decide) (by decide)
  replace hva := hva.below hBm
  refine l_heavy rfl (s_call Tryz.call32 rfl (Last_ok _ _ [33] T1 1 _ hP1 (fun x hx => by rw [List.mem_singleton.1 hx]; decide) hT1 hb1 (by decide) (by omega)) ?_)
  rintro r w4 ⟨⟨vb_, rfl, hvb⟩, hB4⟩
  rw [lE_T1]
  rw [lL_T1] at hvb
  replace hS := hS.grow hB4
  replace hva := hva.below hB4
  refine l_pure rfl (s_move  rfl ?_)
  refine l_pure rfl (s_ext  rfl rfl ?_)
  refine l_pure rfl (s_ext  rfl rfl ?_)
  refine l_pure rfl (s_asg  rfl ?_)
  refine l_pure rfl (s_asg  rfl ?_)
  refine l_nil ?_
  repeat (with_reducible first | refine c_seq ?_ | refine c_block ?_ | refine c_skip ?_ | refine x_then ?_ | refine x_block ?_)
  refine c_reg ?_
  refine l_pure rfl (s_move  rfl ?_)
  refine l_pure rfl (s_eql  rfl rfl ?_)
  refine l_pure rfl (s_move  rfl ?_)
  refine l_pure (gd_yes 24 (by kernel_rfl) rfl rfl) (s_move  rfl ?_)
  refine l_pure (gd_yes 24 (by kernel_rfl) rfl rfl) (s_eql  rfl rfl ?_)
  refine l_pure rfl (s_pick (vb rfl rfl) rfl ?_)
  refine l_pure rfl (s_move  rfl ?_)
  refine l_pure (gd_yes 28 (by kernel_rfl) rfl rfl) (s_move  rfl ?_)
  refine l_heavy (gd_yes 28 (by kernel_rfl) rfl rfl) (s_bsl (vs := [.int .i64 34, .int .i64 33, .int .i64 33])  rfl si_25 rfl (by decide) (by decide) (by decide) (by simp [Value.cells]) rfl hS ?_)
  intro b30 wz6 hS hBz6
  have hBn := hBz6
  replace hS : St w _ [(b30, 2, [(34 : Int), 33, 33].flatMap enI), (b18, 37, T1.flatMap encR), (b16, 2, [(33 : Int)].flatMap enI), (b11, 37, T3.flatMap encR), (b1, 37, encR Q13)] := hS
  have hC1 := hS.sle (k := 0) (L := [(34 : Int), 33, 33]) (n := 3) (cap := 3) rfl enI_len (by decide) (by decide) (by decide)
  replace hva := hva.below hBn
  replace hvb := hvb.below hBn
  refine l_heavy (gd_yes 28 (by kernel_rfl) rfl rfl) (s_call Tryz.call26 rfl (SameCents_ok _ _ [34, 33, 33] [34, 33, 33] _ hva hC1) ?_)
  rintro r w5 ⟨rfl, hB5⟩
  replace hS := hS.grow hB5
  replace hvb := hvb.below hB5
  refine l_pure rfl (s_pick (vb rfl rfl) rfl ?_)
  refine l_pure rfl (s_move  rfl ?_)
  refine l_pure (gd_yes 33 (by kernel_rfl) rfl (decide_eq_true rfl)) (s_move  rfl ?_)
  refine l_heavy (gd_yes 33 (by kernel_rfl) rfl (decide_eq_true rfl)) (s_bsl (vs := [.int .i64 0])  rfl si_25 rfl (by decide) (by decide) (by decide) (by simp [Value.cells]) rfl hS ?_)
  intro b35 wz7 hS hBz7
  have hBo := hBz7
  replace hS : St w _ [(b35, 2, [(0 : Int)].flatMap enI), (b30, 2, [(34 : Int), 33, 33].flatMap enI), (b18, 37, T1.flatMap encR), (b16, 2, [(33 : Int)].flatMap enI), (b11, 37, T3.flatMap encR), (b1, 37, encR Q13)] := hS
  have hC2 := hS.sle (k := 0) (L := [(0 : Int)]) (n := 1) (cap := 1) rfl enI_len (by decide) (by decide) (by decide)
  replace hvb := hvb.below hBo
  refine l_heavy (gd_yes 33 (by kernel_rfl) rfl (decide_eq_true rfl)) (s_call Tryz.call26 rfl (SameCents_ok _ _ [0] [0] _ hvb hC2) ?_)
  rintro r w6 ⟨rfl, hB6⟩
  replace hS := hS.grow hB6
  refine l_pure rfl (s_pick (vb rfl (decide_eq_true rfl)) rfl ?_)
  refine l_pure rfl (s_asg  rfl ?_)
  refine l_nil ?_
  repeat (with_reducible first | refine c_seq ?_ | refine c_block ?_ | refine c_skip ?_ | refine x_then ?_ | refine x_block ?_)
  refine c_ret ?_
  repeat (with_reducible first | refine x_then_ret ?_ | refine x_block_ret ?_)
  refine r_one rfl rfl ?_
  exact ⟨vb rfl (decide_eq_true rfl), hS.below⟩
end Go.Proofs.YtmapmdldlcfjhaaGreatDoor
namespace Go.Proofs.YtmapmdldlcfjhaaGreatDoor
open Go Go.RowKit Go.Sx
theorem amtQ_le (x : Nat) : amtQ x ≤ ((30 : Int) : Rat) := by
  unfold amtQ
  split
  · refine Rat.not_lt.1 fun h => ?_
    rw [Rat.mkRat_eq_div, Rat.lt_div_iff (Rat.natCast_pos.2 (by omega))] at h
    have h2 : (((30 * (1 + x / 115 % 6) : Nat) : Int) : Rat) < (((x / 5 % 23 : Nat) : Int) : Rat) := by
      rw [Int.natCast_mul, Rat.intCast_mul]
      exact h
    have := Rat.intCast_lt_intCast.1 h2
    omega
  · split
    · exact Rat.intCast_le_intCast.2 (by omega)
    · exact Rat.intCast_le_intCast.2 (by omega)
theorem amts_get (l : List Nat) (n i : Nat) : ∃ x, toQ ((amts l n).getD i zRR) = amtQ x := by
  by_cases hi : i < (amts l n).length
  · obtain ⟨x, _, e⟩ := List.mem_map.1 (getD_mem (amts l n) i zRR hi)
    exact ⟨x, by rw [← e]; exact toQ_ofQ _⟩
  · refine ⟨1, ?_⟩
    rw [List.getD_eq_getElem?_getD, List.getElem?_eq_none (by omega)]
    show toQ zRR = amtQ 1
    rw [toQ_zRR]; decide +kernel
theorem amts_negs (l : List Nat) (n : Nat) : negs (amts l n) = false := by
  unfold negs
  rw [List.any_eq_false]
  intro r hr
  obtain ⟨x, _, rfl⟩ := List.mem_map.1 hr
  have := amtQ_nonneg x
  unfold amR
  rw [toQ_ofQ, decide_eq_true_eq]
  exact Rat.not_lt.2 this
theorem amts_rE (l : List Nat) (n : Nat) (hn : n ≤ 20) : rE (amts l n) = 0 := by
  have hl := amts_len l n
  have hs : sumQ ((amts l n).map toQ) ≤ ((30 * (amts l n).length : Nat) : Int) := by
    rw [sumR_list]
    have key : ∀ k, sumR (fun i => toQ ((amts l n).getD i zRR)) k ≤ (((30 * k : Nat) : Int) : Rat) := by
      intro k
      induction k with
      | zero => exact Rat.le_refl
      | succ k ih =>
        rw [sumR_succ]
        obtain ⟨x, hx⟩ := amts_get l n k
        have h1 := amtQ_le x
        rw [← hx] at h1
        have e : (((30 * (k + 1) : Nat) : Int) : Rat) = (((30 * k : Nat) : Int) : Rat) + ((30 : Int) : Rat) := by
          rw [← Rat.intCast_add]; congr 1
        rw [e]
        grind
    exact key _
  have h0 : 0 ≤ sumQ ((amts l n).map toQ) := by
    rw [sumR_list]
    exact sumR_nonneg fun i _ => negs_get (amts_negs l n) i
  have hf : flC (sumQ ((amts l n).map toQ)) ≤ 60000 := by
    have h1 : hdQ (sumQ ((amts l n).map toQ)) ≤ ((60000 : Int) : Rat) := by
      have h2 : sumQ ((amts l n).map toQ) ≤ ((600 : Int) : Rat) := Rat.le_trans hs (Rat.intCast_le_intCast.2 (by omega))
      have h3 : hdQ (sumQ ((amts l n).map toQ)) ≤ ((600 : Int) : Rat) * h100 := Rat.mul_le_mul_of_nonneg_right h2 (by decide)
      have h4 : ((600 : Int) : Rat) * h100 = ((60000 : Int) : Rat) := by decide +kernel
      rw [← h4]; exact h3
    have := Rat.floor_monotone h1
    rwa [Rat.floor_intCast] at this
  have hm : mxC = 1125899906842624 := rfl
  unfold rE
  rw [if_neg (by omega), amts_negs, if_neg (by decide)]
  unfold cE
  rw [if_neg (Rat.not_lt.2 h0), if_neg (by omega)]
theorem cN_amts {l : List RR} (h : rE l = 0) {i : Nat} (hi : i < l.length) : cE (toQ (l.getD i zRR)) = 0 ∧ cN (toQ (l.getD i zRR)) = baQ (qC l) i := by
  have h1 := baC_bound h hi
  obtain ⟨hn, _, _, _, hm, _⟩ := rE_zero h
  have h3 := negs_get hn i
  have h2 : flC (toQ (l.getD i zRR)) = baQ (qC l) i := rfl
  have : cE (toQ (l.getD i zRR)) = 0 := by unfold cE; rw [if_neg (Rat.not_lt.2 h3), h2, if_neg (by omega)]
  refine ⟨this, ?_⟩
  unfold cN
  rw [if_pos this, h2]
set_option maxHeartbeats 2000000 in
theorem PayoutExact_ok (vl : Value) (l : List Nat) (w : World) (hl : Sl (uk .u16) 1 w vl l) (hlb : ∀ x ∈ l, x < 65536) :
    Ret Tryz.prog 7 #[vl] w fun v w' => v = .bool true ∧ Below w.heap.size w w' := by
  have hM : MX = 1099511627776 := rfl
  have hmC : mxC = 1125899906842624 := rfl
  have hS := St.init w
  have hr0 := amts_rE l 12 (by decide)
  obtain ⟨ws, hws⟩ : ∃ ws, ws = amts l 12 := ⟨_, rfl⟩
  have hRB : RB 1 ws := by rw [hws]; exact amts_RB l 12
  have hwl : ws.length ≤ 12 := by rw [hws, amts_len]; omega
  rw [← hws] at hr0
  have hrl : rL ws = tab ws.length (resC ws) := if_pos hr0
  obtain ⟨hng, hcE0, hs0, hfl0, hflm, _⟩ := rE_zero hr0
  have hsl := sumL_le hRB
  have hsl2 : ws.length * (1 + 1) ≤ 12 * (1 + 1) := Nat.mul_le_mul_right _ hwl
  have hLs := L_sumQ ws
  have hcN0 : cN (sumQ (ws.map toQ)) = flC (sumQ (ws.map toQ)) := by unfold cN; rw [if_pos hcE0]
  have hcn := fun i hi => cN_amts hr0 (i := i) hi
  have hrb := fun i hi => resC_bound hr0 (i := i) hi
  have hbb := fun i hi => baC_bound hr0 (i := i) hi
  have hor := fun i => res_or (ordC_ord ws) i
  have htot := res_sum (ordC_ord ws)
  rw [qC_sum] at htot
  obtain ⟨n, hn⟩ : ∃ n, n = ws.length := ⟨_, rfl⟩
  obtain ⟨res, hre⟩ : ∃ f, f = resC ws := ⟨_, rfl⟩
  obtain ⟨ba, hba⟩ : ∃ f, f = baQ (qC ws) := ⟨_, rfl⟩
  have hre2 : resQ (qC ws) (ordC ws) ws.length = res := by rw [hre]; rfl
  rw [hre2] at hor htot
  rw [← hre, ← hn] at hrl hrb
  rw [← hba] at hcn hbb hor
  rw [← hn] at hcn hbb htot
  replace htot : sumZ res n = flC (sumQ (ws.map toQ)) := htot
  have hfr : ∀ i, i < n → ((100 : Int) : Rat) * toQ (ws.getD i zRR) = ((ba i : Int) : Rat) → frQ (qC ws) i = 0 := fun i _ g => by
    have e : qC ws i = ((ba i : Int) : Rat) := by rw [← g, Rat.mul_comm]; rfl
    unfold frQ
    rw [e, Rat.floor_intCast]; grind
  have htl := tab_len n res
  have hsr : ∀ i, i ≤ n → 0 ≤ sumZ res i ∧ sumZ res i ≤ flC (sumQ (ws.map toQ)) := fun i hi => by
    rw [← htot]
    exact ⟨sumZ_nonneg fun j hj => (hrb j (by omega)).1, sumZ_mono (fun j hj => (hrb j hj).1) hi⟩
  obtain ⟨s, hs⟩ : ∃ s, s = sumQ (ws.map toQ) := ⟨_, rfl⟩
  rw [← hs] at hLs hcN0 hcE0 htot hsr hflm hfl0 hbb
  obtain ⟨T, hT⟩ : ∃ T, T = flC s := ⟨_, rfl⟩
  rw [← hT] at hcN0 htot hsr hflm hfl0 hbb
  have hcs := fun w => Cents_ok (ofQ s) w (by rw [Lr_ofQ]; omega)
  rw [toQ_ofQ, hcN0, hcE0] at hcs
  refine enter Tryz.func7 rfl Tryz.ntmps7 rfl ?_
  repeat (with_reducible first | refine c_seq ?_ | refine c_block ?_ | refine c_skip ?_ | refine x_then ?_ | refine x_block ?_)
  refine c_reg ?_
  refine l_pure rfl (s_asg  rfl ?_)
  refine l_nil ?_
  repeat (with_reducible first | refine c_seq ?_ | refine c_block ?_ | refine c_skip ?_ | refine x_then ?_ | refine x_block ?_)
  refine c_reg ?_
  refine l_pure rfl (s_move  rfl ?_)
  refine l_heavy rfl (s_call Tryz.call23 rfl (Amounts_ok vl l 12 _ (hl.below hS.below) hlb (by decide)) ?_)
  rintro x w1 ⟨hvx, hB1⟩
  rw [← hws] at hvx
  replace hS := hS.grow hB1
  refine l_pure rfl (s_asg  rfl ?_)
  refine l_nil ?_
  repeat (with_reducible first | refine c_seq ?_ | refine c_block ?_ | refine c_skip ?_ | refine x_then ?_ | refine x_block ?_)
  refine c_reg ?_
  refine l_pure rfl (s_move  rfl ?_)
  refine l_heavy rfl (s_call Tryz.call24 rfl (RoundR_ok x ws 1 _ hvx hRB (by omega) (by omega)) ?_)
  rintro r w2 ⟨⟨va, rfl, hva⟩, hB2⟩
  rw [hr0]
  rw [hrl] at hva
  replace hS := hS.grow hB2
  replace hvx := hvx.below hB2
  refine l_pure rfl (s_move  rfl ?_)
  refine l_pure rfl (s_ext  rfl rfl ?_)
  refine l_pure rfl (s_ext  rfl rfl ?_)
  refine l_pure rfl (s_asg  rfl ?_)
  refine l_pure rfl (s_asg  rfl ?_)
  refine l_nil ?_
  repeat (with_reducible first | refine c_seq ?_ | refine c_block ?_ | refine c_skip ?_ | refine x_then ?_ | refine x_block ?_)
  refine c_reg ?_
  refine l_pure rfl (s_move  rfl ?_)
  refine l_heavy rfl (s_call Tryz.call27 rfl (rSum_ok x ws _ hvx (by omega)) ?_)
  rintro r w3 ⟨rfl, hB3⟩
  rw [← hs]
  replace hS := hS.grow hB3
  replace hvx := hvx.below hB3
  replace hva := hva.below hB3
  refine l_heavy rfl (s_call Tryz.call20 rfl (hcs _) ?_)
  rintro r w4 ⟨rfl, hB4⟩
  replace hS := hS.grow hB4
  replace hvx := hvx.below hB4
  replace hva := hva.below hB4
  have hW := hS.below
  clear hS
  have hS := St.init w4
  refine l_pure rfl (s_move  rfl ?_)
  refine l_pure rfl (s_ext  rfl rfl ?_)
  refine l_pure rfl (s_ext  rfl rfl ?_)
  refine l_pure rfl (s_asg  rfl ?_)
  refine l_pure rfl (s_asg  rfl ?_)
  refine l_nil ?_
  repeat (with_reducible first | refine c_seq ?_ | refine c_block ?_ | refine c_skip ?_ | refine x_then ?_ | refine x_block ?_)
  refine c_reg ?_
  refine l_pure rfl (s_move  rfl ?_)
  refine l_pure rfl (s_neq  rfl rfl ?_)
  refine l_pure rfl (s_move  rfl ?_)
  refine l_pure (gd_yes 28 (by kernel_rfl) rfl rfl) (s_move  rfl ?_)
  refine l_pure (gd_yes 28 (by kernel_rfl) rfl rfl) (s_neq  rfl rfl ?_)
  refine l_pure rfl (s_pick (vb rfl rfl) rfl ?_)
  refine l_pure rfl (s_move  rfl ?_)
  refine l_pure (gd_yes 32 (by kernel_rfl) rfl rfl) (s_move  rfl ?_)
  refine l_pure (gd_yes 32 (by kernel_rfl) rfl rfl) (s_lenr  rfl (hva.below hS.below) ⟨_, Tryz.underlying25⟩ ?_)
  refine l_pure (gd_yes 32 (by kernel_rfl) rfl rfl) (s_move  rfl ?_)
  refine l_pure (gd_yes 32 (by kernel_rfl) rfl rfl) (s_lenr  rfl (hvx.below hS.below) ⟨_, Tryz.underlying22⟩ ?_)
  refine l_pure (gd_yes 32 (by kernel_rfl) rfl rfl) (s_neq  rfl rfl ?_)
  refine l_pure rfl (s_pick (vb rfl rfl) rfl ?_)
  refine l_nil ?_
  repeat (with_reducible first | refine c_seq ?_ | refine c_block ?_ | refine c_skip ?_ | refine x_then ?_ | refine x_block ?_)
  refine c_no rfl (decide_eq_false (by omega)) ?_
  repeat (with_reducible first | refine c_seq ?_ | refine c_block ?_ | refine c_skip ?_ | refine x_then ?_ | refine x_block ?_)
  refine c_reg ?_
  refine l_pure rfl (s_asg  rfl ?_)
  refine l_nil ?_
  repeat (with_reducible first | refine c_seq ?_ | refine c_block ?_ | refine c_skip ?_ | refine x_then ?_ | refine x_block ?_)
  refine c_reg ?_
  refine l_pure rfl (s_asg  rfl ?_)
  refine l_nil ?_
  repeat (with_reducible first | refine c_seq ?_ | refine c_block ?_ | refine c_skip ?_ | refine x_then ?_ | refine x_block ?_)
  refine c_loop (σ := Nat) (fun i ρ w' => i ≤ n ∧ ρ 3 = x ∧ ρ 4 = va ∧ ρ 6 = .int .i64 T ∧ ρ 8 = .int .i64 (sumZ res i) ∧ ρ 9 = .int .i64 i ∧ St w4 w' []) (fun i => n - i) 0
    ⟨Nat.zero_le _, rfl, rfl, rfl, rfl, rfl, hS⟩ ?_
  clear hS
  rintro i ρ w5 ⟨hi, h3, h4, h6, h8, h9, hS⟩
  repeat (with_reducible first | refine c_seq ?_ | refine c_block ?_ | refine c_skip ?_ | refine x_then ?_ | refine x_block ?_)
  refine c_reg ?_
  refine l_pure rfl (s_move  h9 ?_)
  refine l_pure rfl (s_move  h4 ?_)
  refine l_pure rfl (s_lenr  rfl (hva.below hS.below) ⟨_, Tryz.underlying25⟩ ?_)
  refine l_pure rfl (s_lss  rfl rfl ?_)
  refine l_nil ?_
  repeat (with_reducible first | refine c_seq ?_ | refine c_block ?_ | refine c_skip ?_ | refine x_then ?_ | refine x_block ?_)
  by_cases hlt : i < n
  · refine c_yes rfl (decide_eq_true (by omega)) ?_
    repeat (with_reducible first | refine c_seq ?_ | refine c_block ?_ | refine c_skip ?_ | refine x_then ?_ | refine x_block ?_)
    obtain ⟨c1, c2⟩ := hcn i hlt
    obtain ⟨wi, hwi⟩ : ∃ q, q = ws.getD i zRR := ⟨_, rfl⟩
    have hLw : Lr wi ≤ 1 := by rw [hwi]; exact hRB _ (getD_mem ws i zRR (by omega))
    have hLw2 := L_toQ wi
    rw [← hwi] at c1 c2
    have hci := fun w => Cents_ok wi w (by omega)
    rw [c1, c2] at hci
    have hrbi := hrb i hlt
    have hbbi := hbb i hlt
    have hgr : (tab n res).getD i 0 = res i := tab_get _ _ hlt
    have hwh := hfr i hlt
    rw [← hwi] at hwh
    obtain ⟨sr1, sr2⟩ := hsr (i + 1) (by omega)
    have hss : sumZ res (i + 1) = sumZ res i + res i := rfl
    have hLba : L ((ba i : Int) : Rat) ≤ 8 := by
      refine L_int _ ?_ (by decide)
      have : (256 : Nat) ^ 8 = 18446744073709551616 := by decide
      omega
    have hL100 : L ((100 : Int) : Rat) ≤ 1 := L_h100
    have hLm := L_mul ((100 : Int) : Rat) (toQ wi)
    have hwo := fun w => Whole_ok 100 w (by decide) (by decide)
    have hmu := fun w => rMultiply_ok (ofQ ((100 : Int) : Rat)) wi w (by rw [Lr_ofQ]; omega)
    rw [toQ_ofQ] at hmu
    have hin := fun w => rInt_ok (ba i) w (by omega) (by omega)
    have hcm := fun w => rCompare_ok (ofQ (((100 : Int) : Rat) * toQ wi)) (ofQ ((ba i : Int) : Rat)) w (by rw [Lr_ofQ, Lr_ofQ]; omega)
    rw [toQ_ofQ, toQ_ofQ] at hcm
    obtain ⟨c, hc⟩ : ∃ c, c = cmpQ (((100 : Int) : Rat) * toQ wi) ((ba i : Int) : Rat) := ⟨_, rfl⟩
    rw [← hc] at hcm
    repeat (with_reducible first | refine c_seq ?_ | refine c_block ?_ | refine c_skip ?_ | refine x_then ?_ | refine x_block ?_)
    refine c_reg ?_
    refine l_pure rfl (s_move  h3 ?_)
    refine l_pure rfl (s_move  h9 ?_)
    refine l_pure rfl (s_ixr (i := i)  rfl rfl (hvx.below hS.below) (by omega) (by first | omega | (simp; done) | (simp; omega)) si_22 ?_)
    refine l_read rfl (s_lde (i := i) zRR  rfl vi_37 (hvx.below hS.below) (by first | omega | (simp; done) | (simp; omega)) rfl rfl (.inl rfl) ?_)
    rw [← hwi]
    refine l_heavy rfl (s_call Tryz.call20 rfl (hci _) ?_)
    rintro _ wc1 ⟨rfl, hBc1⟩
    replace hS := hS.grow hBc1
    refine l_pure rfl (s_move  rfl ?_)
    refine l_pure rfl (s_ext  rfl rfl ?_)
    refine l_pure rfl (s_ext  rfl rfl ?_)
    refine l_pure rfl (s_asg  rfl ?_)
    refine l_pure rfl (s_asg  rfl ?_)
    refine l_nil ?_
    repeat (with_reducible first | refine c_seq ?_ | refine c_block ?_ | refine c_skip ?_ | refine x_then ?_ | refine x_block ?_)
    refine c_draw [(1, .pure), (2, .pure), (3, .pure), (4, .read), (6, .pure), (0, .grow), (5, .grow), (7, .grow), (8, .grow), (9, .pure), (10, .pure)] (by kernel_rfl) (by kernel_rfl) hS ?_
    intro wz2 hS hBz2
    refine w_pure rfl rfl (s_move  h3 ?_)
    refine w_pure rfl rfl (s_move  h9 ?_)
    refine w_pure rfl rfl (s_ixr (i := i)  rfl rfl (hvx.below hS.below) (by omega) (by first | omega | (simp; done) | (simp; omega)) si_22 ?_)
    refine w_read rfl rfl (s_lde (i := i) zRR  rfl vi_37 (hvx.below hS.below) (by first | omega | (simp; done) | (simp; omega)) rfl rfl (.inl rfl) ?_)
    refine w_pure rfl rfl (s_move  rfl ?_)
    rw [← hwi]
    refine w_grow rfl rfl (s_call Tryz.call30 rfl (hwo _) ?_)
    rintro _ wc3 ⟨rfl, hBc3⟩
    replace hS := hS.grow hBc3
    refine ⟨hBc3, ?_⟩
    refine w_grow rfl rfl (s_call Tryz.call29 rfl (hmu _) ?_)
    rintro _ wc4 ⟨rfl, hBc4⟩
    replace hS := hS.grow hBc4
    refine ⟨hBc4, ?_⟩
    refine w_grow rfl rfl (s_call Tryz.call31 rfl (hin _) ?_)
    rintro _ wc5 ⟨rfl, hBc5⟩
    replace hS := hS.grow hBc5
    refine ⟨hBc5, ?_⟩
    refine w_grow rfl rfl (s_call Tryz.call28 rfl (hcm _) ?_)
    rintro _ wc6 ⟨rfl, hBc6⟩
    replace hS := hS.grow hBc6
    refine ⟨hBc6, ?_⟩
    refine w_pure rfl rfl (s_eql  rfl rfl ?_)
    refine w_pure rfl rfl (s_asg  rfl ?_)
    refine w_end ?_
    repeat (with_reducible first | refine c_seq ?_ | refine c_block ?_ | refine c_skip ?_ | refine x_then ?_ | refine x_block ?_)
    have hg1 : decide ((tab n res).getD i 0 < ba i) = false := by
      rw [hgr]
      exact decide_eq_false (by rcases hor i with ⟨_, e⟩ | ⟨_, e, _⟩ <;> omega)
    have hg2 : decide (ba i + 1 < (tab n res).getD i 0) = false := by
      rw [hgr]
      exact decide_eq_false (by rcases hor i with ⟨_, e⟩ | ⟨_, e, _⟩ <;> omega)
    by_cases hc0 : c = 0
    · have hz := hwh (cmpQ_zero.1 (by rw [← hc]; exact hc0))
      have hri : res i = ba i := by
        rcases hor i with ⟨_, e⟩ | ⟨_, e, g⟩
        · exact e
        · exact absurd hz g
      repeat (with_reducible first | refine c_seq ?_ | refine c_block ?_ | refine c_skip ?_ | refine x_then ?_ | refine x_block ?_)
      refine c_reg ?_
      refine l_pure rfl (s_move  rfl ?_)
      refine l_pure rfl (s_neq  rfl rfl ?_)
      refine l_pure rfl (s_move  rfl ?_)
      refine l_pure (gd_yes 65 (by kernel_rfl) rfl rfl) (s_move  h4 ?_)
      refine l_pure (gd_yes 65 (by kernel_rfl) rfl rfl) (s_move  h9 ?_)
      refine l_pure (gd_yes 65 (by kernel_rfl) rfl rfl) (s_ixr (i := i)  rfl rfl (hva.below hS.below) (by omega) (by first | omega | (simp; done) | (simp; omega)) si_25 ?_)
      refine l_read (gd_yes 65 (by kernel_rfl) rfl rfl) (s_lde (i := i) 0  rfl vi_2 (hva.below hS.below) (by first | omega | (simp; done) | (simp; omega)) rfl rfl (.inr rfl) ?_)
      refine l_pure (gd_yes 65 (by kernel_rfl) rfl rfl) (s_move  rfl ?_)
      refine l_pure (gd_yes 65 (by kernel_rfl) rfl rfl) (s_lss  rfl rfl ?_)
      refine l_pure rfl (s_pick (vb rfl rfl) rfl ?_)
      refine l_pure rfl (s_move  rfl ?_)
      refine l_pure (gd_yes 73 (by kernel_rfl) rfl hg1) (s_move  h4 ?_)
      refine l_pure (gd_yes 73 (by kernel_rfl) rfl hg1) (s_move  h9 ?_)
      refine l_pure (gd_yes 73 (by kernel_rfl) rfl hg1) (s_ixr (i := i)  rfl rfl (hva.below hS.below) (by omega) (by first | omega | (simp; done) | (simp; omega)) si_25 ?_)
      refine l_read (gd_yes 73 (by kernel_rfl) rfl hg1) (s_lde (i := i) 0  rfl vi_2 (hva.below hS.below) (by first | omega | (simp; done) | (simp; omega)) rfl rfl (.inr rfl) ?_)
      refine l_pure (gd_yes 73 (by kernel_rfl) rfl hg1) (s_move  rfl ?_)
      refine l_pure (gd_yes 73 (by kernel_rfl) rfl hg1) (s_add  rfl rfl (IntWalk.i64_in _ (by omega)) ?_)
      refine l_pure (gd_yes 73 (by kernel_rfl) rfl hg1) (s_gtr  rfl rfl ?_)
      refine l_pure rfl (s_pick (vb rfl hg1) rfl ?_)
      refine l_pure rfl (s_move  rfl ?_)
      refine l_pure (gd_yes 82 (by kernel_rfl) rfl hg2) (s_move  rfl ?_)
      refine l_pure (gd_yes 82 (by kernel_rfl) rfl hg2) (s_move  rfl ?_)
      refine l_pure (gd_yes 84 (by kernel_rfl) rfl (decide_eq_true hc0)) (s_move  h4 ?_)
      refine l_pure (gd_yes 84 (by kernel_rfl) rfl (decide_eq_true hc0)) (s_move  h9 ?_)
      refine l_pure (gd_yes 84 (by kernel_rfl) rfl (decide_eq_true hc0)) (s_ixr (i := i)  rfl rfl (hva.below hS.below) (by omega) (by first | omega | (simp; done) | (simp; omega)) si_25 ?_)
      refine l_read (gd_yes 84 (by kernel_rfl) rfl (decide_eq_true hc0)) (s_lde (i := i) 0  rfl vi_2 (hva.below hS.below) (by first | omega | (simp; done) | (simp; omega)) rfl rfl (.inr rfl) ?_)
      refine l_pure (gd_yes 84 (by kernel_rfl) rfl (decide_eq_true hc0)) (s_move  rfl ?_)
      refine l_pure (gd_yes 84 (by kernel_rfl) rfl (decide_eq_true hc0)) (s_neq  rfl rfl ?_)
      refine l_pure (gd_yes 82 (by kernel_rfl) rfl hg2) (s_pick (vb rfl (decide_eq_true hc0)) rfl ?_)
      refine l_pure rfl (s_pick (vb rfl hg2) rfl ?_)
      refine l_nil ?_
      repeat (with_reducible first | refine c_seq ?_ | refine c_block ?_ | refine c_skip ?_ | refine x_then ?_ | refine x_block ?_)
      refine c_no rfl (decide_eq_false (by rw [hgr]; omega)) ?_
      repeat (with_reducible first | refine c_seq ?_ | refine c_block ?_ | refine c_skip ?_ | refine x_then ?_ | refine x_block ?_)
      refine c_reg ?_
      refine l_pure rfl (s_move  h8 ?_)
      refine l_pure rfl (s_move  h4 ?_)
      refine l_pure rfl (s_move  h9 ?_)
      refine l_pure rfl (s_ixr (i := i)  rfl rfl (hva.below hS.below) (by omega) (by first | omega | (simp; done) | (simp; omega)) si_25 ?_)
      refine l_read rfl (s_lde (i := i) 0  rfl vi_2 (hva.below hS.below) (by first | omega | (simp; done) | (simp; omega)) rfl rfl (.inr rfl) ?_)
      refine l_pure rfl (s_add  rfl rfl (r := (sumZ res (i + 1))) (by rw [hgr]; exact wr_i64 _ ⟨rfl, by omega, by omega⟩) ?_)
      refine l_pure rfl (s_asg  rfl ?_)
      refine l_nil ?_
      repeat (with_reducible first | refine c_seq ?_ | refine c_block ?_ | refine c_skip ?_ | refine x_then ?_ | refine x_block ?_)
      refine c_reg ?_
      refine l_pure rfl (s_move  h9 ?_)
      refine l_pure rfl (s_add  rfl rfl (IntWalk.i64_in _ (by omega)) ?_)
      refine l_pure rfl (s_asg  rfl ?_)
      refine l_nil ?_
      repeat (with_reducible first | refine c_seq ?_ | refine c_block ?_ | refine c_skip ?_ | refine x_then ?_ | refine x_block ?_)
      exact ⟨i + 1, _, rfl, ⟨hlt, by assumption, by assumption, by assumption, rfl, vi rfl (by omega), hS⟩, by omega⟩
    · repeat (with_reducible first | refine c_seq ?_ | refine c_block ?_ | refine c_skip ?_ | refine x_then ?_ | refine x_block ?_)
      refine c_reg ?_
      refine l_pure rfl (s_move  rfl ?_)
      refine l_pure rfl (s_neq  rfl rfl ?_)
      refine l_pure rfl (s_move  rfl ?_)
      refine l_pure (gd_yes 65 (by kernel_rfl) rfl rfl) (s_move  h4 ?_)
      refine l_pure (gd_yes 65 (by kernel_rfl) rfl rfl) (s_move  h9 ?_)
      refine l_pure (gd_yes 65 (by kernel_rfl) rfl rfl) (s_ixr (i := i)  rfl rfl (hva.below hS.below) (by omega) (by first | omega | (simp; done) | (simp; omega)) si_25 ?_)
      refine l_read (gd_yes 65 (by kernel_rfl) rfl rfl) (s_lde (i := i) 0  rfl vi_2 (hva.below hS.below) (by first | omega | (simp; done) | (simp; omega)) rfl rfl (.inr rfl) ?_)
      refine l_pure (gd_yes 65 (by kernel_rfl) rfl rfl) (s_move  rfl ?_)
      refine l_pure (gd_yes 65 (by kernel_rfl) rfl rfl) (s_lss  rfl rfl ?_)
      refine l_pure rfl (s_pick (vb rfl rfl) rfl ?_)
      refine l_pure rfl (s_move  rfl ?_)
      refine l_pure (gd_yes 73 (by kernel_rfl) rfl hg1) (s_move  h4 ?_)
      refine l_pure (gd_yes 73 (by kernel_rfl) rfl hg1) (s_move  h9 ?_)
      refine l_pure (gd_yes 73 (by kernel_rfl) rfl hg1) (s_ixr (i := i)  rfl rfl (hva.below hS.below) (by omega) (by first | omega | (simp; done) | (simp; omega)) si_25 ?_)
      refine l_read (gd_yes 73 (by kernel_rfl) rfl hg1) (s_lde (i := i) 0  rfl vi_2 (hva.below hS.below) (by first | omega | (simp; done) | (simp; omega)) rfl rfl (.inr rfl) ?_)
      refine l_pure (gd_yes 73 (by kernel_rfl) rfl hg1) (s_move  rfl ?_)
      refine l_pure (gd_yes 73 (by kernel_rfl) rfl hg1) (s_add  rfl rfl (IntWalk.i64_in _ (by omega)) ?_)
      refine l_pure (gd_yes 73 (by kernel_rfl) rfl hg1) (s_gtr  rfl rfl ?_)
      refine l_pure rfl (s_pick (vb rfl hg1) rfl ?_)
      refine l_pure rfl (s_move  rfl ?_)
      refine l_pure (gd_yes 82 (by kernel_rfl) rfl hg2) (s_move  rfl ?_)
      refine l_pure (gd_yes 82 (by kernel_rfl) rfl hg2) (s_move  rfl ?_)
      refine l_no (gno_yes 84 (by kernel_rfl) rfl (decide_eq_false hc0)) ?_
      refine l_no (gno_yes 84 (by kernel_rfl) rfl (decide_eq_false hc0)) ?_
      refine l_no (gno_yes 84 (by kernel_rfl) rfl (decide_eq_false hc0)) ?_
      refine l_no (gno_yes 84 (by kernel_rfl) rfl (decide_eq_false hc0)) ?_
      refine l_no (gno_yes 84 (by kernel_rfl) rfl (decide_eq_false hc0)) ?_
      refine l_no (gno_yes 84 (by kernel_rfl) rfl (decide_eq_false hc0)) ?_
      refine l_pure (gd_yes 82 (by kernel_rfl) rfl hg2) (s_pick (vb rfl (decide_eq_false hc0)) rfl ?_)
      refine l_pure rfl (s_pick (vb rfl hg2) rfl ?_)
      refine l_nil ?_
      repeat (with_reducible first | refine c_seq ?_ | refine c_block ?_ | refine c_skip ?_ | refine x_then ?_ | refine x_block ?_)
      refine c_no rfl (rfl) ?_
      repeat (with_reducible first | refine c_seq ?_ | refine c_block ?_ | refine c_skip ?_ | refine x_then ?_ | refine x_block ?_)
      refine c_reg ?_
      refine l_pure rfl (s_move  h8 ?_)
      refine l_pure rfl (s_move  h4 ?_)
      refine l_pure rfl (s_move  h9 ?_)
      refine l_pure rfl (s_ixr (i := i)  rfl rfl (hva.below hS.below) (by omega) (by first | omega | (simp; done) | (simp; omega)) si_25 ?_)
      refine l_read rfl (s_lde (i := i) 0  rfl vi_2 (hva.below hS.below) (by first | omega | (simp; done) | (simp; omega)) rfl rfl (.inr rfl) ?_)
      refine l_pure rfl (s_add  rfl rfl (r := (sumZ res (i + 1))) (by rw [hgr]; exact wr_i64 _ ⟨rfl, by omega, by omega⟩) ?_)
      refine l_pure rfl (s_asg  rfl ?_)
      refine l_nil ?_
      repeat (with_reducible first | refine c_seq ?_ | refine c_block ?_ | refine c_skip ?_ | refine x_then ?_ | refine x_block ?_)
      refine c_reg ?_
      refine l_pure rfl (s_move  h9 ?_)
      refine l_pure rfl (s_add  rfl rfl (IntWalk.i64_in _ (by omega)) ?_)
      refine l_pure rfl (s_asg  rfl ?_)
      refine l_nil ?_
      repeat (with_reducible first | refine c_seq ?_ | refine c_block ?_ | refine c_skip ?_ | refine x_then ?_ | refine x_block ?_)
      exact ⟨i + 1, _, rfl, ⟨hlt, by assumption, by assumption, by assumption, rfl, vi rfl (by omega), hS⟩, by omega⟩
  · refine c_no rfl (decide_eq_false (by omega)) ?_
    repeat (with_reducible first | refine c_seq ?_ | refine c_block ?_ | refine c_skip ?_ | refine x_then ?_ | refine x_block ?_)
    refine c_exit ?_
    repeat (with_reducible first | refine x_then_exit ?_ | refine x_block_exit ?_ | refine x_block_pass rfl ?_)
    repeat (with_reducible first | refine c_seq ?_ | refine c_block ?_ | refine c_skip ?_ | refine x_then ?_ | refine x_block ?_)
    obtain rfl : i = n := by omega
    repeat (with_reducible first | refine c_seq ?_ | refine c_block ?_ | refine c_skip ?_ | refine x_then ?_ | refine x_block ?_)
    refine c_reg ?_
    refine l_heavy rfl (s_call Tryz.call19 rfl (Pawake_ok _) ?_)
    rintro r wa ⟨rfl, hBa⟩
    replace hS := hS.grow hBa
    refine l_pure rfl (s_move  rfl ?_)
    refine l_pure (gd_yes 100 (by kernel_rfl) rfl rfl) (s_move  h8 ?_)
    refine l_pure (gd_yes 100 (by kernel_rfl) rfl rfl) (s_move  h6 ?_)
    refine l_pure (gd_yes 100 (by kernel_rfl) rfl rfl) (s_eql  rfl rfl ?_)
    refine l_pure rfl (s_pick (vb rfl rfl) rfl ?_)
    refine l_pure rfl (s_asg  rfl ?_)
    refine l_nil ?_
    repeat (with_reducible first | refine c_seq ?_ | refine c_block ?_ | refine c_skip ?_ | refine x_then ?_ | refine x_block ?_)
    refine c_ret ?_
    repeat (with_reducible first | refine x_then_ret ?_ | refine x_block_ret ?_)
    refine r_one rfl rfl ?_
    exact ⟨vb rfl (decide_eq_true (by omega)), bt hW hS.below⟩
end Go.Proofs.YtmapmdldlcfjhaaGreatDoor
namespace Go.Proofs.YtmapmdldlcfjhaaGreatDoor
open Go Go.RowKit Go.Sx Go.ChangeShapes Go.WideShapes
section
variable {H : Type} {enc0 : TypeId × Value → H} {P : Program} {w : World} {sp : Nat → Bool} {held : Bool}
/-- A slice whose elements can be read: as a list. -/
theorem open_sl {α : Type} {enc : α → List Value} {size : Nat} {G : α → Prop} {t e : TypeId} {fuel base : Nat} {cs : List Value} {x : DataW H × List MemPlace} (ht : P.underlying t = some (.slice e)) (hce : P.cellsOf e = size)
    (hel : ∀ (n : Nat) (cs : List Value) (y : DataW H × List MemPlace), DataW.trod enc0 P w base sp held n e cs = some y → ∃ a, cs = enc a ∧ G a)
    (h : DataW.trod enc0 P w base sp held fuel t cs = some x) : ∃ v L, cs = [v] ∧ Sl enc size w v L ∧ ∀ y ∈ L, G y := by
  rcases DataW.trod_slice ht h with ⟨h1, _⟩ | ⟨a, len, cap, elems, rest, n, _, h1, _, _, hlc, hm, hlen, hel2, _, _⟩
  · exact ⟨_, [], h1, Sl.nil _ _ _, fun x hx => by cases hx⟩
  · have each : ∀ i, i < len → ∃ y : α, G y ∧ ∀ j u, (enc y)[j]? = some u → w.cell? (a.add (i * size + j)) = some u := by
      intro i hi
      have h2 := hel2 i hi
      rw [hce, List.getElem?_eq_getElem (by omega : i < elems.length), Option.bind_eq_some_iff] at h2
      obtain ⟨cs2, hcs, htr⟩ := h2
      obtain ⟨_, hcl, hcell⟩ := World.cells?_some hcs
      obtain ⟨y, rfl, hG⟩ := hel _ _ _ htr
      refine ⟨y, hG, fun j u hj => ?_⟩
      have hjl : j < size := by
        rw [← hcl]
        exact (List.getElem?_eq_some_iff.1 hj).1
      rw [← hj, ← hcell j hjl, add_add]
    refine ⟨_, (List.range len).pmap (fun i hi => Classical.choose (each i hi)) (fun i hi => List.mem_range.1 hi), h1, ⟨⟨some a, cap, by simp, by simp; exact hlc, hm, fun q => by cases q⟩, fun i hi => ?_⟩, fun y hy => ?_⟩
    · have hil : i < len := by simpa using hi
      intro j u hu2
      rw [List.getElem_pmap] at hu2
      simp only [List.getElem_range] at hu2
      show w.cell? ((a.add (i * size)).add j) = _
      rw [add_add]
      exact (Classical.choose_spec (each i hil)).2 j u hu2
    · obtain ⟨i, hi, rfl⟩ := List.mem_pmap.1 hy
      exact (Classical.choose_spec (each i (List.mem_range.1 hi))).1
end
section
variable {H : Type} {enc0 : TypeId × Value → H} {w : World} {sp : Nat → Bool} {held : Bool}
end
end Go.Proofs.YtmapmdldlcfjhaaGreatDoor
namespace Go.Proofs.YtmapmdldlcfjhaaGreatDoor
open Go Go.RowKit Go.Sx Go.ChangeShapes Go.WideShapes
section
variable {H : Type} {enc0 : TypeId × Value → H} {w : World}
/-- A row of bytes, as it lies among others. -/
def encS (p : Value × List Nat) : List Value := [p.1]
theorem open_u8row {t e : TypeId} {P : Program} {base n : Nat} {cs : List Value} {y : DataW H × List MemPlace} (ht : P.underlying t = some (.slice e)) (he : P.underlying e = some (.int .u8)) (hc : P.cellsOf e = 1)
    (hf : DataW.trod enc0 P w base (fun _ => true) true n t cs = some y) : ∃ p : Value × List Nat, cs = encS p ∧ (Sl (uk .u8) 1 w p.1 p.2 ∧ ∀ x ∈ p.2, x < 256) := by
  rcases open_ints ht he hc hf with ⟨h1, _⟩ | ⟨a, len, cap, zs, h1, _, hlc, hm, hz, _, hcell, hw⟩
  · exact ⟨(_, []), h1, Sl.nil _ _ _, fun x hx => by cases hx⟩
  · have hzl : zs.length = cap := by simpa using hz
    have hb : ∀ n ∈ zs, 0 ≤ n ∧ n ≤ 255 := fun n hn => bounds_u8 (hw n hn)
    have hl : ((zs.take len).map Int.toNat).length = len := by rw [List.length_map, List.length_take]; omega
    refine ⟨(_, (zs.take len).map Int.toNat), h1, ⟨⟨some a, cap, by rw [hl], by rw [hl]; exact hlc, hm, fun q => by cases q⟩, fun i hi => ?_⟩, fun x hx => ?_⟩
    · rw [hl] at hi
      have hi2 : i < zs.length := by omega
      have h2 := hcell i hi2
      have h3 : zs.getD i 0 = zs[i] := by rw [List.getD_eq_getElem?_getD, List.getElem?_eq_getElem hi2]; rfl
      have h4 := hb _ (List.getElem_mem hi2)
      rw [Nat.mul_one]
      refine at_one ?_
      show w.cell? (a.add i) = _
      rw [h2, h3, List.getElem_map, List.getElem_take, Int.toNat_of_nonneg h4.1]
    · obtain ⟨z, hz2, rfl⟩ := List.mem_map.1 hx
      have := hb z (List.mem_of_mem_take hz2)
      omega
/-- An argument of type [][]uint8. -/
theorem open_u8rows {t e b : TypeId} {P : Program} {v : Value} {d : DataW H} {ps : List MemPlace} (ht : P.underlying t = some (.slice e)) (he : P.underlying e = some (.slice b)) (hb : P.underlying b = some (.int .u8)) (hce : P.cellsOf e = 1) (hcb : P.cellsOf b = 1)
    (hval : ∃ a n c, v = .slice a n c) (h : DataW.Trod enc0 P w 0 (fun _ => true) true t v d ps) : ∃ L : List (Value × List Nat), Sl encS 1 w v L ∧ ∀ p ∈ L, Sl (uk .u8) 1 w p.1 p.2 ∧ ∀ x ∈ p.2, x < 256 := by
  obtain ⟨a, n, c, rfl⟩ := hval
  obtain ⟨fuel, hf⟩ := h
  obtain ⟨v, L, e, hS, hG⟩ := open_sl (enc := encS) (G := fun p => Sl (uk .u8) 1 w p.1 p.2 ∧ ∀ x ∈ p.2, x < 256) ht hce (fun _ _ _ h => open_u8row he hb hcb h) hf
  simp only [Value.cells, List.cons.injEq, and_true] at e
  rw [e]
  exact ⟨L, hS, hG⟩
end
end Go.Proofs.YtmapmdldlcfjhaaGreatDoor
namespace Go.Proofs.YtmapmdldlcfjhaaGreatDoor
open Go Go.RowKit Go.Sx
def pv (row : List Nat) (i : Nat) : Nat := if i < row.length then row.getD i 0 % 9 else 0
theorem pv_le (row : List Nat) (i : Nat) : pv row i ≤ 8 := by unfold pv; split <;> omega
theorem frac8 {p : Nat} (hp : p ≤ 8) : 0 ≤ mkRat (p : Int) 8 ∧ mkRat (p : Int) 8 ≤ 1 := by
  have : p = 0 ∨ p = 1 ∨ p = 2 ∨ p = 3 ∨ p = 4 ∨ p = 5 ∨ p = 6 ∨ p = 7 ∨ p = 8 := by omega
  rcases this with rfl | rfl | rfl | rfl | rfl | rfl | rfl | rfl | rfl <;> decide +kernel
def sfQ (ws : List RR) (row : List Nat) (i : Nat) : Rat := toQ (ws.getD i zRR) * mkRat (pv row i : Int) 8
def sfL (ws : List RR) (row : List Nat) : List RR := tab ws.length fun i => ofQ (sfQ ws row i)
theorem sf_at {ws : List RR} {row : List Nat} {i : Nat} (hi : i < ws.length) : toQ ((sfL ws row).getD i zRR) = sfQ ws row i := by
  unfold sfL; rw [tab_get _ _ hi, toQ_ofQ]
theorem sf_range {ws : List RR} (h : negs ws = false) (row : List Nat) (i : Nat) : 0 ≤ sfQ ws row i ∧ sfQ ws row i ≤ toQ (ws.getD i zRR) := by
  have h0 := negs_get h i
  obtain ⟨f1, f2⟩ := frac8 (pv_le row i)
  unfold sfQ
  refine ⟨Rat.mul_nonneg h0 f1, ?_⟩
  have := Rat.mul_le_mul_of_nonneg_left f2 h0
  rwa [Rat.mul_one] at this
theorem flC_mono {p q : Rat} (h : p ≤ q) : flC p ≤ flC q := Rat.floor_monotone (Rat.mul_le_mul_of_nonneg_right h (by decide))
theorem sf_cN {ws : List RR} (h : rE ws = 0) (row : List Nat) {i : Nat} (hi : i < ws.length) : cE (sfQ ws row i) = 0 ∧ 0 ≤ cN (sfQ ws row i) ∧ cN (sfQ ws row i) ≤ baQ (qC ws) i := by
  obtain ⟨hn, _, _, _, hm, _⟩ := rE_zero h
  have hb := baC_bound h hi
  obtain ⟨g1, g2⟩ := sf_range hn row i
  have hf : flC (sfQ ws row i) ≤ baQ (qC ws) i := flC_mono g2
  have hf0 := flC_nonneg g1
  have he : cE (sfQ ws row i) = 0 := by unfold cE; rw [if_neg (Rat.not_lt.2 g1), if_neg (by omega)]
  refine ⟨he, ?_⟩
  unfold cN
  rw [if_pos he]
  exact ⟨hf0, hf⟩
theorem nneg_tab {n : Nat} {P : Nat → Int} (h : ∀ i, i < n → 0 ≤ P i) : nneg (tab n P) = false := by
  unfold nneg
  rw [List.any_eq_false]
  intro x hx
  obtain ⟨i, hi, rfl⟩ := tab_mem hx
  have := h i hi
  rw [decide_eq_true_eq]; omega
theorem sf_iE {ws : List RR} (h : rE ws = 0) (row : List Nat) {P : Nat → Int} (hP : ∀ i, i < ws.length → 0 ≤ P i) : iE (tab ws.length P) (sfL ws row) = 0 := by
  obtain ⟨hn, _⟩ := rE_zero h
  have hng : negs (sfL ws row) = false := by
    unfold negs
    rw [List.any_eq_false]
    intro r hr
    obtain ⟨i, _, rfl⟩ := tab_mem hr
    have := (sf_range hn row i).1
    rw [toQ_ofQ, decide_eq_true_eq]
    exact Rat.not_lt.2 this
  unfold iE
  rw [if_neg (by unfold sfL; rw [tab_len, tab_len]; simp), nneg_tab hP, hng, if_neg (by decide)]
  refine firstE_none fun x hx => ?_
  obtain ⟨i, hi, rfl⟩ := tab_mem hx
  rw [toQ_ofQ]
  exact (sf_cN h row hi).1
def nxt (ws : List RR) (row : List Nat) (P : Nat → Int) (i : Nat) : Int := P i + iV (tab ws.length P) (sfL ws row) i
theorem nxt_facts {ws : List RR} (h : rE ws = 0) (row : List Nat) {P : Nat → Int} {i : Nat} (hi : i < ws.length) (hP : 0 ≤ P i ∧ P i ≤ baQ (qC ws) i) :
    0 ≤ iV (tab ws.length P) (sfL ws row) i ∧ 0 ≤ nxt ws row P i ∧ nxt ws row P i ≤ baQ (qC ws) i := by
  have hp : pdF (tab ws.length P) i = P i := tab_get _ _ hi
  have hc := sf_cN h row hi
  have e : iV (tab ws.length P) (sfL ws row) i = max (cN (sfQ ws row i) - P i) 0 := by unfold iV; rw [hp, sf_at hi]
  unfold nxt
  rw [e]
  omega
def upd (P Q : Nat → Int) (i j : Nat) : Int := if j < i then P j + Q j else P j
theorem upd_set (P Q : Nat → Int) (n i : Nat) : (tab n (upd P Q i)).set i (P i + Q i) = tab n (upd P Q (i + 1)) := by
  rw [tab_set]
  refine tab_congr fun j _ => ?_
  unfold upd
  by_cases e : j = i
  · subst e; rw [if_pos rfl, if_pos (by omega)]
  · rw [if_neg e]
    by_cases g : j < i
    · rw [if_pos g, if_pos (by omega)]
    · rw [if_neg g, if_neg (by omega)]
theorem upd_zero (P Q : Nat → Int) : upd P Q 0 = P := by funext j; exact if_neg (Nat.not_lt_zero _)
theorem upd_all (P Q : Nat → Int) (n : Nat) : tab n (upd P Q n) = tab n fun j => P j + Q j := tab_congr fun _ hj => if_pos hj
set_option maxHeartbeats 4000000 in
theorem PayoutNever_ok (vl vs : Value) (l : List Nat) (S : List (Value × List Nat)) (w : World) (hl : Sl (uk .u16) 1 w vl l) (hlb : ∀ x ∈ l, x < 65536) (hs : Sl encS 1 w vs S) (hsb : ∀ p ∈ S, Sl (uk .u8) 1 w p.1 p.2 ∧ ∀ x ∈ p.2, x < 256) :
    Ret Tryz.prog 10 #[vl, vs] w fun v w' => v = .bool true ∧ Below w.heap.size w w' := by
  have hM : MX = 1099511627776 := rfl
  have hmC : mxC = 1125899906842624 := rfl
  have hsm := hs.maxLen
  have hS := St.init w
  have hr0 := amts_rE l 8 (by decide)
  obtain ⟨ws, hws⟩ : ∃ ws, ws = amts l 8 := ⟨_, rfl⟩
  have hRB : RB 1 ws := by rw [hws]; exact amts_RB l 8
  have hwl : ws.length ≤ 8 := by rw [hws, amts_len]; omega
  rw [← hws] at hr0
  have hrl : rL ws = tab ws.length (resC ws) := if_pos hr0
  have hrb := fun i hi => resC_bound hr0 (i := i) hi
  have hbb := fun i hi => baC_bound hr0 (i := i) hi
  have hflm := (rE_zero hr0).2.2.2.2.1
  have hor := fun i => res_or (ordC_ord ws) i
  have hre2 : resQ (qC ws) (ordC ws) ws.length = resC ws := rfl
  rw [hre2] at hor
  obtain ⟨n, hn⟩ : ∃ n, n = ws.length := ⟨_, rfl⟩
  have hiE := fun row P hP => sf_iE hr0 row (P := P) hP
  have hnx := fun row P i hi hP => nxt_facts hr0 row (P := P) (i := i) hi hP
  rw [← hn] at hrb hbb hrl hiE hnx
  have hRBs : ∀ row, RB 2 (sfL ws row) := fun row r hr => by
    obtain ⟨i, hi, rfl⟩ := tab_mem hr
    have h1 := L_mul (toQ (ws.getD i zRR)) (mkRat (pv row i : Int) 8)
    have h2 := L_toQ (ws.getD i zRR)
    have h3 := hRB _ (getD_mem ws i zRR hi)
    have h4 : L (mkRat (pv row i : Int) 8) ≤ 1 := by
      have := pv_le row i
      exact L_mkRat _ (by decide) (natS_size_le (by rw [Int.natAbs_natCast]; omega)) (natS_size_le (by decide))
    rw [Lr_ofQ]
    unfold sfQ
    omega
  have hsfl : ∀ row, sfL ws row = tab n fun i => ofQ (sfQ ws row i) := fun row => by rw [hn]; rfl
  refine enter Tryz.func10 rfl Tryz.ntmps10 rfl ?_
  repeat (with_reducible first | refine c_seq ?_ | refine c_block ?_ | refine c_skip ?_ | refine x_then ?_ | refine x_block ?_)
  refine c_reg ?_
  refine l_pure rfl (s_asg  rfl ?_)
  refine l_nil ?_
  repeat (with_reducible first | refine c_seq ?_ | refine c_block ?_ | refine c_skip ?_ | refine x_then ?_ | refine x_block ?_)
  refine c_reg ?_
  refine l_pure rfl (s_move  rfl ?_)
  refine l_heavy rfl (s_call Tryz.call23 rfl (Amounts_ok vl l 8 _ (hl.below hS.below) hlb (by decide)) ?_)
  rintro x w1 ⟨hvx, hB1⟩
  rw [← hws] at hvx
  replace hS := hS.grow hB1
  have hW := hS.below
  replace hs := hs.below hW
  replace hsb : ∀ p ∈ S, Sl (uk .u8) 1 w1 p.1 p.2 ∧ ∀ x ∈ p.2, x < 256 := fun p hp => ⟨(hsb p hp).1.below hW, (hsb p hp).2⟩
  clear hS
  have hS := St.init w1
  refine l_pure rfl (s_asg  rfl ?_)
  refine l_nil ?_
  repeat (with_reducible first | refine c_seq ?_ | refine c_block ?_ | refine c_skip ?_ | refine x_then ?_ | refine x_block ?_)
  refine c_reg ?_
  refine l_pure rfl (s_move  rfl ?_)
  refine l_pure rfl (s_lenr  rfl (hvx.below hS.below) ⟨_, Tryz.underlying22⟩ ?_)
  refine l_heavy rfl (s_makeE (enc := enI) (n := n) 0  rfl rfl si_25 rfl (by omega) (by omega) (by omega) (by omega) hS ?_)
  intro b6 wz1 hS hBz1
  refine l_pure rfl (s_asg  rfl ?_)
  refine l_nil ?_
  repeat (with_reducible first | refine c_seq ?_ | refine c_block ?_ | refine c_skip ?_ | refine x_then ?_ | refine x_block ?_)
  replace hS : St w1 _ [(b6, 2, (List.replicate n (0 : Int)).flatMap enI)] := hS
  repeat (with_reducible first | refine c_seq ?_ | refine c_block ?_ | refine c_skip ?_ | refine x_then ?_ | refine x_block ?_)
  refine c_forget (fun ρ' => ρ' 1 = vs ∧ ρ' 5 = x ∧ ρ' 6 = .slice (some ⟨b6, 0, none⟩) n n ∧ True) ⟨rfl, rfl, rfl, trivial⟩ ?_
  rintro ρk2 ⟨hk2_1, hk2_5, hk2_6, -⟩
  repeat (with_reducible first | refine c_seq ?_ | refine c_block ?_ | refine c_skip ?_ | refine x_then ?_ | refine x_block ?_)
  refine c_reg ?_
  refine l_pure rfl (s_asg  rfl ?_)
  refine l_nil ?_
  repeat (with_reducible first | refine c_seq ?_ | refine c_skip ?_ | refine x_then ?_ | refine x_block ?_)
  refine c_cut1 (fun ρ w' => ρ 5 = x ∧ ρ 6 = .slice (some ⟨b6, 0, none⟩) n n ∧ ∃ P : Nat → Int, (∀ i, i < n → 0 ≤ P i ∧ P i ≤ baQ (qC ws) i) ∧ St w1 w' [(b6, 2, (tab n P).flatMap enI)]) ?_ ?_
  · repeat (with_reducible first | refine c_seq ?_ | refine c_block ?_ | refine c_skip ?_ | refine x_then ?_ | refine x_block ?_)
    refine c_loop (σ := Nat) (fun k ρ w' => k ≤ 5 ∧ ρ 1 = vs ∧ ρ 5 = x ∧ ρ 6 = .slice (some ⟨b6, 0, none⟩) n n ∧ ρ 7 = .int .i64 k ∧ ∃ P : Nat → Int, (∀ i, i < n → 0 ≤ P i ∧ P i ≤ baQ (qC ws) i) ∧ St w1 w' [(b6, 2, (tab n P).flatMap enI)]) (fun k => 5 - k) 0
      ⟨Nat.zero_le _, by assumption, by assumption, by assumption, rfl, fun _ => 0, fun i hi => ⟨Int.le_refl _, (hbb i hi).1⟩, (by rw [← tab_rep]; exact hS)⟩ ?_
    clear hS
    rintro k ρ w2 ⟨hk, h1, h5, h6, h7, P, hP, hS⟩
    repeat (with_reducible first | refine c_seq ?_ | refine c_block ?_ | refine c_skip ?_ | refine x_then ?_ | refine x_block ?_)
    by_cases hkS : k < S.length
    · by_cases hk5 : k < 5
      · repeat (with_reducible first | refine c_seq ?_ | refine c_block ?_ | refine c_skip ?_ | refine x_then ?_ | refine x_block ?_)
        refine c_reg ?_
        refine l_pure rfl (s_move  h7 ?_)
        refine l_pure rfl (s_move  h1 ?_)
        refine l_pure rfl (s_lenr  rfl (hs.below hS.below) ⟨_, Tryz.underlying59⟩ ?_)
        refine l_pure rfl (s_lss  rfl rfl ?_)
        refine l_pure rfl (s_move  rfl ?_)
        refine l_pure (gd_yes 28 (by kernel_rfl) rfl (decide_eq_true (by omega))) (s_move  h7 ?_)
        refine l_pure (gd_yes 28 (by kernel_rfl) rfl (decide_eq_true (by omega))) (s_lss  rfl rfl ?_)
        refine l_pure rfl (s_pick (vb rfl (decide_eq_true (by omega))) rfl ?_)
        refine l_nil ?_
        repeat (with_reducible first | refine c_seq ?_ | refine c_block ?_ | refine c_skip ?_ | refine x_then ?_ | refine x_block ?_)
        refine c_yes rfl (decide_eq_true (by omega)) ?_
        repeat (with_reducible first | refine c_seq ?_ | refine c_block ?_ | refine c_skip ?_ | refine x_then ?_ | refine x_block ?_)
        obtain ⟨p, hp⟩ : ∃ p, p = S.getD k (undef, []) := ⟨_, rfl⟩
        have hpm : p ∈ S := by rw [hp]; exact getD_mem S k _ hkS
        obtain ⟨hrow, hrb8⟩ := hsb p hpm
        have hrm := hrow.maxLen
        obtain ⟨rv, row⟩ := p
        simp only at hrow hrb8 hrm
        have hL0 : encS (S.getD k (undef, [])) = [rv] := by rw [← hp]; rfl
        have hPn := fun i hi => hnx row P i hi (hP i hi)
        have hie := hiE row P (fun i hi => (hP i hi).1)
        have hiL : iL (tab n P) (sfL ws row) = tab n (iV (tab n P) (sfL ws row)) := by
          unfold iL
          rw [if_pos hie]
          rw [show (sfL ws row).length = n by rw [hsfl, tab_len]]
        repeat (with_reducible first | refine c_seq ?_ | refine c_block ?_ | refine c_skip ?_ | refine x_then ?_ | refine x_block ?_)
        refine c_reg ?_
        refine l_pure rfl (s_asg  rfl ?_)
        refine l_nil ?_
        repeat (with_reducible first | refine c_seq ?_ | refine c_block ?_ | refine c_skip ?_ | refine x_then ?_ | refine x_block ?_)
        refine c_reg ?_
        refine l_pure rfl (s_asg  rfl ?_)
        refine l_nil ?_
        repeat (with_reducible first | refine c_seq ?_ | refine c_skip ?_ | refine x_then ?_ | refine x_block ?_)
        refine c_cut1 (fun ρ w' => ρ 1 = vs ∧ ρ 5 = x ∧ ρ 6 = .slice (some ⟨b6, 0, none⟩) n n ∧ ρ 7 = .int .i64 k ∧ ∃ sP LP, ρ 8 = sP ∧ Gl encR 37 3 sP (tab n fun i => ofQ (sfQ ws row i)) LP ∧ St w1 w' ([(b6, 2, (tab n P).flatMap enI)] ++ LP)) ?_ ?_
        · repeat (with_reducible first | refine c_seq ?_ | refine c_block ?_ | refine c_skip ?_ | refine x_then ?_ | refine x_block ?_)
          refine c_loop (σ := Nat) (fun i ρ w' => i ≤ n ∧ ρ 1 = vs ∧ ρ 5 = x ∧ ρ 6 = .slice (some ⟨b6, 0, none⟩) n n ∧ ρ 7 = .int .i64 k ∧ ρ 9 = .int .i64 i ∧ ∃ sP LP, ρ 8 = sP ∧ Gl encR 37 3 sP (tab i fun i => ofQ (sfQ ws row i)) LP ∧ St w1 w' ([(b6, 2, (tab n P).flatMap enI)] ++ LP)) (fun i => n - i) 0
            ⟨Nat.zero_le _, by assumption, by assumption, by assumption, by assumption, rfl, ⟨_, [], rfl, Gl.nil _ _ _, hS⟩⟩ ?_
          clear hS h1 h5 h6 h7
          rintro i ρ w3 ⟨hi, h1, h5, h6, h7, h9, sP, LP, h8, hG, hS⟩
          have htl := tab_len i (fun i => ofQ (sfQ ws row i))
          repeat (with_reducible first | refine c_seq ?_ | refine c_block ?_ | refine c_skip ?_ | refine x_then ?_ | refine x_block ?_)
          refine c_reg ?_
          refine l_pure rfl (s_move  h9 ?_)
          refine l_pure rfl (s_move  h5 ?_)
          refine l_pure rfl (s_lenr  rfl (hvx.below hS.below) ⟨_, Tryz.underlying22⟩ ?_)
          refine l_pure rfl (s_lss  rfl rfl ?_)
          refine l_nil ?_
          repeat (with_reducible first | refine c_seq ?_ | refine c_block ?_ | refine c_skip ?_ | refine x_then ?_ | refine x_block ?_)
          by_cases hlt : i < n
          · refine c_yes rfl (decide_eq_true (by omega)) ?_
            repeat (with_reducible first | refine c_seq ?_ | refine c_block ?_ | refine c_skip ?_ | refine x_then ?_ | refine x_block ?_)
            have hpv := pv_le row i
            repeat (with_reducible first | refine c_seq ?_ | refine c_block ?_ | refine c_skip ?_ | refine x_then ?_ | refine x_block ?_)
            refine c_reg ?_
            refine l_pure rfl (s_asg  rfl ?_)
            refine l_nil ?_
            repeat (with_reducible first | refine c_seq ?_ | refine c_block ?_ | refine c_skip ?_ | refine x_then ?_ | refine x_block ?_)
            refine c_reg ?_
            refine l_pure rfl (s_move  h9 ?_)
            refine l_pure rfl (s_move  h1 ?_)
            refine l_pure rfl (s_move  h7 ?_)
            refine l_pure rfl (s_ixr (i := k)  rfl rfl (hs.below hS.below) (by omega) (by first | omega | (simp; done) | (simp; omega)) si_59 ?_)
            refine l_read rfl (s_lde (v := rv) (i := k) (undef, [])  rfl vi_60 (hs.below hS.below) (by omega) rfl (by rw [hL0]; rfl) (.inr rfl) ?_)
            refine l_pure rfl (s_lenr  rfl (hrow.below hS.below) ⟨_, Tryz.underlying60⟩ ?_)
            refine l_pure rfl (s_lss  rfl rfl ?_)
            refine l_nil ?_
            repeat (with_reducible first | refine c_seq ?_ | refine c_block ?_ | refine c_skip ?_ | refine x_then ?_ | refine x_block ?_)
            refine c_cut1 (fun ρ w' => ρ 1 = vs ∧ ρ 5 = x ∧ ρ 6 = .slice (some ⟨b6, 0, none⟩) n n ∧ ρ 7 = .int .i64 k ∧ ρ 9 = .int .i64 i ∧ ρ 8 = sP ∧ ρ 10 = .int .i64 (pv row i) ∧ St w1 w' ([(b6, 2, (tab n P).flatMap enI)] ++ LP)) ?_ ?_
            · by_cases hir : i < row.length
              · refine c_yes rfl (decide_eq_true (by omega)) ?_
                repeat (with_reducible first | refine c_seq ?_ | refine c_block ?_ | refine c_skip ?_ | refine x_then ?_ | refine x_block ?_)
                have hx8 := hrb8 _ (getD_mem row i 0 hir)
                repeat (with_reducible first | refine c_seq ?_ | refine c_block ?_ | refine c_skip ?_ | refine x_then ?_ | refine x_block ?_)
                refine c_reg ?_
                refine l_pure rfl (s_move  h1 ?_)
                refine l_pure rfl (s_move  h7 ?_)
                refine l_pure rfl (s_ixr (i := k)  rfl rfl (hs.below hS.below) (by omega) (by first | omega | (simp; done) | (simp; omega)) si_59 ?_)
                refine l_read rfl (s_lde (v := rv) (i := k) (undef, [])  rfl vi_60 (hs.below hS.below) (by omega) rfl (by rw [hL0]; rfl) (.inr rfl) ?_)
                refine l_pure rfl (s_move  h9 ?_)
                refine l_pure rfl (s_ixr (i := i)  rfl rfl (hrow.below hS.below) (by omega) (by first | omega | (simp; done) | (simp; omega)) si_60 ?_)
                refine l_read rfl (s_lde (i := i) 0  rfl vi_5 (hrow.below hS.below) (by first | omega | (simp; done) | (simp; omega)) rfl rfl (.inr rfl) ?_)
                refine l_pure rfl (s_rem  rfl rfl (by omega) (r := ((row.getD i 0 % 9 : Nat) : Int)) (by exact rem_nat (row.getD i 0) 9) ?_)
                refine l_pure rfl (s_conv  rfl Tryz.underlying3 ⟨_, Tryz.underlying5⟩ (r := ((row.getD i 0 % 9 : Nat) : Int)) (by exact wr_i64 _ ⟨rfl, by omega, by omega⟩) ?_)
                refine l_pure rfl (s_asg  rfl ?_)
                refine l_nil ?_
                repeat (with_reducible first | refine c_seq ?_ | refine c_block ?_ | refine c_skip ?_ | refine x_then ?_ | refine x_block ?_)
                exact ⟨_, rfl, h1, h5, h6, h7, h9, h8, vi rfl (by unfold pv; rw [if_pos hir]), hS⟩
              · refine c_no rfl (decide_eq_false (by omega)) ?_
                repeat (with_reducible first | refine c_seq ?_ | refine c_block ?_ | refine c_skip ?_ | refine x_then ?_ | refine x_block ?_)
                exact ⟨_, rfl, h1, h5, h6, h7, h9, h8, vi rfl (by unfold pv; rw [if_neg hir]; rfl), hS⟩
            clear hS h1 h5 h6 h7 h9 h8
            rintro ρ w4 ⟨h1, h5, h6, h7, h9, h8, h10, hS⟩
            have hLi := hRB _ (getD_mem ws i zRR (by omega))
            have hLr : L (mkRat (pv row i : Int) 8) ≤ 1 := L_mkRat _ (by decide) (natS_size_le (by rw [Int.natAbs_natCast]; omega)) (natS_size_le (by decide))
            have hmu := fun w => rMultiply_ok (ws.getD i zRR) (ofQ (mkRat (pv row i : Int) 8)) w (by rw [Lr_ofQ]; omega)
            rw [toQ_ofQ] at hmu
            repeat (with_reducible first | refine c_seq ?_ | refine c_block ?_ | refine c_skip ?_ | refine x_then ?_ | refine x_block ?_)
            refine c_draw [(0, .pure), (1, .pure), (2, .pure), (3, .pure), (4, .read), (5, .pure), (6, .grow), (7, .grow), (8, .grow), (9, .free), (10, .pure)] (by kernel_rfl) (by kernel_rfl) hS ?_
            intro wz3 hS hBz3
            refine w_pure rfl rfl (s_move  h8 ?_)
            refine w_pure rfl rfl (s_move  h5 ?_)
            refine w_pure rfl rfl (s_move  h9 ?_)
            refine w_pure rfl rfl (s_ixr (i := i)  rfl rfl (hvx.below hS.below) (by omega) (by first | omega | (simp; done) | (simp; omega)) si_22 ?_)
            refine w_read rfl rfl (s_lde (i := i) zRR  rfl vi_37 (hvx.below hS.below) (by first | omega | (simp; done) | (simp; omega)) rfl rfl (.inl rfl) ?_)
            refine w_pure rfl rfl (s_move  h10 ?_)
            refine w_grow rfl rfl (s_call Tryz.call37 rfl (Ratio_ok ((pv row i : Nat) : Int) 8 _ (by omega) (by omega) (by decide) (by decide)) ?_)
            rintro _ wc4 ⟨rfl, hBc4⟩
            replace hS := hS.grow hBc4
            refine ⟨hBc4, ?_⟩
            refine w_grow rfl rfl (s_call Tryz.call29 rfl (hmu _) ?_)
            rintro _ wc5 ⟨rfl, hBc5⟩
            replace hS := hS.grow hBc5
            refine ⟨hBc5, ?_⟩
            refine w_grow rfl rfl (s_bsl (vs := [aggR (ofQ (sfQ ws row i))])  rfl si_22 rfl (by decide) (by decide) (by decide) (by simp [Value.cells, aggR]) rfl hS ?_)
            intro bx wz6 hS hBz6
            refine ⟨hBz6, ?_⟩
            refine w_free rfl rfl (s_appl [ofQ (sfQ ws row i)]  rfl rfl si_22 (by decide) hG hS rfl rfl encR_len (encR_one [ofQ (sfQ ws row i)]) (by first | omega | (simp only [List.length_cons, List.length_nil]; omega)) (by first | omega | (simp only [List.length_cons, List.length_nil]; omega)) ?_)
            intro va7 La7 wa7 hG hS hga7
            refine w_pure rfl rfl (s_asg  rfl ?_)
            refine w_end ?_
            repeat (with_reducible first | refine c_seq ?_ | refine c_block ?_ | refine c_skip ?_ | refine x_then ?_ | refine x_block ?_)
            rw [← tab_succ] at hG
            repeat (with_reducible first | refine c_seq ?_ | refine c_block ?_ | refine c_skip ?_ | refine x_then ?_ | refine x_block ?_)
            refine c_reg ?_
            refine l_pure rfl (s_move  h9 ?_)
            refine l_pure rfl (s_add  rfl rfl (IntWalk.i64_in _ (by omega)) ?_)
            refine l_pure rfl (s_asg  rfl ?_)
            refine l_nil ?_
            repeat (with_reducible first | refine c_seq ?_ | refine c_block ?_ | refine c_skip ?_ | refine x_then ?_ | refine x_block ?_)
            exact ⟨i + 1, _, rfl, ⟨hlt, by assumption, by assumption, by assumption, by assumption, vi rfl (by omega), ⟨_, _, rfl, hG, hS⟩⟩, by omega⟩
          · refine c_no rfl (decide_eq_false (by omega)) ?_
            repeat (with_reducible first | refine c_seq ?_ | refine c_block ?_ | refine c_skip ?_ | refine x_then ?_ | refine x_block ?_)
            refine c_exit ?_
            repeat (with_reducible first | refine x_then_exit ?_ | refine x_block_exit ?_ | refine x_block_pass rfl ?_)
            repeat (with_reducible first | refine c_seq ?_ | refine c_block ?_ | refine c_skip ?_ | refine x_then ?_ | refine x_block ?_)
            obtain rfl : i = n := by omega
            exact ⟨_, rfl, h1, h5, h6, h7, ⟨_, _, h8, hG, hS⟩⟩
        clear hS h1 h5 h6 h7
        rintro ρ w3 ⟨h1, h5, h6, h7, sP, LP, h8, hG, hS⟩
        rw [← hsfl] at hG
        have hsf := hG.sl hS encR_len
        have hpd := hS.sle (k := 0) (n := n) (cap := n) rfl enI_len (by rw [tab_len]; omega) (Nat.le_refl _) (by omega)
        rw [List.take_of_length_le (by rw [tab_len]; omega)] at hpd
        have hPb : ∀ y ∈ tab n P, -9223372036854775808 ≤ y ∧ y ≤ 9223372036854775807 := fun y hy => by
          obtain ⟨i, hi, rfl⟩ := tab_mem hy
          have h1 := hP i hi
          have h2 := hbb i hi
          omega
        repeat (with_reducible first | refine c_seq ?_ | refine c_block ?_ | refine c_skip ?_ | refine x_then ?_ | refine x_block ?_)
        refine c_reg ?_
        refine l_pure rfl (s_move  h6 ?_)
        refine l_pure rfl (s_move  h8 ?_)
        refine l_heavy rfl (s_call Tryz.call35 rfl (Interim_own _ sP (tab n P) (sfL ws row) 2 _ hpd hPb hsf (hRBs row) (by rw [hsfl, tab_len]; omega) (by omega)) ?_)
        rintro r w4 ⟨va, LO, rfl, hO, hSi⟩
        rw [hie]
        rw [hiL] at hO
        have hS2 : St w1 w4 ([(b6, 2, (tab n P).flatMap enI)] ++ LO) := ((hS.join hSi).drop (List.Sublist.append_left (List.sublist_append_left [(b6, 2, (tab n P).flatMap enI)] LP) ([] ++ LO))).perm List.perm_append_comm
        clear hS hSi hsf hpd
        have hS := hS2
        clear hS2
        obtain ⟨Q, hQ⟩ : ∃ f, f = iV (tab n P) (sfL ws row) := ⟨_, rfl⟩
        have hnq : ∀ i, i < n → 0 ≤ Q i ∧ 0 ≤ P i + Q i ∧ P i + Q i ≤ baQ (qC ws) i := fun i hi => by
          have := hPn i hi
          unfold nxt at this
          rw [← hn] at this
          rw [hQ]; exact this
        rw [← hQ] at hO
        have htq := tab_len n Q
        rw [← upd_zero P Q] at hS
        refine l_pure rfl (s_move  rfl ?_)
        refine l_pure rfl (s_ext  rfl rfl ?_)
        refine l_pure rfl (s_ext  rfl rfl ?_)
        refine l_pure rfl (s_asg  rfl ?_)
        refine l_pure rfl (s_asg  rfl ?_)
        refine l_nil ?_
        repeat (with_reducible first | refine c_seq ?_ | refine c_block ?_ | refine c_skip ?_ | refine x_then ?_ | refine x_block ?_)
        refine c_reg ?_
        refine l_pure rfl (s_move  rfl ?_)
        refine l_pure rfl (s_neq  rfl rfl ?_)
        refine l_pure rfl (s_move  rfl ?_)
        refine l_pure (gd_yes 74 (by kernel_rfl) rfl rfl) (s_move  rfl ?_)
        refine l_pure (gd_yes 74 (by kernel_rfl) rfl rfl) (s_lenr  rfl (hO.sl hS enI_len) ⟨_, Tryz.underlying25⟩ ?_)
        refine l_pure (gd_yes 74 (by kernel_rfl) rfl rfl) (s_move  h6 ?_)
        refine l_pure (gd_yes 74 (by kernel_rfl) rfl rfl) (s_leno  rfl ⟨_, Tryz.underlying25⟩ ?_)
        refine l_pure (gd_yes 74 (by kernel_rfl) rfl rfl) (s_neq  rfl rfl ?_)
        refine l_pure rfl (s_pick (vb rfl rfl) rfl ?_)
        refine l_nil ?_
        repeat (with_reducible first | refine c_seq ?_ | refine c_block ?_ | refine c_skip ?_ | refine x_then ?_ | refine x_block ?_)
        refine c_no rfl (decide_eq_false (by omega)) ?_
        repeat (with_reducible first | refine c_seq ?_ | refine c_block ?_ | refine c_skip ?_ | refine x_then ?_ | refine x_block ?_)
        refine c_forget (fun ρ' => ρ' 1 = vs ∧ ρ' 5 = x ∧ ρ' 6 = .slice (some ⟨b6, 0, none⟩) n n ∧ ρ' 7 = .int .i64 k ∧ ρ' 11 = va ∧ True) ⟨h1, h5, h6, h7, rfl, trivial⟩ ?_
        rintro ρk8 ⟨hk8_1, hk8_5, hk8_6, hk8_7, hk8_11, -⟩
        repeat (with_reducible first | refine c_seq ?_ | refine c_block ?_ | refine c_skip ?_ | refine x_then ?_ | refine x_block ?_)
        refine c_reg ?_
        refine l_pure rfl (s_asg  rfl ?_)
        refine l_nil ?_
        repeat (with_reducible first | refine c_seq ?_ | refine c_block ?_ | refine c_skip ?_ | refine x_then ?_ | refine x_block ?_)
        refine c_loop (σ := Nat) (fun i ρ w' => i ≤ n ∧ ρ 1 = vs ∧ ρ 5 = x ∧ ρ 6 = .slice (some ⟨b6, 0, none⟩) n n ∧ ρ 7 = .int .i64 k ∧ ρ 11 = va ∧ ρ 13 = .int .i64 i ∧ St w1 w' ([(b6, 2, (tab n (upd P Q i)).flatMap enI)] ++ LO)) (fun i => n - i) 0
          ⟨Nat.zero_le _, by assumption, by assumption, by assumption, by assumption, by assumption, rfl, hS⟩ ?_
        clear hS h1 h5 h6 h7
        rintro i ρ w5 ⟨hi, h1, h5, h6, h7, h11, h13, hS⟩
        repeat (with_reducible first | refine c_seq ?_ | refine c_block ?_ | refine c_skip ?_ | refine x_then ?_ | refine x_block ?_)
        refine c_reg ?_
        refine l_pure rfl (s_move  h13 ?_)
        refine l_pure rfl (s_move  h11 ?_)
        refine l_pure rfl (s_lenr  rfl (hO.sl hS enI_len) ⟨_, Tryz.underlying25⟩ ?_)
        refine l_pure rfl (s_lss  rfl rfl ?_)
        refine l_nil ?_
        repeat (with_reducible first | refine c_seq ?_ | refine c_block ?_ | refine c_skip ?_ | refine x_then ?_ | refine x_block ?_)
        by_cases hlt : i < n
        · refine c_yes rfl (decide_eq_true (by omega)) ?_
          repeat (with_reducible first | refine c_seq ?_ | refine c_block ?_ | refine c_skip ?_ | refine x_then ?_ | refine x_block ?_)
          obtain ⟨q0, q1, q2⟩ := hnq i hlt
          have hbi := hbb i hlt
          have hgq : (tab n Q).getD i 0 = Q i := tab_get _ _ hlt
          have hgu : (tab n (upd P Q i)).getD i 0 = P i := by rw [tab_get _ _ hlt]; exact if_neg (Nat.lt_irrefl _)
          have htu := tab_len n (upd P Q i)
          have hset := upd_set P Q n i
          repeat (with_reducible first | refine c_seq ?_ | refine c_block ?_ | refine c_skip ?_ | refine x_then ?_ | refine x_block ?_)
          refine c_reg ?_
          refine l_pure rfl (s_move  h11 ?_)
          refine l_pure rfl (s_move  h13 ?_)
          refine l_pure rfl (s_ixr (i := i)  rfl rfl (hO.sl hS enI_len) (by omega) (by first | omega | (simp; done) | (simp; omega)) si_25 ?_)
          refine l_read rfl (s_lde (i := i) 0  rfl vi_2 (hO.sl hS enI_len) (by first | omega | (simp; done) | (simp; omega)) rfl rfl (.inr rfl) ?_)
          refine l_pure rfl (s_lss  rfl rfl ?_)
          refine l_nil ?_
          repeat (with_reducible first | refine c_seq ?_ | refine c_block ?_ | refine c_skip ?_ | refine x_then ?_ | refine x_block ?_)
          refine c_no rfl (decide_eq_false (by rw [hgq]; omega)) ?_
          repeat (with_reducible first | refine c_seq ?_ | refine c_block ?_ | refine c_skip ?_ | refine x_then ?_ | refine x_block ?_)
          refine c_draw [(0, .pure), (1, .pure), (2, .pure), (3, .read), (4, .pure), (5, .pure), (6, .pure), (7, .read), (8, .pure), (9, .pure), (10, .free)] (by kernel_rfl) (by kernel_rfl) hS ?_
          intro wz9 hS hBz9
          refine w_pure rfl rfl (s_move  h6 ?_)
          refine w_pure rfl rfl (s_move  h13 ?_)
          refine w_pure rfl rfl (s_ixo (i := i)  rfl rfl (by omega) (by first | omega | (simp; done) | (simp; omega)) si_25 ?_)
          refine w_read rfl rfl (s_ldE (k := 0) (i := i) (enc := enI) 0 (fun _ => rfl)  rfl vi_2 hS rfl (by first | omega | simp) (by first | omega | (simp; done) | (simp; omega)) rfl (.inr rfl) ?_)
          refine w_pure rfl rfl (s_move  h11 ?_)
          refine w_pure rfl rfl (s_move  h13 ?_)
          refine w_pure rfl rfl (s_ixr (i := i)  rfl rfl (hO.sl hS enI_len) (by omega) (by first | omega | (simp; done) | (simp; omega)) si_25 ?_)
          refine w_read rfl rfl (s_lde (i := i) 0  rfl vi_2 (hO.sl hS enI_len) (by first | omega | (simp; done) | (simp; omega)) rfl rfl (.inr rfl) ?_)
          refine w_pure rfl rfl (s_add  rfl rfl (r := (P i + Q i)) (by rw [hgu, hgq]; exact wr_i64 _ ⟨rfl, by omega, by omega⟩) ?_)
          refine w_pure rfl rfl (s_ixo (i := i)  rfl rfl (by omega) (by first | omega | (simp; done) | (simp; omega)) si_25 ?_)
          refine w_free rfl rfl (s_stE (k := 0) (i := i) (enc := enI) (P i + Q i) (fun _ => rfl)  rfl rfl vi_2 hS rfl (by first | omega | simp) (by first | omega | (simp; done) | (simp; omega)) rfl rfl ?_)
          intro wz10 hS
          refine w_end ?_
          repeat (with_reducible first | refine c_seq ?_ | refine c_block ?_ | refine c_skip ?_ | refine x_then ?_ | refine x_block ?_)
          replace hS : St w1 _ ([(b6, 2, ((tab n (upd P Q i)).set i (P i + Q i)).flatMap enI)] ++ LO) := hS
          rw [hset] at hS
          repeat (with_reducible first | refine c_seq ?_ | refine c_block ?_ | refine c_skip ?_ | refine x_then ?_ | refine x_block ?_)
          refine c_reg ?_
          refine l_pure rfl (s_move  h13 ?_)
          refine l_pure rfl (s_add  rfl rfl (IntWalk.i64_in _ (by omega)) ?_)
          refine l_pure rfl (s_asg  rfl ?_)
          refine l_nil ?_
          repeat (with_reducible first | refine c_seq ?_ | refine c_block ?_ | refine c_skip ?_ | refine x_then ?_ | refine x_block ?_)
          exact ⟨i + 1, _, rfl, ⟨hlt, by assumption, by assumption, by assumption, by assumption, by assumption, vi rfl (by omega), hS⟩, by omega⟩
        · refine c_no rfl (decide_eq_false (by omega)) ?_
          repeat (with_reducible first | refine c_seq ?_ | refine c_block ?_ | refine c_skip ?_ | refine x_then ?_ | refine x_block ?_)
          refine c_exit ?_
          repeat (with_reducible first | refine x_then_exit ?_ | refine x_block_exit ?_ | refine x_block_pass rfl ?_)
          repeat (with_reducible first | refine c_seq ?_ | refine c_block ?_ | refine c_skip ?_ | refine x_then ?_ | refine x_block ?_)
          obtain rfl : i = n := by omega
          rw [upd_all] at hS
          repeat (with_reducible first | refine c_seq ?_ | refine c_block ?_ | refine c_skip ?_ | refine x_then ?_ | refine x_block ?_)
          refine c_reg ?_
          refine l_pure rfl (s_move  h7 ?_)
          refine l_pure rfl (s_add  rfl rfl (IntWalk.i64_in _ (by omega)) ?_)
          refine l_pure rfl (s_asg  rfl ?_)
          refine l_nil ?_
          repeat (with_reducible first | refine c_seq ?_ | refine c_block ?_ | refine c_skip ?_ | refine x_then ?_ | refine x_block ?_)
          exact ⟨k + 1, _, rfl, ⟨by omega, by assumption, by assumption, by assumption, vi rfl (by omega), fun j => P j + Q j, fun j hj => (hnq j hj).2, hS.drop (List.sublist_append_left _ _)⟩, by omega⟩
      · repeat (with_reducible first | refine c_seq ?_ | refine c_block ?_ | refine c_skip ?_ | refine x_then ?_ | refine x_block ?_)
        refine c_reg ?_
        refine l_pure rfl (s_move  h7 ?_)
        refine l_pure rfl (s_move  h1 ?_)
        refine l_pure rfl (s_lenr  rfl (hs.below hS.below) ⟨_, Tryz.underlying59⟩ ?_)
        refine l_pure rfl (s_lss  rfl rfl ?_)
        refine l_pure rfl (s_move  rfl ?_)
        refine l_pure (gd_yes 28 (by kernel_rfl) rfl (decide_eq_true (by omega))) (s_move  h7 ?_)
        refine l_pure (gd_yes 28 (by kernel_rfl) rfl (decide_eq_true (by omega))) (s_lss  rfl rfl ?_)
        refine l_pure rfl (s_pick (vb rfl (decide_eq_true (by omega))) rfl ?_)
        refine l_nil ?_
        repeat (with_reducible first | refine c_seq ?_ | refine c_block ?_ | refine c_skip ?_ | refine x_then ?_ | refine x_block ?_)
        refine c_no rfl (decide_eq_false (by omega)) ?_
        repeat (with_reducible first | refine c_seq ?_ | refine c_block ?_ | refine c_skip ?_ | refine x_then ?_ | refine x_block ?_)
        refine c_exit ?_
        repeat (with_reducible first | refine x_then_exit ?_ | refine x_block_exit ?_ | refine x_block_pass rfl ?_)
        repeat (with_reducible first | refine c_seq ?_ | refine c_block ?_ | refine c_skip ?_ | refine x_then ?_ | refine x_block ?_)
        exact ⟨_, rfl, h5, h6, P, hP, hS⟩
    · repeat (with_reducible first | refine c_seq ?_ | refine c_block ?_ | refine c_skip ?_ | refine x_then ?_ | refine x_block ?_)
      refine c_reg ?_
      refine l_pure rfl (s_move  h7 ?_)
      refine l_pure rfl (s_move  h1 ?_)
      refine l_pure rfl (s_lenr  rfl (hs.below hS.below) ⟨_, Tryz.underlying59⟩ ?_)
      refine l_pure rfl (s_lss  rfl rfl ?_)
      refine l_pure rfl (s_move  rfl ?_)
      refine l_no (gno_yes 28 (by kernel_rfl) rfl (decide_eq_false (by omega))) ?_
      refine l_no (gno_yes 28 (by kernel_rfl) rfl (decide_eq_false (by omega))) ?_
      refine l_pure rfl (s_pick (vb rfl (decide_eq_false (by omega))) rfl ?_)
      refine l_nil ?_
      repeat (with_reducible first | refine c_seq ?_ | refine c_block ?_ | refine c_skip ?_ | refine x_then ?_ | refine x_block ?_)
      refine c_no rfl (rfl) ?_
      repeat (with_reducible first | refine c_seq ?_ | refine c_block ?_ | refine c_skip ?_ | refine x_then ?_ | refine x_block ?_)
      refine c_exit ?_
      repeat (with_reducible first | refine x_then_exit ?_ | refine x_block_exit ?_ | refine x_block_pass rfl ?_)
      repeat (with_reducible first | refine c_seq ?_ | refine c_block ?_ | refine c_skip ?_ | refine x_then ?_ | refine x_block ?_)
      exact ⟨_, rfl, h5, h6, P, hP, hS⟩
  clear hS
  rintro ρ w2 ⟨h5, h6, P, hP, hS⟩
  have hpd := hS.sle (k := 0) (n := n) (cap := n) rfl enI_len (by rw [tab_len]; omega) (Nat.le_refl _) (by omega)
  rw [List.take_of_length_le (by rw [tab_len]; omega)] at hpd
  have hPb : ∀ y ∈ tab n P, -9223372036854775808 ≤ y ∧ y ≤ 9223372036854775807 := fun y hy => by
    obtain ⟨i, hi, rfl⟩ := tab_mem hy
    have h1 := hP i hi
    have h2 := hbb i hi
    omega
  have hpF : ∀ i, i < n → pdF (tab n P) i = P i := fun i hi => tab_get _ _ hi
  have hPres : ∀ i, i < n → P i ≤ resC ws i := fun i hi => by
    have h1 := hP i hi
    rcases hor i with ⟨_, e⟩ | ⟨_, e, _⟩ <;> omega
  have hlE : lE (tab n P) ws = 0 := by
    unfold lE
    rw [if_neg (by rw [tab_len]; omega), nneg_tab (fun i hi => (hP i hi).1), if_neg (by decide), if_neg (not_not_intro hr0), overB_no (fun i hi => by rw [hpF i (by omega)]; exact hPres i (by omega)), if_neg (by decide)]
  have hlL : lL (tab n P) ws = tab n fun i => resC ws i - pdF (tab n P) i := by
    unfold lL
    rw [if_pos hlE, ← hn]
  obtain ⟨R, hR⟩ : ∃ f, f = fun i => resC ws i - pdF (tab n P) i := ⟨_, rfl⟩
  rw [← hR] at hlL
  have hRg : ∀ i, i < n → R i = resC ws i - P i := fun i hi => by rw [hR]; show resC ws i - pdF (tab n P) i = _; rw [hpF i hi]
  obtain ⟨res, hre⟩ : ∃ f, f = resC ws := ⟨_, rfl⟩
  rw [← hre] at hrl hrb hPres hRg
  replace hvx := hvx.below hS.below
  have hW2 := bt hW hS.below
  clear hS
  have hS := St.init w2
  have ht1 := tab_len n P
  have ht2 := tab_len n R
  have ht3 := tab_len n res
  repeat (with_reducible first | refine c_seq ?_ | refine c_block ?_ | refine c_skip ?_ | refine x_then ?_ | refine x_block ?_)
  refine c_reg ?_
  refine l_pure rfl (s_move  h6 ?_)
  refine l_pure rfl (s_move  h5 ?_)
  refine l_heavy rfl (s_call Tryz.call32 rfl (Last_ok _ x (tab n P) ws 1 _ hpd hPb hvx hRB (by omega) (by omega)) ?_)
  rintro r w3 ⟨⟨va, rfl, hva⟩, hB3⟩
  rw [hlE]
  rw [hlL] at hva
  replace hS := hS.grow hB3
  replace hvx := hvx.below hB3
  replace hpd := hpd.below hB3
  refine l_pure rfl (s_move  rfl ?_)
  refine l_pure rfl (s_ext  rfl rfl ?_)
  refine l_pure rfl (s_ext  rfl rfl ?_)
  refine l_pure rfl (s_asg  rfl ?_)
  refine l_pure rfl (s_asg  rfl ?_)
  refine l_nil ?_
  repeat (with_reducible first | refine c_seq ?_ | refine c_block ?_ | refine c_skip ?_ | refine x_then ?_ | refine x_block ?_)
  refine c_reg ?_
  refine l_pure rfl (s_move  h5 ?_)
  refine l_heavy rfl (s_call Tryz.call24 rfl (RoundR_ok x ws 1 _ hvx hRB (by omega) (by omega)) ?_)
  rintro r w4 ⟨⟨vb_, rfl, hvb⟩, hB4⟩
  rw [hr0]
  rw [hrl] at hvb
  replace hS := hS.grow hB4
  replace hva := hva.below hB4
  replace hpd := hpd.below hB4
  have hW3 := bt hW2 hS.below
  clear hS
  have hS := St.init w4
  refine l_pure rfl (s_move  rfl ?_)
  refine l_pure rfl (s_ext  rfl rfl ?_)
  refine l_pure rfl (s_ext  rfl rfl ?_)
  refine l_pure rfl (s_asg  rfl ?_)
  refine l_pure rfl (s_asg  rfl ?_)
  refine l_nil ?_
  repeat (with_reducible first | refine c_seq ?_ | refine c_block ?_ | refine c_skip ?_ | refine x_then ?_ | refine x_block ?_)
  refine c_reg ?_
  refine l_pure rfl (s_move  rfl ?_)
  refine l_pure rfl (s_neq  rfl rfl ?_)
  refine l_pure rfl (s_move  rfl ?_)
  refine l_pure (gd_yes 115 (by kernel_rfl) rfl rfl) (s_move  rfl ?_)
  refine l_pure (gd_yes 115 (by kernel_rfl) rfl rfl) (s_neq  rfl rfl ?_)
  refine l_pure rfl (s_pick (vb rfl rfl) rfl ?_)
  refine l_pure rfl (s_move  rfl ?_)
  refine l_pure (gd_yes 119 (by kernel_rfl) rfl rfl) (s_move  rfl ?_)
  refine l_pure (gd_yes 119 (by kernel_rfl) rfl rfl) (s_lenr  rfl (hva.below hS.below) ⟨_, Tryz.underlying25⟩ ?_)
  refine l_pure (gd_yes 119 (by kernel_rfl) rfl rfl) (s_move  h6 ?_)
  refine l_pure (gd_yes 119 (by kernel_rfl) rfl rfl) (s_lenr  rfl (hpd.below hS.below) ⟨_, Tryz.underlying25⟩ ?_)
  refine l_pure (gd_yes 119 (by kernel_rfl) rfl rfl) (s_neq  rfl rfl ?_)
  refine l_pure rfl (s_pick (vb rfl rfl) rfl ?_)
  refine l_pure rfl (s_move  rfl ?_)
  refine l_pure (gd_yes 126 (by kernel_rfl) rfl (decide_eq_false (by omega))) (s_move  rfl ?_)
  refine l_pure (gd_yes 126 (by kernel_rfl) rfl (decide_eq_false (by omega))) (s_lenr  rfl (hvb.below hS.below) ⟨_, Tryz.underlying25⟩ ?_)
  refine l_pure (gd_yes 126 (by kernel_rfl) rfl (decide_eq_false (by omega))) (s_move  h6 ?_)
  refine l_pure (gd_yes 126 (by kernel_rfl) rfl (decide_eq_false (by omega))) (s_lenr  rfl (hpd.below hS.below) ⟨_, Tryz.underlying25⟩ ?_)
  refine l_pure (gd_yes 126 (by kernel_rfl) rfl (decide_eq_false (by omega))) (s_neq  rfl rfl ?_)
  refine l_pure rfl (s_pick (vb rfl (decide_eq_false (by omega))) rfl ?_)
  refine l_nil ?_
  repeat (with_reducible first | refine c_seq ?_ | refine c_block ?_ | refine c_skip ?_ | refine x_then ?_ | refine x_block ?_)
  refine c_no rfl (decide_eq_false (by omega)) ?_
  repeat (with_reducible first | refine c_seq ?_ | refine c_block ?_ | refine c_skip ?_ | refine x_then ?_ | refine x_block ?_)
  refine c_forget (fun ρ' => ρ' 6 = .slice (some ⟨b6, 0, none⟩) n n ∧ ρ' 14 = va ∧ ρ' 16 = vb_ ∧ True) ⟨h6, rfl, rfl, trivial⟩ ?_
  rintro ρk11 ⟨hk11_6, hk11_14, hk11_16, -⟩
  repeat (with_reducible first | refine c_seq ?_ | refine c_block ?_ | refine c_skip ?_ | refine x_then ?_ | refine x_block ?_)
  refine c_reg ?_
  refine l_pure rfl (s_asg  rfl ?_)
  refine l_nil ?_
  repeat (with_reducible first | refine c_seq ?_ | refine c_block ?_ | refine c_skip ?_ | refine x_then ?_ | refine x_block ?_)
  refine c_loop (σ := Nat) (fun i ρ w' => i ≤ n ∧ ρ 6 = .slice (some ⟨b6, 0, none⟩) n n ∧ ρ 14 = va ∧ ρ 16 = vb_ ∧ ρ 18 = .int .i64 i ∧ St w4 w' []) (fun i => n - i) 0
    ⟨Nat.zero_le _, by assumption, by assumption, by assumption, rfl, hS⟩ ?_
  clear hS h5 h6
  rintro i ρ w5 ⟨hi, h6, h14, h16, h18, hS⟩
  repeat (with_reducible first | refine c_seq ?_ | refine c_block ?_ | refine c_skip ?_ | refine x_then ?_ | refine x_block ?_)
  refine c_reg ?_
  refine l_pure rfl (s_move  h18 ?_)
  refine l_pure rfl (s_move  h14 ?_)
  refine l_pure rfl (s_lenr  rfl (hva.below hS.below) ⟨_, Tryz.underlying25⟩ ?_)
  refine l_pure rfl (s_lss  rfl rfl ?_)
  refine l_nil ?_
  repeat (with_reducible first | refine c_seq ?_ | refine c_block ?_ | refine c_skip ?_ | refine x_then ?_ | refine x_block ?_)
  by_cases hlt : i < n
  · refine c_yes rfl (decide_eq_true (by omega)) ?_
    repeat (with_reducible first | refine c_seq ?_ | refine c_block ?_ | refine c_skip ?_ | refine x_then ?_ | refine x_block ?_)
    have hg1 : (tab n R).getD i 0 = R i := tab_get _ _ hlt
    have hg2 : (tab n P).getD i 0 = P i := tab_get _ _ hlt
    have hg3 : (tab n res).getD i 0 = res i := tab_get _ _ hlt
    have e1 := hRg i hlt
    have e2 := hPres i hlt
    have e3 := hP i hlt
    have e4 := hrb i hlt
    have hd1 : decide ((tab n R).getD i 0 < 0) = false := by rw [hg1]; exact decide_eq_false (by omega)
    repeat (with_reducible first | refine c_seq ?_ | refine c_block ?_ | refine c_skip ?_ | refine x_then ?_ | refine x_block ?_)
    refine c_draw [(0, .pure), (1, .pure), (2, .pure), (3, .read), (4, .pure), (5, .pure), (6, .pure), (7, .pure), (8, .pure), (9, .read), (10, .pure), (11, .pure), (12, .pure), (13, .read), (14, .pure), (15, .pure), (16, .pure), (17, .pure), (18, .read), (19, .pure), (20, .pure)] (by kernel_rfl) (by kernel_rfl) hS ?_
    intro wz12 hS hBz12
    refine w_pure rfl rfl (s_move  h14 ?_)
    refine w_pure rfl rfl (s_move  h18 ?_)
    refine w_pure rfl rfl (s_ixr (i := i)  rfl rfl (hva.below hS.below) (by omega) (by first | omega | (simp; done) | (simp; omega)) si_25 ?_)
    refine w_read rfl rfl (s_lde (i := i) 0  rfl vi_2 (hva.below hS.below) (by first | omega | (simp; done) | (simp; omega)) rfl rfl (.inr rfl) ?_)
    refine w_pure rfl rfl (s_lss  rfl rfl ?_)
    refine w_pure rfl rfl (s_move  rfl ?_)
    refine w_pure rfl (gd_yes 144 (by kernel_rfl) rfl hd1) (s_move  h6 ?_)
    refine w_pure rfl (gd_yes 144 (by kernel_rfl) rfl hd1) (s_move  h18 ?_)
    refine w_pure rfl (gd_yes 144 (by kernel_rfl) rfl hd1) (s_ixr (i := i)  rfl rfl (hpd.below hS.below) (by omega) (by first | omega | (simp; done) | (simp; omega)) si_25 ?_)
    refine w_read rfl (gd_yes 144 (by kernel_rfl) rfl hd1) (s_lde (i := i) 0  rfl vi_2 (hpd.below hS.below) (by first | omega | (simp; done) | (simp; omega)) rfl rfl (.inr rfl) ?_)
    refine w_pure rfl (gd_yes 144 (by kernel_rfl) rfl hd1) (s_move  h14 ?_)
    refine w_pure rfl (gd_yes 144 (by kernel_rfl) rfl hd1) (s_move  h18 ?_)
    refine w_pure rfl (gd_yes 144 (by kernel_rfl) rfl hd1) (s_ixr (i := i)  rfl rfl (hva.below hS.below) (by omega) (by first | omega | (simp; done) | (simp; omega)) si_25 ?_)
    refine w_read rfl (gd_yes 144 (by kernel_rfl) rfl hd1) (s_lde (i := i) 0  rfl vi_2 (hva.below hS.below) (by first | omega | (simp; done) | (simp; omega)) rfl rfl (.inr rfl) ?_)
    refine w_pure rfl (gd_yes 144 (by kernel_rfl) rfl hd1) (s_add  rfl rfl (IntWalk.i64_in _ (by omega)) ?_)
    refine w_pure rfl (gd_yes 144 (by kernel_rfl) rfl hd1) (s_move  h16 ?_)
    refine w_pure rfl (gd_yes 144 (by kernel_rfl) rfl hd1) (s_move  h18 ?_)
    refine w_pure rfl (gd_yes 144 (by kernel_rfl) rfl hd1) (s_ixr (i := i)  rfl rfl (hvb.below hS.below) (by omega) (by first | omega | (simp; done) | (simp; omega)) si_25 ?_)
    refine w_read rfl (gd_yes 144 (by kernel_rfl) rfl hd1) (s_lde (i := i) 0  rfl vi_2 (hvb.below hS.below) (by first | omega | (simp; done) | (simp; omega)) rfl rfl (.inr rfl) ?_)
    refine w_pure rfl (gd_yes 144 (by kernel_rfl) rfl hd1) (s_neq  rfl rfl ?_)
    refine w_pure rfl rfl (s_pick (vb rfl hd1) rfl ?_)
    refine w_end ?_
    repeat (with_reducible first | refine c_seq ?_ | refine c_block ?_ | refine c_skip ?_ | refine x_then ?_ | refine x_block ?_)
    refine c_no rfl (decide_eq_false (by rw [hg1, hg2, hg3]; omega)) ?_
    repeat (with_reducible first | refine c_seq ?_ | refine c_block ?_ | refine c_skip ?_ | refine x_then ?_ | refine x_block ?_)
    refine c_reg ?_
    refine l_pure rfl (s_move  h18 ?_)
    refine l_pure rfl (s_add  rfl rfl (IntWalk.i64_in _ (by omega)) ?_)
    refine l_pure rfl (s_asg  rfl ?_)
    refine l_nil ?_
    repeat (with_reducible first | refine c_seq ?_ | refine c_block ?_ | refine c_skip ?_ | refine x_then ?_ | refine x_block ?_)
    exact ⟨i + 1, _, rfl, ⟨hlt, by assumption, by assumption, by assumption, vi rfl (by omega), hS⟩, by omega⟩
  · refine c_no rfl (decide_eq_false (by omega)) ?_
    repeat (with_reducible first | refine c_seq ?_ | refine c_block ?_ | refine c_skip ?_ | refine x_then ?_ | refine x_block ?_)
    refine c_exit ?_
    repeat (with_reducible first | refine x_then_exit ?_ | refine x_block_exit ?_ | refine x_block_pass rfl ?_)
    repeat (with_reducible first | refine c_seq ?_ | refine c_block ?_ | refine c_skip ?_ | refine x_then ?_ | refine x_block ?_)
    refine c_reg ?_
    refine l_heavy rfl (s_call Tryz.call19 rfl (Pawake_ok _) ?_)
    rintro _ wc13 ⟨rfl, hBc13⟩
    replace hS := hS.grow hBc13
    refine l_pure rfl (s_asg  rfl ?_)
    refine l_nil ?_
    repeat (with_reducible first | refine c_seq ?_ | refine c_block ?_ | refine c_skip ?_ | refine x_then ?_ | refine x_block ?_)
    refine c_ret ?_
    repeat (with_reducible first | refine x_then_ret ?_ | refine x_block_ret ?_)
    refine r_one rfl rfl ?_
    exact ⟨rfl, bt hW3 hS.below⟩
end Go.Proofs.YtmapmdldlcfjhaaGreatDoor
