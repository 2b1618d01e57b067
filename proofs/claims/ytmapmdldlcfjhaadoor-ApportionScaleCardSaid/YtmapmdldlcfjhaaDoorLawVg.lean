/-
  The law that only the proportions matter: its walk.
-/
import Derived.Test.YtmapmdldlcfjhaaDoorLawVd
namespace Go.Proofs.YtmapmdldlcfjhaaDoor
open Go Go.RowKit Go.Sx

/-- The weights times a factor. -/
def mulL (ws : List RR) (f : Rat) : List RR := tab ws.length fun i => ofQ (toQ (ws.getD i zRR) * f)
theorem mulL_len (ws : List RR) (f : Rat) : (mulL ws f).length = ws.length := tab_len _ _
theorem mulL_at {ws : List RR} {f : Rat} {i : Nat} (hi : i < ws.length) : toQ ((mulL ws f).getD i zRR) = toQ (ws.getD i zRR) * f := by
  unfold mulL
  rw [tab_get _ _ hi, toQ_ofQ]
theorem mulL_sum (ws : List RR) (f : Rat) : sumQ ((mulL ws f).map toQ) = sumQ (ws.map toQ) * f := by
  rw [sumR_list, mulL_len, sumR_congr fun i hi => mulL_at hi, sumR_mul, ← sumR_list]
theorem mulL_negs {ws : List RR} {f : Rat} (h : negs ws = false) (hf : 0 < f) : negs (mulL ws f) = false := negs_of fun q hq => by
  obtain ⟨r, hr, rfl⟩ := List.mem_map.1 hq
  obtain ⟨j, _, rfl⟩ := tab_mem hr
  rw [toQ_ofQ]
  exact Rat.mul_nonneg (negs_get h j) (Rat.le_of_lt hf)
theorem mulL_sh {total : Int} {ws : List RR} {f : Rat} (hf : 0 < f) : shL total (mulL ws f) = shL total ws := by
  unfold shL
  rw [mulL_len]
  refine tab_congr fun i hi => ?_
  unfold shQ
  rw [mulL_at hi, mulL_sum]
  congr 1
  have hf0 : f ≠ 0 := by grind
  by_cases hs : sumQ (ws.map toQ) = 0
  · rw [hs, Rat.zero_mul]
    have e : (total : Rat) / 0 = 0 := by rw [Rat.div_def, Rat.inv_zero, Rat.mul_zero]
    rw [e, Rat.zero_mul, Rat.zero_mul]
  · have h1 : (total : Rat) / (sumQ (ws.map toQ) * f) * f = (total : Rat) / sumQ (ws.map toQ) := by
      have hsf : sumQ (ws.map toQ) * f ≠ 0 := by
        intro g
        have := Rat.mul_inv_cancel f hf0
        have h2 : sumQ (ws.map toQ) * f * f⁻¹ = 0 := by rw [g, Rat.zero_mul]
        rw [Rat.mul_assoc, this, Rat.mul_one] at h2
        exact hs h2
      have e1 : (total : Rat) / (sumQ (ws.map toQ) * f) * (sumQ (ws.map toQ) * f) = total := Rat.div_mul_cancel hsf
      have e2 : (total : Rat) / (sumQ (ws.map toQ) * f) * f * sumQ (ws.map toQ) = total := by rw [Rat.mul_assoc, Rat.mul_comm f]; exact e1
      have e3 : (total : Rat) / (sumQ (ws.map toQ) * f) * f * sumQ (ws.map toQ) * (sumQ (ws.map toQ))⁻¹ = (total : Rat) * (sumQ (ws.map toQ))⁻¹ := by rw [e2]
      rw [Rat.mul_assoc, Rat.mul_inv_cancel _ hs, Rat.mul_one] at e3
      rw [e3, Rat.div_def]
    rw [Rat.mul_comm (toQ _) f, ← Rat.mul_assoc, h1]
theorem mulL_sp {total : Int} {ws : List RR} {f : Rat} (hn : negs ws = false) (hf : 0 < f) : spE total (mulL ws f) = spE total ws ∧ spL total (mulL ws f) = spL total ws := by
  have hs : sumQ ((mulL ws f).map toQ) = 0 ↔ sumQ (ws.map toQ) = 0 := by
    rw [mulL_sum]
    have hf0 : f ≠ 0 := by grind
    constructor
    · intro g
      have := Rat.mul_inv_cancel f hf0
      have h2 : sumQ (ws.map toQ) * f * f⁻¹ = 0 := by rw [g, Rat.zero_mul]
      rwa [Rat.mul_assoc, this, Rat.mul_one] at h2
    · intro g; rw [g, Rat.zero_mul]
  have he : spE total (mulL ws f) = spE total ws := by
    unfold spE
    rw [mulL_len, mulL_sh hf, mulL_negs hn hf, hn]
    by_cases g : sumQ (ws.map toQ) = 0
    · rw [if_pos g, if_pos (hs.2 g)]
    · rw [if_neg g, if_neg (fun q => g (hs.1 q))]
  exact ⟨he, by unfold spL; rw [he, mulL_sh hf]⟩
set_option maxHeartbeats 2000000 in
theorem ApportionScale_ok (t : Nat) (vl : Value) (l : List Nat) (b : Nat) (w : World) (ht : t < 4294967296) (hb : b < 65536) (hl : Sl (uk .u16) 1 w vl l) (hlb : ∀ x ∈ l, x < 65536) :
    Ret Tryd.prog 5 #[.int .u32 t, vl, .int .u16 b] w fun v w' => v = .bool true ∧ Below w.heap.size w w' := by
  have hM : MX = 1099511627776 := rfl
  have hS := St.init w
  obtain ⟨ws, hws⟩ : ∃ ws, ws = amts l 12 := ⟨_, rfl⟩
  have hRB : RB 1 ws := by rw [hws]; exact amts_RB l 12
  have hwl : ws.length ≤ 12 := by rw [hws, amts_len]; omega
  have hng : negs ws = false := by rw [hws]; exact amts_negs l 12
  obtain ⟨n, hn⟩ : ∃ n, n = ws.length := ⟨_, rfl⟩
  obtain ⟨f, hf⟩ : ∃ f, f = mkRat ((1 + b % 50 : Nat) : Int) (1 + b / 50 % 50) := ⟨_, rfl⟩
  have hLf : L f ≤ 1 := by
    rw [hf]
    exact L_mkRat _ (by omega) (natS_size_le (by rw [Int.natAbs_natCast]; omega)) (natS_size_le (by omega))
  have hf0 : 0 < f := by
    have h1 : 0 ≤ f := by
      rw [hf, ← Rat.divInt_ofNat]
      exact Rat.divInt_nonneg (Int.natCast_nonneg _) (Int.natCast_nonneg _)
    have h2 : f ≠ 0 := by
      rw [hf]
      exact (Rat.mkRat_ne_zero (by omega)).2 (by omega)
    grind
  have hRB2 : RB 2 (mulL ws f) := fun r hr => by
    obtain ⟨j, hj, rfl⟩ := tab_mem hr
    have := L_mul (toQ (ws.getD j zRR)) f
    have := L_toQ (ws.getD j zRR)
    have := hRB _ (getD_mem ws j zRR hj)
    rw [Lr_ofQ]; omega
  obtain ⟨sp1, sp2⟩ := mulL_sp (total := (t : Int)) hng hf0
  have hmulL : mulL ws f = tab n fun i => ofQ (toQ (ws.getD i zRR) * f) := by rw [hn]; rfl
  refine enter Tryd.func5 rfl Tryd.ntmps5 rfl ?_
  repeat (with_reducible first | refine c_seq ?_ | refine c_block ?_ | refine c_skip ?_ | refine x_then ?_ | refine x_block ?_)
  refine c_reg ?_
  refine l_pure rfl (s_asg  rfl ?_)
  refine l_nil ?_
  repeat (with_reducible first | refine c_seq ?_ | refine c_block ?_ | refine c_skip ?_ | refine x_then ?_ | refine x_block ?_)
  refine c_reg ?_
  refine l_pure rfl (s_move  rfl ?_)
  refine l_heavy rfl (s_call Tryd.call7 rfl (Amounts_ok vl l 12 _ (hl.below hS.below) hlb (by decide)) ?_)
  rintro x w1 ⟨hvx, hB1⟩
  rw [← hws] at hvx
  replace hS := hS.grow hB1
  refine l_pure rfl (s_asg  rfl ?_)
  refine l_nil ?_
  repeat (with_reducible first | refine c_seq ?_ | refine c_block ?_ | refine c_skip ?_ | refine x_then ?_ | refine x_block ?_)
  refine c_reg ?_
  refine l_pure rfl (s_move  rfl ?_)
  refine l_pure rfl (s_rem  rfl rfl (by omega) (r := ((b % 50 : Nat) : Int)) (by exact rem_nat b 50) ?_)
  refine l_pure rfl (s_conv  rfl Tryd.underlying3 ⟨_, Tryd.underlying42⟩ (r := ((b % 50 : Nat) : Int)) (by exact wr_i64 _ ⟨rfl, by omega, by omega⟩) ?_)
  refine l_pure rfl (s_add  rfl rfl (r := ((1 + b % 50 : Nat) : Int)) (by exact wr_i64 _ ⟨by omega, by omega, by omega⟩) ?_)
  refine l_pure rfl (s_move  rfl ?_)
  refine l_pure rfl (s_quo  rfl rfl (by omega) (quo_u16 b 50 hb) ?_)
  refine l_pure rfl (s_rem  rfl rfl (by omega) (rem_nat (b / 50) 50) ?_)
  refine l_pure rfl (s_conv  rfl Tryd.underlying3 ⟨_, Tryd.underlying42⟩ (r := ((b / 50 % 50 : Nat) : Int)) (by exact wr_i64 _ ⟨rfl, by omega, by omega⟩) ?_)
  refine l_pure rfl (s_add  rfl rfl (r := ((1 + b / 50 % 50 : Nat) : Int)) (by exact wr_i64 _ ⟨by omega, by omega, by omega⟩) ?_)
  refine l_heavy rfl (s_call Tryd.call18 rfl (Ratio_ok ((1 + b % 50 : Nat) : Int) (1 + b / 50 % 50) _ (by omega) (by omega) (by omega) (by omega)) ?_)
  rintro r w2 ⟨rfl, hB2⟩
  rw [← hf]
  replace hvx := hvx.below hB2
  replace hS := hS.grow hB2
  have hW := hS.below
  clear hS
  have hS := St.init w2
  refine l_heavy rfl (s_alloc  vi_31 hS ?_)
  intro b8 wz1 hS hBz1
  refine l_heavy rfl (s_sta (k := 0)  rfl rfl vi_31 hS rfl rfl rfl (Nat.le_of_ble_eq_true rfl) rfl ?_)
  intro wz2 hS
  refine l_nil ?_
  repeat (with_reducible first | refine c_seq ?_ | refine c_block ?_ | refine c_skip ?_ | refine x_then ?_ | refine x_block ?_)
  replace hS : St w2 _ [(b8, 31, encR (ofQ f))] := hS
  repeat (with_reducible first | refine c_seq ?_ | refine c_block ?_ | refine c_skip ?_ | refine x_then ?_ | refine x_block ?_)
  refine c_forget (fun ρ' => ρ' 0 = .int .u32 (t : Int) ∧ ρ' 7 = x ∧ ρ' 8 = .pointer (some ⟨b8, 0, none⟩) ∧ True) ⟨rfl, rfl, rfl, trivial⟩ ?_
  rintro ρk3 ⟨hk3_0, hk3_7, hk3_8, -⟩
  repeat (with_reducible first | refine c_seq ?_ | refine c_block ?_ | refine c_skip ?_ | refine x_then ?_ | refine x_block ?_)
  refine c_reg ?_
  refine l_pure rfl (s_asg  rfl ?_)
  refine l_nil ?_
  repeat (with_reducible first | refine c_seq ?_ | refine c_block ?_ | refine c_skip ?_ | refine x_then ?_ | refine x_block ?_)
  refine c_reg ?_
  refine l_pure rfl (s_move  hk3_7 ?_)
  refine l_pure rfl (s_lenr  rfl (hvx.below hS.below) ⟨_, Tryd.underlying24⟩ ?_)
  refine l_pure rfl (s_move  rfl ?_)
  refine l_nil ?_
  repeat (with_reducible first | refine c_seq ?_ | refine c_skip ?_ | refine x_then ?_ | refine x_block ?_)
  refine c_cut1 (fun ρ w' => ρ 0 = .int .u32 (t : Int) ∧ ρ 7 = x ∧ ∃ sP LP, ρ 9 = sP ∧ Gl encR 31 3 sP (tab n fun i => ofQ (toQ (ws.getD i zRR) * f)) LP ∧ St w2 w' ([(b8, 31, encR (ofQ f))] ++ LP)) ?_ ?_
  · repeat (with_reducible first | refine c_seq ?_ | refine c_block ?_ | refine c_skip ?_ | refine x_then ?_ | refine x_block ?_)
    refine c_loop (σ := Nat) (fun i ρ w' => i ≤ n ∧ ρ 0 = .int .u32 (t : Int) ∧ ρ 7 = x ∧ ρ 8 = .pointer (some ⟨b8, 0, none⟩) ∧ ρ 28 = x ∧ ρ 29 = .int .i64 n ∧ ρ 30 = .int .i64 i ∧ ∃ sP LP, ρ 9 = sP ∧ Gl encR 31 3 sP (tab i fun i => ofQ (toQ (ws.getD i zRR) * f)) LP ∧ St w2 w' ([(b8, 31, encR (ofQ f))] ++ LP)) (fun i => n - i) 0
      ⟨Nat.zero_le _, by assumption, by assumption, by assumption, rfl, vi rfl (by omega), rfl, ⟨_, [], rfl, Gl.nil _ _ _, hS⟩⟩ ?_
    clear hS
    rintro i ρ w4 ⟨hi, h0, h7, h8, h28, h29, h30, sP, LP, h9, hP, hS⟩
    have htl := tab_len i (fun i => ofQ (toQ (ws.getD i zRR) * f))
    repeat (with_reducible first | refine c_seq ?_ | refine c_block ?_ | refine c_skip ?_ | refine x_then ?_ | refine x_block ?_)
    refine c_reg ?_
    refine l_pure rfl (s_lss  h30 h29 ?_)
    refine l_nil ?_
    repeat (with_reducible first | refine c_seq ?_ | refine c_block ?_ | refine c_skip ?_ | refine x_then ?_ | refine x_block ?_)
    by_cases hlt : i < n
    · refine c_yes rfl (decide_eq_true (by omega)) ?_
      repeat (with_reducible first | refine c_seq ?_ | refine c_block ?_ | refine c_skip ?_ | refine x_then ?_ | refine x_block ?_)
      have hLi := hRB _ (getD_mem ws i zRR (by omega))
      have hmu := fun w => QMultiply_ok (ws.getD i zRR) (ofQ f) w (by rw [Lr_ofQ]; omega)
      rw [toQ_ofQ] at hmu
      repeat (with_reducible first | refine c_seq ?_ | refine c_block ?_ | refine c_skip ?_ | refine x_then ?_ | refine x_block ?_)
      refine c_reg ?_
      refine l_pure rfl (s_ixr (i := i)  h28 h30 (hvx.below hS.below) (by omega) (by first | omega | (simp; done) | (simp; omega)) si_24 ?_)
      refine l_read rfl (s_lde (i := i) zRR  rfl vi_31 (hvx.below hS.below) (by first | omega | (simp; done) | (simp; omega)) rfl rfl (.inl rfl) ?_)
      refine l_heavy rfl (s_alloc  vi_31 hS ?_)
      intro b11 wz4 hS hBz4
      refine l_heavy rfl (s_sta (k := 0)  rfl rfl vi_31 hS rfl rfl rfl (Nat.le_of_ble_eq_true rfl) rfl ?_)
      intro wz5 hS
      refine l_nil ?_
      repeat (with_reducible first | refine c_seq ?_ | refine c_block ?_ | refine c_skip ?_ | refine x_then ?_ | refine x_block ?_)
      replace hS : St w2 _ ([(b11, 31, encR (ws.getD i zRR)), (b8, 31, encR (ofQ f))] ++ LP) := hS
      repeat (with_reducible first | refine c_seq ?_ | refine c_block ?_ | refine c_skip ?_ | refine x_then ?_ | refine x_block ?_)
      refine c_reg ?_
      refine l_pure rfl (s_move  h9 ?_)
      refine l_read rfl (s_ldo (k := 0)  rfl vi_31 hS rfl rfl rfl (.inl rfl) ?_)
      refine l_read rfl (s_ldo (k := 1)  h8 vi_31 hS rfl rfl rfl (.inl rfl) ?_)
      refine l_heavy rfl (s_call Tryd.call14 rfl (hmu _) ?_)
      rintro _ wc6 ⟨rfl, hBc6⟩
      replace hS := hS.grow hBc6
      refine l_heavy rfl (s_bsl (vs := [aggR (ofQ (toQ (ws.getD i zRR) * f))])  rfl si_24 rfl (by decide) (by decide) (by decide) (by simp [Value.cells, aggR]) rfl hS ?_)
      intro bx wz7 hS hBz7
      refine l_heavy rfl (s_appl [ofQ (toQ (ws.getD i zRR) * f)]  rfl rfl si_24 (by decide) hP hS rfl rfl encR_len (encR_one [ofQ (toQ (ws.getD i zRR) * f)]) (by first | omega | (simp only [List.length_cons, List.length_nil]; omega)) (by first | omega | (simp only [List.length_cons, List.length_nil]; omega)) ?_)
      intro va8 La8 wa8 hP hS hga8
      refine l_pure rfl (s_asg  rfl ?_)
      refine l_nil ?_
      repeat (with_reducible first | refine c_seq ?_ | refine c_block ?_ | refine c_skip ?_ | refine x_then ?_ | refine x_block ?_)
      rw [← tab_succ] at hP
      repeat (with_reducible first | refine c_seq ?_ | refine c_block ?_ | refine c_skip ?_ | refine x_then ?_ | refine x_block ?_)
      refine c_reg ?_
      refine l_pure rfl (s_add  h30 rfl (IntWalk.i64_in _ (by omega)) ?_)
      refine l_pure rfl (s_move  rfl ?_)
      refine l_nil ?_
      repeat (with_reducible first | refine c_seq ?_ | refine c_block ?_ | refine c_skip ?_ | refine x_then ?_ | refine x_block ?_)
      exact ⟨i + 1, _, rfl, ⟨hlt, by assumption, by assumption, by assumption, by assumption, by assumption, vi rfl (by omega), ⟨_, _, rfl, hP, hS.drop (List.sublist_cons_self _ _)⟩⟩, by omega⟩
    · refine c_no rfl (decide_eq_false (by omega)) ?_
      repeat (with_reducible first | refine c_seq ?_ | refine c_block ?_ | refine c_skip ?_ | refine x_then ?_ | refine x_block ?_)
      refine c_exit ?_
      repeat (with_reducible first | refine x_then_exit ?_ | refine x_block_exit ?_ | refine x_block_pass rfl ?_)
      repeat (with_reducible first | refine c_seq ?_ | refine c_block ?_ | refine c_skip ?_ | refine x_then ?_ | refine x_block ?_)
      obtain rfl : i = n := by omega
      exact ⟨_, rfl, h0, h7, ⟨_, _, h9, hP, hS⟩⟩
  clear hS
  rintro ρ w4 ⟨h0, h7, sP, LP, h9, hP, hS⟩
  have hvm := hP.sl hS encR_len
  rw [← hmulL] at hvm
  replace hvx := hvx.below hS.below
  have hW2 := bt hW hS.below
  clear hS
  have hS := St.init w4
  repeat (with_reducible first | refine c_seq ?_ | refine c_block ?_ | refine c_skip ?_ | refine x_then ?_ | refine x_block ?_)
  refine c_reg ?_
  refine l_pure rfl (s_move  h0 ?_)
  refine l_pure rfl (s_conv  rfl Tryd.underlying2 ⟨_, Tryd.underlying22⟩ (r := (t : Int)) (by exact wr_i64 _ ⟨rfl, by omega, by omega⟩) ?_)
  refine l_pure rfl (s_move  h7 ?_)
  refine l_heavy rfl (s_call Tryd.call8 rfl (Split_ok (t : Int) x ws 1 _ (by omega) (by omega) hvx hRB (by omega) (by omega)) ?_)
  rintro r w5 ⟨⟨va, rfl, hva⟩, hB5⟩
  replace hS := hS.grow hB5
  replace hvm := hvm.below hB5
  refine l_pure rfl (s_move  rfl ?_)
  refine l_pure rfl (s_ext  rfl rfl ?_)
  refine l_pure rfl (s_ext  rfl rfl ?_)
  refine l_pure rfl (s_asg  rfl ?_)
  refine l_pure rfl (s_asg  rfl ?_)
  refine l_nil ?_
  repeat (with_reducible first | refine c_seq ?_ | refine c_block ?_ | refine c_skip ?_ | refine x_then ?_ | refine x_block ?_)
  refine c_reg ?_
  refine l_pure rfl (s_move  h0 ?_)
  refine l_pure rfl (s_conv  rfl Tryd.underlying2 ⟨_, Tryd.underlying22⟩ (r := (t : Int)) (by exact wr_i64 _ ⟨rfl, by omega, by omega⟩) ?_)
  refine l_pure rfl (s_move  h9 ?_)
  refine l_heavy rfl (s_call Tryd.call8 rfl (Split_ok (t : Int) sP (mulL ws f) 2 _ (by omega) (by omega) hvm hRB2 (by rw [mulL_len]; omega) (by omega)) ?_)
  rintro r w6 ⟨⟨vb_, rfl, hvb⟩, hB6⟩
  rw [sp1]
  rw [sp2] at hvb
  replace hS := hS.grow hB6
  replace hva := hva.below hB6
  refine l_pure rfl (s_move  rfl ?_)
  refine l_pure rfl (s_ext  rfl rfl ?_)
  refine l_pure rfl (s_ext  rfl rfl ?_)
  refine l_pure rfl (s_asg  rfl ?_)
  refine l_pure rfl (s_asg  rfl ?_)
  refine l_nil ?_
  repeat (with_reducible first | refine c_seq ?_ | refine c_block ?_ | refine c_skip ?_ | refine x_then ?_ | refine x_block ?_)
  refine c_reg ?_
  refine l_heavy rfl (s_call Tryd.call11 rfl (Aawake_ok _) ?_)
  rintro r wa ⟨rfl, hBa⟩
  replace hS := hS.grow hBa
  replace hva := hva.below hBa
  replace hvb := hvb.below hBa
  refine l_pure rfl (s_move  rfl ?_)
  refine l_pure (gd_yes 56 (by kernel_rfl) rfl rfl) (s_move  rfl ?_)
  refine l_pure (gd_yes 56 (by kernel_rfl) rfl rfl) (s_move  rfl ?_)
  refine l_pure (gd_yes 56 (by kernel_rfl) rfl rfl) (s_eql  rfl rfl ?_)
  refine l_pure rfl (s_pick (vb rfl rfl) rfl ?_)
  refine l_pure rfl (s_move  rfl ?_)
  refine l_pure (gd_yes 61 (by kernel_rfl) rfl (decide_eq_true rfl)) (s_move  rfl ?_)
  refine l_pure (gd_yes 61 (by kernel_rfl) rfl (decide_eq_true rfl)) (s_move  rfl ?_)
  refine l_heavy (gd_yes 61 (by kernel_rfl) rfl (decide_eq_true rfl)) (s_call Tryd.call19 rfl (same_ok _ _ _ _ _ hva hvb) ?_)
  rintro r w7 ⟨rfl, hB7⟩
  replace hS := hS.grow hB7
  refine l_pure rfl (s_pick (vb rfl (decide_eq_true rfl)) rfl ?_)
  refine l_pure rfl (s_asg  rfl ?_)
  refine l_nil ?_
  repeat (with_reducible first | refine c_seq ?_ | refine c_block ?_ | refine c_skip ?_ | refine x_then ?_ | refine x_block ?_)
  refine c_ret ?_
  repeat (with_reducible first | refine x_then_ret ?_ | refine x_block_ret ?_)
  refine r_one rfl rfl ?_
  exact ⟨vb rfl (decide_eq_true rfl), bt hW2 hS.below⟩
end Go.Proofs.YtmapmdldlcfjhaaDoor
