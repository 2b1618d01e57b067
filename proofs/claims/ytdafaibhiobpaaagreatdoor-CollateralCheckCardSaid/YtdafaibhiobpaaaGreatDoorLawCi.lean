/-
  The law that items are checked as the document says: its walk.
-/
import Derived.Test.YtdafaibhiobpaaaGreatDoorLawCh
namespace Go.Proofs.YtdafaibhiobpaaaGreatDoor
open Go Go.RowKit Go.Sx

set_option maxHeartbeats 1000000 in
theorem CollateralCheck_ok (vi_ vo : Value) (X : List It) (cvs : List Value) (owed : List RR) (w : World) (hX : Its w vi_ X cvs) (ho : Sl encR 3 w vo owed) :
    Ret Tryz.prog 5 #[vi_, vo] w fun v w' => v = .bool true ∧ Below w.heap.size w w' := by
  have hM : MX = 1099511627776 := rfl
  have hmX := hX.sl.maxLen
  rw [hX.zlen] at hmX
  have hzl := hX.zlen
  have hS := St.init w
  refine enter Tryz.func5 rfl Tryz.ntmps5 rfl ?_
  repeat (with_reducible first | refine c_seq ?_ | refine c_block ?_ | refine c_skip ?_ | refine x_then ?_ | refine x_block ?_)
  refine c_reg ?_
  refine l_pure rfl (s_asg  rfl ?_)
  refine l_nil ?_
  repeat (with_reducible first | refine c_seq ?_ | refine c_block ?_ | refine c_skip ?_ | refine x_then ?_ | refine x_block ?_)
  refine c_reg ?_
  refine l_pure rfl (s_move  rfl ?_)
  refine l_pure rfl (s_move  rfl ?_)
  refine l_heavy rfl (s_call Tryz.call15 rfl (fewI_ok vi_ vo X cvs owed _ (hX.below hS.below) (ho.below hS.below)) ?_)
  rintro _ wc1 ⟨rfl, hBc1⟩
  replace hS := hS.grow hBc1
  refine l_pure rfl (s_not  rfl ?_)
  refine l_nil ?_
  repeat (with_reducible first | refine c_seq ?_ | refine c_block ?_ | refine c_skip ?_ | refine x_then ?_ | refine x_block ?_)
  cases hf : fewI X owed with
  | false =>
    refine c_yes rfl (rfl) ?_
    repeat (with_reducible first | refine c_seq ?_ | refine c_block ?_ | refine c_skip ?_ | refine x_then ?_ | refine x_block ?_)
    refine c_reg ?_
    refine l_heavy rfl (s_call Tryz.call16 rfl (Cawake_ok _) ?_)
    rintro _ wc2 ⟨rfl, hBc2⟩
    replace hS := hS.grow hBc2
    refine l_pure rfl (s_asg  rfl ?_)
    refine l_nil ?_
    repeat (with_reducible first | refine c_seq ?_ | refine c_block ?_ | refine c_skip ?_ | refine x_then ?_ | refine x_block ?_)
    refine c_ret ?_
    repeat (with_reducible first | refine x_then_ret ?_ | refine x_block_ret ?_)
    refine r_one rfl rfl ?_
    exact ⟨rfl, hS.below⟩
  | true =>
  obtain ⟨hx10, ho10, hXB, hoB, hx12⟩ := fewI_B hf
  refine c_no rfl (rfl) ?_
  repeat (with_reducible first | refine c_seq ?_ | refine c_block ?_ | refine c_skip ?_ | refine x_then ?_ | refine x_block ?_)
  refine c_reg ?_
  refine l_pure rfl (s_move  rfl ?_)
  refine l_pure rfl (s_lenr  rfl (hX.sl.below hS.below) ⟨_, Tryz.underlying42⟩ ?_)
  refine l_pure rfl (s_move  rfl ?_)
  refine l_nil ?_
  repeat (with_reducible first | refine c_seq ?_ | refine c_block ?_ | refine c_skip ?_ | refine x_then ?_ | refine x_block ?_)
  refine c_loop (σ := Nat) (fun i ρ w' => i ≤ X.length ∧ ρ 0 = vi_ ∧ ρ 1 = vo ∧ ρ 12 = vi_ ∧ ρ 13 = .int .i64 X.length ∧ ρ 14 = .int .i64 i ∧ St w w' []) (fun i => X.length - i) 0
    ⟨Nat.zero_le _, rfl, rfl, rfl, vi rfl (by rw [hzl]), rfl, hS⟩ ?_
  clear hS
  rintro i ρ w2 ⟨hi, h0, h1, h12, h13, h14, hS⟩
  repeat (with_reducible first | refine c_seq ?_ | refine c_block ?_ | refine c_skip ?_ | refine x_then ?_ | refine x_block ?_)
  refine c_reg ?_
  refine l_pure rfl (s_lss  h14 h13 ?_)
  refine l_nil ?_
  repeat (with_reducible first | refine c_seq ?_ | refine c_block ?_ | refine c_skip ?_ | refine x_then ?_ | refine x_block ?_)
  by_cases hlt : i < X.length
  · refine c_yes rfl (decide_eq_true (by omega)) ?_
    repeat (with_reducible first | refine c_seq ?_ | refine c_block ?_ | refine c_skip ?_ | refine x_then ?_ | refine x_block ?_)
    obtain ⟨x, hx⟩ : ∃ x, x = X.getD i zIt := ⟨_, rfl⟩
    obtain ⟨cv, hcv⟩ : ∃ cv, cv = cvs.getD i undef := ⟨_, rfl⟩
    have hxB := hXB x (by rw [hx]; exact getD_mem X i zIt hlt)
    have hch := hX.ch i hlt
    rw [← hx, ← hcv] at hch
    obtain ⟨ca, ccap, hcve, _⟩ := hch.form
    subst hcve
    have hzg := hX.zget hlt
    rw [← hx, ← hcv] at hzg
    repeat (with_reducible first | refine c_seq ?_ | refine c_block ?_ | refine c_skip ?_ | refine x_then ?_ | refine x_block ?_)
    refine c_reg ?_
    refine l_pure rfl (s_ixr (i := i)  h12 h14 (hX.sl.below hS.below) (by omega) (by first | omega | (simp; done) | (simp; omega)) si_42 ?_)
    refine l_read rfl (s_lde (v := aggIt x (.slice ca x.charges.length ccap)) (i := i) (zIt, undef)  rfl vi_46 (hX.sl.below hS.below) (by omega) rfl (by rw [hzg]; rfl) (.inl rfl) ?_)
    refine l_heavy rfl (s_alloc  vi_46 hS ?_)
    intro b6 wz3 hS hBz3
    refine l_heavy rfl (s_sta (k := 0)  rfl rfl vi_46 hS rfl rfl rfl (Nat.le_of_ble_eq_true rfl) rfl ?_)
    intro wz4 hS
    refine l_nil ?_
    repeat (with_reducible first | refine c_seq ?_ | refine c_block ?_ | refine c_skip ?_ | refine x_then ?_ | refine x_block ?_)
    replace hS : St w _ [(b6, 46, encIt (x, .slice ca x.charges.length ccap))] := hS
    repeat (with_reducible first | refine c_seq ?_ | refine c_block ?_ | refine c_skip ?_ | refine x_then ?_ | refine x_block ?_)
    refine c_forget (fun ρ' => ρ' 0 = vi_ ∧ ρ' 1 = vo ∧ ρ' 12 = vi_ ∧ ρ' 13 = .int .i64 X.length ∧ ρ' 14 = .int .i64 i ∧ ρ' 6 = .pointer (some ⟨b6, 0, none⟩) ∧ True) ⟨h0, h1, h12, h13, h14, rfl, trivial⟩ ?_
    rintro ρk5 ⟨hk5_0, hk5_1, hk5_12, hk5_13, hk5_14, hk5_6, -⟩
    repeat (with_reducible first | refine c_seq ?_ | refine c_block ?_ | refine c_skip ?_ | refine x_then ?_ | refine x_block ?_)
    refine c_draw [(0, .read), (2, .read), (1, .grow), (3, .grow), (4, .pure)] (by kernel_rfl) (by kernel_rfl) hS ?_
    intro wz6 hS hBz6
    refine w_read rfl rfl (s_ldo (k := 0)  hk5_6 vi_46 hS rfl rfl rfl (.inl rfl) ?_)
    refine w_read rfl rfl (s_ldo (k := 0)  hk5_6 vi_46 hS rfl rfl rfl (.inl rfl) ?_)
    refine w_grow rfl rfl (s_call Tryz.call17 rfl (Proceeds_ok x ca x.charges.length ccap _ (by omega)) ?_)
    rintro r w3 ⟨rfl, hB3⟩
    refine ⟨hB3, ?_⟩
    replace hS := hS.grow hB3
    refine w_grow rfl rfl (s_call Tryz.call18 rfl (rProceeds_ok x ca x.charges.length ccap _ (by omega)) ?_)
    rintro r w4 ⟨rfl, hB4⟩
    refine ⟨hB4, ?_⟩
    replace hS := hS.grow hB4
    refine w_pure rfl rfl (s_neR  rfl rfl ?_)
    refine w_end ?_
    repeat (with_reducible first | refine c_seq ?_ | refine c_block ?_ | refine c_skip ?_ | refine x_then ?_ | refine x_block ?_)
    refine c_no rfl (decide_eq_false (fun h => h rfl)) ?_
    repeat (with_reducible first | refine c_seq ?_ | refine c_block ?_ | refine c_skip ?_ | refine x_then ?_ | refine x_block ?_)
    refine c_reg ?_
    refine l_pure rfl (s_add  hk5_14 rfl (IntWalk.i64_in _ (by omega)) ?_)
    refine l_pure rfl (s_move  rfl ?_)
    refine l_nil ?_
    repeat (with_reducible first | refine c_seq ?_ | refine c_block ?_ | refine c_skip ?_ | refine x_then ?_ | refine x_block ?_)
    exact ⟨i + 1, _, rfl, ⟨hlt, by assumption, by assumption, by assumption, by assumption, vi rfl (by omega), hS.drop (List.nil_sublist _)⟩, by omega⟩
  · refine c_no rfl (decide_eq_false (by omega)) ?_
    repeat (with_reducible first | refine c_seq ?_ | refine c_block ?_ | refine c_skip ?_ | refine x_then ?_ | refine x_block ?_)
    refine c_exit ?_
    repeat (with_reducible first | refine x_then_exit ?_ | refine x_block_exit ?_ | refine x_block_pass rfl ?_)
    repeat (with_reducible first | refine c_seq ?_ | refine c_block ?_ | refine c_skip ?_ | refine x_then ?_ | refine x_block ?_)
    refine c_reg ?_
    refine l_heavy rfl (s_call Tryz.call16 rfl (Cawake_ok _) ?_)
    rintro r w3 ⟨rfl, hB3⟩
    replace hS := hS.grow hB3
    refine l_pure rfl (s_move  rfl ?_)
    refine l_pure (gd_yes 25 (by kernel_rfl) rfl rfl) (s_move  h0 ?_)
    refine l_pure (gd_yes 25 (by kernel_rfl) rfl rfl) (s_move  h1 ?_)
    refine l_heavy (gd_yes 25 (by kernel_rfl) rfl rfl) (s_call Tryz.call19 rfl (Check_ok vi_ vo X cvs owed _ (hX.below hS.below) (ho.below hS.below) (ItB_mono hXB (by omega)) (RB_mono hoB (by omega))) ?_)
    rintro r w4 ⟨rfl, hB4⟩
    replace hS := hS.grow hB4
    refine l_pure (gd_yes 25 (by kernel_rfl) rfl rfl) (s_move  h0 ?_)
    refine l_pure (gd_yes 25 (by kernel_rfl) rfl rfl) (s_move  h1 ?_)
    refine l_heavy (gd_yes 25 (by kernel_rfl) rfl rfl) (s_call Tryz.call20 rfl (rCheck_ok vi_ vo X cvs owed _ (hX.below hS.below) (ho.below hS.below) (ItB_mono hXB (by omega)) (RB_mono hoB (by omega))) ?_)
    rintro r w5 ⟨rfl, hB5⟩
    replace hS := hS.grow hB5
    refine l_pure (gd_yes 25 (by kernel_rfl) rfl rfl) (s_eql  rfl rfl ?_)
    refine l_pure rfl (s_pick (vb rfl rfl) rfl ?_)
    refine l_pure rfl (s_asg  rfl ?_)
    refine l_nil ?_
    repeat (with_reducible first | refine c_seq ?_ | refine c_block ?_ | refine c_skip ?_ | refine x_then ?_ | refine x_block ?_)
    refine c_ret ?_
    repeat (with_reducible first | refine x_then_ret ?_ | refine x_block_ret ?_)
    refine r_one rfl rfl ?_
    exact ⟨vb rfl (decide_eq_true rfl), hS.below⟩
end Go.Proofs.YtdafaibhiobpaaaGreatDoor
