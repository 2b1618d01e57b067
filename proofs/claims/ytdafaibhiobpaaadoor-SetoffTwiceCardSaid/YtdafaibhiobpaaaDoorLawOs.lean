/-
  The law that set-off leaves balances unchanged: its walk.
-/
import Derived.Test.YtdafaibhiobpaaaDoorLawOr
namespace Go.Proofs.YtdafaibhiobpaaaDoor
open Go Go.RowKit Go.Sx

set_option maxHeartbeats 4000000 in
theorem SetoffBalance_ok (vl : Value) (a : List (Nat → Nat)) (cc ss : Nat) (w : World) (hv : Sl enc5 5 w vl a) (hb : ∀ x ∈ a, ∀ i, i < 5 → x i < 65536) (hcc : cc < 256) :
    Ret Tryd.prog 5 #[vl, .int .u8 cc, .int .u8 ss] w fun v w' => v = .bool true ∧ Below w.heap.size w w' := by
  have hM : MX = 1099511627776 := rfl
  have hS := St.init w
  have hs40 : ss % 40 < 40 := Nat.mod_lt _ (by decide)
  obtain ⟨s, hs⟩ : ∃ s, s = ss % 40 := ⟨_, rfl⟩
  obtain ⟨l, hl⟩ : ∃ l, l = obsL a 16 := ⟨_, rfl⟩
  have hE := obsL_E a
  have hC := obsL_chk a hcc (show s < 256 by omega)
  have hB := obsL_B a 16
  have hlen : (obsL a 16).length ≤ 16 := by rw [obsL_len]; omega
  have hamt := amt_ofQ a 16
  rw [← hl] at hE hC hB hlen hamt
  have hN := nng_of hE
  refine enter Tryd.func5 rfl Tryd.ntmps5 rfl ?_
  repeat (with_reducible first | refine c_seq ?_ | refine c_block ?_ | refine c_skip ?_ | refine x_then ?_ | refine x_block ?_)
  refine c_reg ?_
  refine l_pure rfl (s_asg  rfl ?_)
  refine l_nil ?_
  repeat (with_reducible first | refine c_seq ?_ | refine c_block ?_ | refine c_skip ?_ | refine x_then ?_ | refine x_block ?_)
  refine c_reg ?_
  refine l_pure rfl (s_move  rfl ?_)
  refine l_heavy rfl (s_call Tryd.call17 rfl (Obligations_ok vl a _ hv hb) ?_)
  rintro vo w1 ⟨LO0, hG0, hSO⟩
  rw [← hl] at hG0
  have ho := hG0.sl hSO encOb_len
  replace hS := hS.grow hSO.below
  refine l_pure rfl (s_asg  rfl ?_)
  refine l_nil ?_
  repeat (with_reducible first | refine c_seq ?_ | refine c_block ?_ | refine c_skip ?_ | refine x_then ?_ | refine x_block ?_)
  refine c_forget (fun ρ' => ρ' 1 = .int .u8 cc ∧ ρ' 2 = .int .u8 ss ∧ ρ' 7 = vo ∧ True) ⟨rfl, rfl, rfl, trivial⟩ ?_
  rintro ρk1 ⟨hk1_1, hk1_2, hk1_7, -⟩
  repeat (with_reducible first | refine c_seq ?_ | refine c_block ?_ | refine c_skip ?_ | refine x_then ?_ | refine x_block ?_)
  refine c_reg ?_
  refine l_pure rfl (s_move  hk1_7 ?_)
  refine l_pure rfl (s_move  hk1_1 ?_)
  refine l_pure rfl (s_conv  rfl Tryd.underlying3 ⟨_, Tryd.underlying5⟩ (IntWalk.i64_in _ (by omega)) ?_)
  refine l_pure rfl (s_move  hk1_2 ?_)
  refine l_pure rfl (s_rem  rfl rfl (by omega) (r := ((ss % 40 : Nat) : Int)) (by exact rem_nat ss 40) ?_)
  refine l_pure rfl (s_conv  rfl Tryd.underlying3 ⟨_, Tryd.underlying5⟩ (r := ((ss % 40 : Nat) : Int)) (by exact wr_i64 _ ⟨rfl, by omega, by omega⟩) ?_)
  rw [← hs]
  refine l_heavy rfl (s_call Tryd.call18 rfl (OApply_ok 4 cc s _ l 1 _ ho hB (by rw [hM]; decide) (by omega)) ?_)
  rintro r w2 ⟨⟨vr, rfl, hr⟩, hB2⟩
  rw [hC]
  rw [show appL 4 l cc s = tab l.length fun i => ofQ (finQ l cc s i) from if_pos hC] at hr
  replace ho := ho.below hB2
  replace hS := hS.grow hB2
  have hW := hS.below
  clear hS
  have hS := St.init w2
  have htl : (tab l.length fun i => ofQ (finQ l cc s i)).length = l.length := tab_len _ _
  have hLf : ∀ i, i < l.length → L (finQ l cc s i) ≤ 84 := fun i hi => by
    have := L_finQ hB (by omega) cc s hi
    omega
  have hLo : ∀ i, i < l.length → L (oQ l i) ≤ 84 := fun i hi => by
    have := L_oQ hB hi
    omega
  refine l_pure rfl (s_move  rfl ?_)
  refine l_pure rfl (s_ext  rfl rfl ?_)
  refine l_pure rfl (s_ext  rfl rfl ?_)
  refine l_pure rfl (s_asg  rfl ?_)
  refine l_pure rfl (s_asg  rfl ?_)
  refine l_nil ?_
  repeat (with_reducible first | refine c_seq ?_ | refine c_block ?_ | refine c_skip ?_ | refine x_then ?_ | refine x_block ?_)
  refine c_forget (fun ρ' => ρ' 1 = .int .u8 cc ∧ ρ' 2 = .int .u8 ss ∧ ρ' 7 = vo ∧ ρ' 8 = vr ∧ ρ' 9 = .int .i64 0 ∧ True) ⟨hk1_1, hk1_2, hk1_7, rfl, rfl, trivial⟩ ?_
  rintro ρk2 ⟨hk2_1, hk2_2, hk2_7, hk2_8, hk2_9, -⟩
  repeat (with_reducible first | refine c_seq ?_ | refine c_block ?_ | refine c_skip ?_ | refine x_then ?_ | refine x_block ?_)
  refine c_reg ?_
  refine l_pure rfl (s_move  hk2_9 ?_)
  refine l_pure rfl (s_neq  rfl rfl ?_)
  refine l_pure rfl (s_move  rfl ?_)
  refine l_pure (gd_yes 29 (by kernel_rfl) rfl rfl) (s_move  hk2_8 ?_)
  refine l_pure (gd_yes 29 (by kernel_rfl) rfl rfl) (s_lenr  rfl hr ⟨_, Tryd.underlying37⟩ ?_)
  refine l_pure (gd_yes 29 (by kernel_rfl) rfl rfl) (s_move  hk2_7 ?_)
  refine l_pure (gd_yes 29 (by kernel_rfl) rfl rfl) (s_lenr  rfl ho ⟨_, Tryd.underlying22⟩ ?_)
  refine l_pure (gd_yes 29 (by kernel_rfl) rfl rfl) (s_neq  rfl rfl ?_)
  refine l_pure rfl (s_pick (vb rfl rfl) rfl ?_)
  refine l_nil ?_
  repeat (with_reducible first | refine c_seq ?_ | refine c_block ?_ | refine c_skip ?_ | refine x_then ?_ | refine x_block ?_)
  refine c_no rfl (decide_eq_false (by omega)) ?_
  repeat (with_reducible first | refine c_seq ?_ | refine c_block ?_ | refine c_skip ?_ | refine x_then ?_ | refine x_block ?_)
  refine c_reg ?_
  refine l_pure rfl (s_asg  rfl ?_)
  refine l_nil ?_
  repeat (with_reducible first | refine c_seq ?_ | refine c_block ?_ | refine c_skip ?_ | refine x_then ?_ | refine x_block ?_)
  refine c_forget (fun ρ' => ρ' 1 = .int .u8 cc ∧ ρ' 2 = .int .u8 ss ∧ ρ' 7 = vo ∧ ρ' 8 = vr ∧ ρ' 10 = .slice none 0 0 ∧ True) ⟨hk2_1, hk2_2, hk2_7, hk2_8, rfl, trivial⟩ ?_
  rintro ρk3 ⟨hk3_1, hk3_2, hk3_7, hk3_8, hk3_10, -⟩
  repeat (with_reducible first | refine c_seq ?_ | refine c_block ?_ | refine c_skip ?_ | refine x_then ?_ | refine x_block ?_)
  refine c_reg ?_
  refine l_pure rfl (s_move  hk3_7 ?_)
  refine l_pure rfl (s_lenr  rfl ho ⟨_, Tryd.underlying22⟩ ?_)
  refine l_pure rfl (s_move  rfl ?_)
  refine l_nil ?_
  repeat (with_reducible first | refine c_seq ?_ | refine c_skip ?_ | refine x_then ?_ | refine x_block ?_)
  refine c_cut1 (fun ρ w' => ρ 7 = vo ∧ ρ 8 = vr ∧ ∃ sO LO, ρ 10 = sO ∧ Gl encR 26 3 sO (tab l.length fun j => ofQ (oQ l j)) LO ∧ St w2 w' ([] ++ LO)) ?_ ?_
  · repeat (with_reducible first | refine c_seq ?_ | refine c_block ?_ | refine c_skip ?_ | refine x_then ?_ | refine x_block ?_)
    refine c_loop (σ := Nat) (fun i ρ w' => i ≤ l.length ∧ ρ 1 = .int .u8 cc ∧ ρ 2 = .int .u8 ss ∧ ρ 7 = vo ∧ ρ 8 = vr ∧ ρ 36 = vo ∧ ρ 37 = .int .i64 l.length ∧ ρ 38 = .int .i64 i ∧ ∃ sO LO, ρ 10 = sO ∧ Gl encR 26 3 sO (tab i fun j => ofQ (oQ l j)) LO ∧ St w2 w' ([] ++ LO)) (fun i => l.length - i) 0
      ⟨Nat.zero_le _, by assumption, by assumption, by assumption, by assumption, rfl, rfl, rfl, ⟨_, [], by assumption, Gl.nil _ _ _, hS⟩⟩ ?_
    clear hS
    rintro i ρ w3 ⟨hi, h1, h2, h7, h8, h36, h37, h38, sO, LO, h10, hG, hS⟩
    have hti : (tab i fun j => ofQ (oQ l j)).length = i := tab_len _ _
    repeat (with_reducible first | refine c_seq ?_ | refine c_block ?_ | refine c_skip ?_ | refine x_then ?_ | refine x_block ?_)
    refine c_reg ?_
    refine l_pure rfl (s_lss  h38 h37 ?_)
    refine l_nil ?_
    repeat (with_reducible first | refine c_seq ?_ | refine c_block ?_ | refine c_skip ?_ | refine x_then ?_ | refine x_block ?_)
    by_cases hlt : i < l.length
    · refine c_yes rfl (decide_eq_true (by omega)) ?_
      repeat (with_reducible first | refine c_seq ?_ | refine c_block ?_ | refine c_skip ?_ | refine x_then ?_ | refine x_block ?_)
      obtain ⟨o, hoi⟩ : ∃ o, o = gO l i := ⟨_, rfl⟩
      have hpa : o.amt = ofQ (oQ l i) := by rw [hoi]; exact hamt i hlt
      obtain ⟨f, hf⟩ : ∃ f, f = finQ l cc s i := ⟨_, rfl⟩
      have hgi : (tab l.length fun i => ofQ (finQ l cc s i)).getD i zRR = ofQ f := by rw [hf]; exact fin_get hlt
      have hLi := hLf i hlt
      have hLi2 := hLo i hlt
      have hfb := finQ_bound hN cc s i
      rw [← hf] at hLi hfb
      have hne : eligB o cc s = false → f = oQ l i := fun g => by rw [hf]; exact finQ_off (by rw [← hoi]; exact g)
      have hge : ¬ sgnQ f < 0 := fun g => Rat.not_lt.2 hfb.1 (sgnQ_neg.1 g)
      have hle : ¬ 0 < cmpQ f (oQ l i) := fun g => Rat.not_lt.2 hfb.2 (cmpQ_pos.1 g)
      repeat (with_reducible first | refine c_seq ?_ | refine c_block ?_ | refine c_skip ?_ | refine x_then ?_ | refine x_block ?_)
      refine c_reg ?_
      refine l_pure rfl (s_move  h38 ?_)
      refine l_pure rfl (s_ixr (i := i)  h36 h38 (ho.below hS.below) (by omega) (by first | omega | (simp; done) | (simp; omega)) si_22 ?_)
      refine l_read rfl (s_lde (i := i) zOb  rfl vi_28 (ho.below hS.below) (by first | omega | (simp; done) | (simp; omega)) rfl rfl (.inl rfl) ?_)
      refine l_heavy rfl (s_alloc  vi_28 hS ?_)
      intro b12 wz4 hS hBz4
      refine l_pure rfl (s_asg  rfl ?_)
      refine l_heavy rfl (s_sta (k := 0)  rfl rfl vi_28 hS rfl rfl rfl (Nat.le_of_ble_eq_true rfl) rfl ?_)
      intro wz5 hS
      refine l_nil ?_
      repeat (with_reducible first | refine c_seq ?_ | refine c_block ?_ | refine c_skip ?_ | refine x_then ?_ | refine x_block ?_)
      replace hS : St w2 _ ([(b12, 28, encOb (gO l i))] ++ LO) := hS
      rw [← hoi] at hS
      repeat (with_reducible first | refine c_seq ?_ | refine c_block ?_ | refine c_skip ?_ | refine x_then ?_ | refine x_block ?_)
      refine c_forget (fun ρ' => ρ' 1 = .int .u8 cc ∧ ρ' 2 = .int .u8 ss ∧ ρ' 7 = vo ∧ ρ' 8 = vr ∧ ρ' 36 = vo ∧ ρ' 37 = .int .i64 l.length ∧ ρ' 38 = .int .i64 i ∧ ρ' 10 = sO ∧ ρ' 11 = .int .i64 i ∧ ρ' 12 = .pointer (some ⟨b12, 0, none⟩) ∧ True) ⟨h1, h2, h7, h8, h36, h37, h38, h10, rfl, rfl, trivial⟩ ?_
      rintro ρk6 ⟨hk6_1, hk6_2, hk6_7, hk6_8, hk6_36, hk6_37, hk6_38, hk6_10, hk6_11, hk6_12, -⟩
      repeat (with_reducible first | refine c_seq ?_ | refine c_block ?_ | refine c_skip ?_ | refine x_then ?_ | refine x_block ?_)
      refine c_reg ?_
      refine l_pure rfl (s_move  hk6_10 ?_)
      refine l_pure rfl (s_fld  hk6_12 fo_28_2 ?_)
      refine l_read rfl (s_ldo (k := 0)  rfl vi_26 hS rfl rfl rfl (.inl rfl) ?_)
      refine l_heavy rfl (s_bsl (vs := [aggR o.amt])  rfl si_37 rfl (by decide) (by decide) (by decide) (by simp [Value.cells, aggR]) rfl hS ?_)
      intro bx wz7 hS hBz7
      refine l_heavy rfl (s_appl [o.amt]  rfl rfl si_37 (by decide) hG hS rfl rfl encR_len (encR_one [o.amt]) (by first | omega | (simp only [List.length_cons, List.length_nil]; omega)) (by first | omega | (simp only [List.length_cons, List.length_nil]; omega)) ?_)
      intro va8 La8 wa8 hG hS hga8
      refine l_pure rfl (s_asg  rfl ?_)
      refine l_nil ?_
      repeat (with_reducible first | refine c_seq ?_ | refine c_block ?_ | refine c_skip ?_ | refine x_then ?_ | refine x_block ?_)
      rw [hpa, ← tab_succ] at hG
      repeat (with_reducible first | refine c_seq ?_ | refine c_block ?_ | refine c_skip ?_ | refine x_then ?_ | refine x_block ?_)
      refine c_forget (fun ρ' => ρ' 1 = .int .u8 cc ∧ ρ' 2 = .int .u8 ss ∧ ρ' 7 = vo ∧ ρ' 8 = vr ∧ ρ' 36 = vo ∧ ρ' 37 = .int .i64 l.length ∧ ρ' 38 = .int .i64 i ∧ ρ' 10 = va8 ∧ ρ' 11 = .int .i64 i ∧ ρ' 12 = .pointer (some ⟨b12, 0, none⟩) ∧ True) ⟨hk6_1, hk6_2, hk6_7, hk6_8, hk6_36, hk6_37, hk6_38, rfl, hk6_11, hk6_12, trivial⟩ ?_
      rintro ρk9 ⟨hk9_1, hk9_2, hk9_7, hk9_8, hk9_36, hk9_37, hk9_38, hk9_10, hk9_11, hk9_12, -⟩
      repeat (with_reducible first | refine c_seq ?_ | refine c_block ?_ | refine c_skip ?_ | refine x_then ?_ | refine x_block ?_)
      refine c_draw [(0, .pure), (1, .pure), (2, .pure), (3, .read), (4, .grow), (5, .pure), (6, .pure), (7, .pure), (8, .pure), (9, .pure), (10, .read), (11, .pure), (12, .read), (13, .grow), (14, .pure), (15, .pure)] (by kernel_rfl) (by kernel_rfl) hS ?_
      intro wz10 hS hBz10
      refine w_pure rfl rfl (s_move  hk9_8 ?_)
      refine w_pure rfl rfl (s_move  hk9_11 ?_)
      refine w_pure rfl rfl (s_ixr (i := i)  rfl rfl (hr.below hS.below) (by omega) (by first | omega | (simp; done) | (simp; omega)) si_37 ?_)
      refine w_read rfl rfl (s_lde (i := i) zRR  rfl vi_26 (hr.below hS.below) (by first | omega | (simp; done) | (simp; omega)) rfl rfl (.inl rfl) ?_)
      rw [hgi]
      refine w_grow rfl rfl (s_call Tryd.call19 rfl (Sign_ok (ofQ f) _ (by rw [Lr_ofQ]; omega)) ?_)
      rintro r w4 ⟨rfl, hB4⟩
      refine ⟨hB4, ?_⟩
      rw [toQ_ofQ]
      replace hS := hS.grow hB4
      refine w_pure rfl rfl (s_lss  rfl rfl ?_)
      refine w_pure rfl rfl (s_move  rfl ?_)
      refine w_pure rfl (gd_yes 54 (by kernel_rfl) rfl (decide_eq_false hge)) (s_move  hk9_8 ?_)
      refine w_pure rfl (gd_yes 54 (by kernel_rfl) rfl (decide_eq_false hge)) (s_move  hk9_11 ?_)
      refine w_pure rfl (gd_yes 54 (by kernel_rfl) rfl (decide_eq_false hge)) (s_ixr (i := i)  rfl rfl (hr.below hS.below) (by omega) (by first | omega | (simp; done) | (simp; omega)) si_37 ?_)
      refine w_read rfl (gd_yes 54 (by kernel_rfl) rfl (decide_eq_false hge)) (s_lde (v := aggR (ofQ f)) (i := i) zRR  rfl vi_26 (hr.below hS.below) (by omega) rfl (by rw [hgi]; rfl) (.inl rfl) ?_)
      refine w_pure rfl (gd_yes 54 (by kernel_rfl) rfl (decide_eq_false hge)) (s_fld  hk9_12 fo_28_2 ?_)
      refine w_read rfl (gd_yes 54 (by kernel_rfl) rfl (decide_eq_false hge)) (s_ldo (k := 0)  rfl vi_26 hS rfl rfl rfl (.inl rfl) ?_)
      refine w_grow rfl (gd_yes 54 (by kernel_rfl) rfl (decide_eq_false hge)) (s_call Tryd.call20 rfl (QCompare_ok (ofQ f) o.amt _ (by rw [hpa, Lr_ofQ, Lr_ofQ]; omega)) ?_)
      rintro r w5 ⟨rfl, hB5⟩
      refine ⟨hB5, ?_⟩
      rw [toQ_ofQ, hpa, toQ_ofQ]
      replace hS := hS.grow hB5
      refine w_pure rfl (gd_yes 54 (by kernel_rfl) rfl (decide_eq_false hge)) (s_gtr  rfl rfl ?_)
      refine w_pure rfl rfl (s_pick (vb rfl (decide_eq_false hge)) rfl ?_)
      refine w_end ?_
      repeat (with_reducible first | refine c_seq ?_ | refine c_block ?_ | refine c_skip ?_ | refine x_then ?_ | refine x_block ?_)
      refine c_no rfl (decide_eq_false hle) ?_
      repeat (with_reducible first | refine c_seq ?_ | refine c_block ?_ | refine c_skip ?_ | refine x_then ?_ | refine x_block ?_)
      refine c_forget (fun ρ' => ρ' 1 = .int .u8 cc ∧ ρ' 2 = .int .u8 ss ∧ ρ' 7 = vo ∧ ρ' 8 = vr ∧ ρ' 36 = vo ∧ ρ' 37 = .int .i64 l.length ∧ ρ' 38 = .int .i64 i ∧ ρ' 10 = va8 ∧ ρ' 11 = .int .i64 i ∧ ρ' 12 = .pointer (some ⟨b12, 0, none⟩) ∧ True) ⟨hk9_1, hk9_2, hk9_7, hk9_8, hk9_36, hk9_37, hk9_38, hk9_10, hk9_11, hk9_12, trivial⟩ ?_
      rintro ρk11 ⟨hk11_1, hk11_2, hk11_7, hk11_8, hk11_36, hk11_37, hk11_38, hk11_10, hk11_11, hk11_12, -⟩
      cases he : eligB o cc s with
      | true =>
        have hf8 : (!eligB o cc s) = false := by rw [he]; rfl
        repeat (with_reducible first | refine c_seq ?_ | refine c_block ?_ | refine c_skip ?_ | refine x_then ?_ | refine x_block ?_)
        refine c_draw [(0, .read), (1, .pure), (2, .pure), (3, .pure), (4, .pure), (5, .pure), (6, .grow), (7, .pure), (8, .pure), (9, .pure), (10, .pure), (11, .pure), (12, .read), (13, .pure), (14, .read), (15, .pure), (16, .pure)] (by kernel_rfl) (by kernel_rfl) hS ?_
        intro wz12 hS hBz12
        refine w_read rfl rfl (s_ldo (k := 0)  hk11_12 vi_28 hS rfl rfl rfl (.inl rfl) ?_)
        refine w_pure rfl rfl (s_move  hk11_1 ?_)
        refine w_pure rfl rfl (s_conv  rfl Tryd.underlying3 ⟨_, Tryd.underlying5⟩ (IntWalk.i64_in _ (by omega)) ?_)
        refine w_pure rfl rfl (s_move  hk11_2 ?_)
        refine w_pure rfl rfl (s_rem  rfl rfl (by omega) (r := ((ss % 40 : Nat) : Int)) (by exact rem_nat ss 40) ?_)
        refine w_pure rfl rfl (s_conv  rfl Tryd.underlying3 ⟨_, Tryd.underlying5⟩ (r := ((ss % 40 : Nat) : Int)) (by exact wr_i64 _ ⟨rfl, by omega, by omega⟩) ?_)
        rw [← hs]
        refine w_grow rfl rfl (s_call Tryd.call13 rfl (Eligible_ok o cc s _) ?_)
        rintro r w6 ⟨rfl, hB6⟩
        refine ⟨hB6, ?_⟩
        replace hS := hS.grow hB6
        refine w_pure rfl rfl (s_not  rfl ?_)
        refine w_pure rfl rfl (s_move  rfl ?_)
        refine w_no rfl (gno_yes 72 (by kernel_rfl) rfl hf8) ?_
        refine w_no rfl (gno_yes 72 (by kernel_rfl) rfl hf8) ?_
        refine w_no rfl (gno_yes 72 (by kernel_rfl) rfl hf8) ?_
        refine w_no rfl (gno_yes 72 (by kernel_rfl) rfl hf8) ?_
        refine w_no rfl (gno_yes 72 (by kernel_rfl) rfl hf8) ?_
        refine w_no rfl (gno_yes 72 (by kernel_rfl) rfl hf8) ?_
        refine w_no rfl (gno_yes 72 (by kernel_rfl) rfl hf8) ?_
        refine w_pure rfl rfl (s_pick (vb rfl hf8) rfl ?_)
        refine w_end ?_
        repeat (with_reducible first | refine c_seq ?_ | refine c_block ?_ | refine c_skip ?_ | refine x_then ?_ | refine x_block ?_)
        refine c_no rfl (rfl) ?_
        repeat (with_reducible first | refine c_seq ?_ | refine c_block ?_ | refine c_skip ?_ | refine x_then ?_ | refine x_block ?_)
        refine c_reg ?_
        refine l_pure rfl (s_add  hk11_38 rfl (IntWalk.i64_in _ (by omega)) ?_)
        refine l_pure rfl (s_move  rfl ?_)
        refine l_nil ?_
        repeat (with_reducible first | refine c_seq ?_ | refine c_block ?_ | refine c_skip ?_ | refine x_then ?_ | refine x_block ?_)
        exact ⟨i + 1, _, rfl, ⟨hlt, by assumption, by assumption, by assumption, by assumption, by assumption, by assumption, vi rfl (by omega), ⟨_, _, by assumption, hG, hS.drop (List.sublist_append_right [_] _)⟩⟩, by omega⟩
      | false =>
        have hf8 : (!eligB o cc s) = true := by rw [he]; rfl
        have hfe := hne he
        repeat (with_reducible first | refine c_seq ?_ | refine c_block ?_ | refine c_skip ?_ | refine x_then ?_ | refine x_block ?_)
        refine c_draw [(0, .read), (1, .pure), (2, .pure), (3, .pure), (4, .pure), (5, .pure), (6, .grow), (7, .pure), (8, .pure), (9, .pure), (10, .pure), (11, .pure), (12, .read), (13, .pure), (14, .read), (15, .pure), (16, .pure)] (by kernel_rfl) (by kernel_rfl) hS ?_
        intro wz13 hS hBz13
        refine w_read rfl rfl (s_ldo (k := 0)  hk11_12 vi_28 hS rfl rfl rfl (.inl rfl) ?_)
        refine w_pure rfl rfl (s_move  hk11_1 ?_)
        refine w_pure rfl rfl (s_conv  rfl Tryd.underlying3 ⟨_, Tryd.underlying5⟩ (IntWalk.i64_in _ (by omega)) ?_)
        refine w_pure rfl rfl (s_move  hk11_2 ?_)
        refine w_pure rfl rfl (s_rem  rfl rfl (by omega) (r := ((ss % 40 : Nat) : Int)) (by exact rem_nat ss 40) ?_)
        refine w_pure rfl rfl (s_conv  rfl Tryd.underlying3 ⟨_, Tryd.underlying5⟩ (r := ((ss % 40 : Nat) : Int)) (by exact wr_i64 _ ⟨rfl, by omega, by omega⟩) ?_)
        rw [← hs]
        refine w_grow rfl rfl (s_call Tryd.call13 rfl (Eligible_ok o cc s _) ?_)
        rintro r w6 ⟨rfl, hB6⟩
        refine ⟨hB6, ?_⟩
        replace hS := hS.grow hB6
        refine w_pure rfl rfl (s_not  rfl ?_)
        refine w_pure rfl rfl (s_move  rfl ?_)
        refine w_pure rfl (gd_yes 72 (by kernel_rfl) rfl hf8) (s_move  hk11_8 ?_)
        refine w_pure rfl (gd_yes 72 (by kernel_rfl) rfl hf8) (s_move  hk11_11 ?_)
        refine w_pure rfl (gd_yes 72 (by kernel_rfl) rfl hf8) (s_ixr (i := i)  rfl rfl (hr.below hS.below) (by omega) (by first | omega | (simp; done) | (simp; omega)) si_37 ?_)
        refine w_read rfl (gd_yes 72 (by kernel_rfl) rfl hf8) (s_lde (v := aggR (ofQ f)) (i := i) zRR  rfl vi_26 (hr.below hS.below) (by omega) rfl (by rw [hgi]; rfl) (.inl rfl) ?_)
        refine w_pure rfl (gd_yes 72 (by kernel_rfl) rfl hf8) (s_fld  hk11_12 fo_28_2 ?_)
        refine w_read rfl (gd_yes 72 (by kernel_rfl) rfl hf8) (s_ldo (k := 0)  rfl vi_26 hS rfl rfl rfl (.inl rfl) ?_)
        refine w_pure rfl (gd_yes 72 (by kernel_rfl) rfl hf8) (s_neR  rfl rfl ?_)
        refine w_pure rfl rfl (s_pick (vb rfl hf8) rfl ?_)
        refine w_end ?_
        repeat (with_reducible first | refine c_seq ?_ | refine c_block ?_ | refine c_skip ?_ | refine x_then ?_ | refine x_block ?_)
        refine c_no rfl (decide_eq_false (by rw [hpa, hfe]; simp)) ?_
        repeat (with_reducible first | refine c_seq ?_ | refine c_block ?_ | refine c_skip ?_ | refine x_then ?_ | refine x_block ?_)
        refine c_reg ?_
        refine l_pure rfl (s_add  hk11_38 rfl (IntWalk.i64_in _ (by omega)) ?_)
        refine l_pure rfl (s_move  rfl ?_)
        refine l_nil ?_
        repeat (with_reducible first | refine c_seq ?_ | refine c_block ?_ | refine c_skip ?_ | refine x_then ?_ | refine x_block ?_)
        exact ⟨i + 1, _, rfl, ⟨hlt, by assumption, by assumption, by assumption, by assumption, by assumption, by assumption, vi rfl (by omega), ⟨_, _, by assumption, hG, hS.drop (List.sublist_append_right [_] _)⟩⟩, by omega⟩
    · refine c_no rfl (decide_eq_false (by omega)) ?_
      repeat (with_reducible first | refine c_seq ?_ | refine c_block ?_ | refine c_skip ?_ | refine x_then ?_ | refine x_block ?_)
      refine c_exit ?_
      repeat (with_reducible first | refine x_then_exit ?_ | refine x_block_exit ?_ | refine x_block_pass rfl ?_)
      repeat (with_reducible first | refine c_seq ?_ | refine c_block ?_ | refine c_skip ?_ | refine x_then ?_ | refine x_block ?_)
      obtain rfl : i = l.length := by omega
      exact ⟨_, rfl, h7, h8, ⟨_, _, h10, hG, hS⟩⟩
  clear hS
  rintro ρ w3 ⟨h7, h8, sO, LO, h10, hG, hS⟩
  have hB3 := hS.below
  have hold := hG.sl hS encR_len
  replace ho := ho.below hB3
  replace hr := hr.below hB3
  replace hW := bt hW hB3
  clear hS
  have hS := St.init w3
  repeat (with_reducible first | refine c_seq ?_ | refine c_block ?_ | refine c_skip ?_ | refine x_then ?_ | refine x_block ?_)
  refine c_reg ?_
  refine l_pure rfl (s_asg  rfl ?_)
  refine l_nil ?_
  repeat (with_reducible first | refine c_seq ?_ | refine c_block ?_ | refine c_skip ?_ | refine x_then ?_ | refine x_block ?_)
  refine c_loop (σ := Nat) (fun x ρ w' => x ≤ 4 ∧ ρ 7 = vo ∧ ρ 8 = vr ∧ ρ 10 = sO ∧ ρ 13 = .int .i64 x ∧ St w3 w' []) (fun x => 4 - x) 0
    ⟨Nat.zero_le _, by assumption, by assumption, by assumption, rfl, hS⟩ ?_
  clear hS h7 h8 h10
  rintro x ρ w4 ⟨hx, h7, h8, h10, h13, hS⟩
  repeat (with_reducible first | refine c_seq ?_ | refine c_block ?_ | refine c_skip ?_ | refine x_then ?_ | refine x_block ?_)
  refine c_reg ?_
  refine l_pure rfl (s_move  h13 ?_)
  refine l_pure rfl (s_lss  rfl rfl ?_)
  refine l_nil ?_
  repeat (with_reducible first | refine c_seq ?_ | refine c_block ?_ | refine c_skip ?_ | refine x_then ?_ | refine x_block ?_)
  by_cases hlt : x < 4
  · refine c_yes rfl (decide_eq_true (by omega)) ?_
    repeat (with_reducible first | refine c_seq ?_ | refine c_block ?_ | refine c_skip ?_ | refine x_then ?_ | refine x_block ?_)
    refine c_reg ?_
    refine l_pure rfl (s_asg  rfl ?_)
    refine l_nil ?_
    repeat (with_reducible first | refine c_seq ?_ | refine c_skip ?_ | refine x_then ?_ | refine x_block ?_)
    refine c_cut1 (fun ρ w' => ρ 7 = vo ∧ ρ 8 = vr ∧ ρ 10 = sO ∧ ρ 13 = .int .i64 x ∧ St w3 w' []) ?_ ?_
    · repeat (with_reducible first | refine c_seq ?_ | refine c_block ?_ | refine c_skip ?_ | refine x_then ?_ | refine x_block ?_)
      refine c_loop (σ := Nat) (fun y ρ w' => y ≤ x ∧ ρ 7 = vo ∧ ρ 8 = vr ∧ ρ 10 = sO ∧ ρ 13 = .int .i64 x ∧ ρ 14 = .int .i64 y ∧ St w3 w' []) (fun y => x - y) 0
        ⟨Nat.zero_le _, by assumption, by assumption, by assumption, by assumption, rfl, hS⟩ ?_
      clear hS h7 h8 h10 h13
      rintro y ρ w5 ⟨hy, h7, h8, h10, h13, h14, hS⟩
      repeat (with_reducible first | refine c_seq ?_ | refine c_block ?_ | refine c_skip ?_ | refine x_then ?_ | refine x_block ?_)
      refine c_reg ?_
      refine l_pure rfl (s_move  h14 ?_)
      refine l_pure rfl (s_move  h13 ?_)
      refine l_pure rfl (s_lss  rfl rfl ?_)
      refine l_nil ?_
      repeat (with_reducible first | refine c_seq ?_ | refine c_block ?_ | refine c_skip ?_ | refine x_then ?_ | refine x_block ?_)
      by_cases hlty : y < x
      · refine c_yes rfl (decide_eq_true (by omega)) ?_
        repeat (with_reducible first | refine c_seq ?_ | refine c_block ?_ | refine c_skip ?_ | refine x_then ?_ | refine x_block ?_)
        refine c_reg ?_
        refine l_pure rfl (s_move  h7 ?_)
        refine l_pure rfl (s_move  h10 ?_)
        refine l_pure rfl (s_move  h13 ?_)
        refine l_pure rfl (s_move  h14 ?_)
        refine l_heavy rfl (s_call Tryd.call21 rfl (net_ok vo sO l (oQ l) x y 84 _ (ho.below hS.below) (hold.below hS.below) hlen hLo (by rw [hM]; decide)) ?_)
        rintro r w6 ⟨rfl, hB6⟩
        replace hS := hS.grow hB6
        refine l_pure rfl (s_move  h7 ?_)
        refine l_pure rfl (s_move  h8 ?_)
        refine l_pure rfl (s_move  h13 ?_)
        refine l_pure rfl (s_move  h14 ?_)
        refine l_heavy rfl (s_call Tryd.call21 rfl (net_ok vo vr l (finQ l cc s) x y 84 _ (ho.below hS.below) (hr.below hS.below) hlen hLf (by rw [hM]; decide)) ?_)
        rintro r w7 ⟨rfl, hB7⟩
        replace hS := hS.grow hB7
        refine l_pure rfl (s_neR  rfl rfl ?_)
        refine l_nil ?_
        repeat (with_reducible first | refine c_seq ?_ | refine c_block ?_ | refine c_skip ?_ | refine x_then ?_ | refine x_block ?_)
        refine c_no rfl (decide_eq_false (by rw [net_same hN cc s]; simp)) ?_
        repeat (with_reducible first | refine c_seq ?_ | refine c_block ?_ | refine c_skip ?_ | refine x_then ?_ | refine x_block ?_)
        refine c_reg ?_
        refine l_pure rfl (s_move  h14 ?_)
        refine l_pure rfl (s_add  rfl rfl (IntWalk.i64_in _ (by omega)) ?_)
        refine l_pure rfl (s_asg  rfl ?_)
        refine l_nil ?_
        repeat (with_reducible first | refine c_seq ?_ | refine c_block ?_ | refine c_skip ?_ | refine x_then ?_ | refine x_block ?_)
        exact ⟨y + 1, _, rfl, ⟨hlty, by assumption, by assumption, by assumption, by assumption, vi rfl (by omega), hS⟩, by omega⟩
      · refine c_no rfl (decide_eq_false (by omega)) ?_
        repeat (with_reducible first | refine c_seq ?_ | refine c_block ?_ | refine c_skip ?_ | refine x_then ?_ | refine x_block ?_)
        refine c_exit ?_
        repeat (with_reducible first | refine x_then_exit ?_ | refine x_block_exit ?_ | refine x_block_pass rfl ?_)
        repeat (with_reducible first | refine c_seq ?_ | refine c_block ?_ | refine c_skip ?_ | refine x_then ?_ | refine x_block ?_)
        exact ⟨_, rfl, h7, h8, h10, h13, hS⟩
    clear hS h7 h8 h10 h13
    rintro ρ w5 ⟨h7, h8, h10, h13, hS⟩
    repeat (with_reducible first | refine c_seq ?_ | refine c_block ?_ | refine c_skip ?_ | refine x_then ?_ | refine x_block ?_)
    refine c_reg ?_
    refine l_pure rfl (s_move  h13 ?_)
    refine l_pure rfl (s_add  rfl rfl (IntWalk.i64_in _ (by omega)) ?_)
    refine l_pure rfl (s_asg  rfl ?_)
    refine l_nil ?_
    repeat (with_reducible first | refine c_seq ?_ | refine c_block ?_ | refine c_skip ?_ | refine x_then ?_ | refine x_block ?_)
    exact ⟨x + 1, _, rfl, ⟨hlt, by assumption, by assumption, by assumption, vi rfl (by omega), hS⟩, by omega⟩
  · refine c_no rfl (decide_eq_false (by omega)) ?_
    repeat (with_reducible first | refine c_seq ?_ | refine c_block ?_ | refine c_skip ?_ | refine x_then ?_ | refine x_block ?_)
    refine c_exit ?_
    repeat (with_reducible first | refine x_then_exit ?_ | refine x_block_exit ?_ | refine x_block_pass rfl ?_)
    repeat (with_reducible first | refine c_seq ?_ | refine c_block ?_ | refine c_skip ?_ | refine x_then ?_ | refine x_block ?_)
    refine c_reg ?_
    refine l_heavy rfl (s_call Tryd.call12 rfl (Oawake_ok _) ?_)
    rintro _ wc14 ⟨rfl, hBc14⟩
    replace hS := hS.grow hBc14
    refine l_pure rfl (s_asg  rfl ?_)
    refine l_nil ?_
    repeat (with_reducible first | refine c_seq ?_ | refine c_block ?_ | refine c_skip ?_ | refine x_then ?_ | refine x_block ?_)
    refine c_ret ?_
    repeat (with_reducible first | refine x_then_ret ?_ | refine x_block_ret ?_)
    refine r_one rfl rfl ?_
    exact ⟨rfl, bt hW hS.below⟩
end Go.Proofs.YtdafaibhiobpaaaDoor
