/-
  The law that the first claims receive at least as much as without marshalling: its walk.
-/
import Derived.Test.YtfocimgpahjkmaaDoorLawSt
namespace Go.Proofs.YtfocimgpahjkmaaDoor
open Go Go.RowKit Go.Sx

set_option maxHeartbeats 2000000 in
theorem MarshalFair_ok (vl va : Value) (l : List (Nat → Nat)) (a : List Nat) (w : World) (hl : Sl enc6 6 w vl l) (ha : Sl (uk .u16) 1 w va a) (hlb : ∀ x ∈ l, ∀ i, i < 6 → x i < 65536) (hab : ∀ x ∈ a, x < 65536)
    (hT : At w ⟨2, 0, none⟩ (Kr .u8 tzTab)) :
    Ret Tryd.prog 3 #[vl, va] w fun v w' => v = .bool true ∧ Below w.heap.size w w' := by
  have hM : MX = 1099511627776 := rfl
  have hK1 : 80 * 1 + 90 ≤ MX := by rw [hM]; decide
  have hK2 : 100 * 1 + 100 ≤ MX := by rw [hM]; decide
  have hS := St.init w
  refine enter Tryd.func3 rfl Tryd.ntmps3 rfl ?_
  repeat (with_reducible first | refine c_seq ?_ | refine c_block ?_ | refine c_skip ?_ | refine x_then ?_ | refine x_block ?_)
  refine c_reg ?_
  refine l_pure rfl (s_asg  rfl ?_)
  refine l_nil ?_
  repeat (with_reducible first | refine c_seq ?_ | refine c_block ?_ | refine c_skip ?_ | refine x_then ?_ | refine x_block ?_)
  refine c_reg ?_
  refine l_pure rfl (s_move  rfl ?_)
  refine l_heavy rfl (s_call Tryd.call6 rfl (Amounts_ok va a 6 _ ha hab (by decide)) ?_)
  rintro vo w1 ⟨ho, hB1⟩
  replace hS := hS.grow hB1
  have hm6 : (amts a 6).length ≤ 6 := by rw [amts_len]; omega
  refine l_pure rfl (s_asg  rfl ?_)
  refine l_nil ?_
  repeat (with_reducible first | refine c_seq ?_ | refine c_block ?_ | refine c_skip ?_ | refine x_then ?_ | refine x_block ?_)
  refine c_reg ?_
  refine l_pure rfl (s_move  rfl ?_)
  refine l_pure rfl (s_move  rfl ?_)
  refine l_pure rfl (s_lenr  rfl ho ⟨_, Tryd.underlying24⟩ ?_)
  refine l_heavy rfl (s_call Tryd.call7 rfl (Items_ok vl l (amts a 6).length _ (hl.below hS.below) hlb (by omega)) ?_)
  rintro vit w2 ⟨⟨cvs, hI⟩, hB2⟩
  replace hS := hS.grow hB2
  replace ho := ho.below hB2
  have hck := items_check l a 4 6 (by decide) (by decide)
  have hIB := items_B l (amts a 6).length 4
  have hoB := amts_RB a 6
  have hpos := amts_pos a 6
  have hl8 : (itemsL l (amts a 6).length 4).length ≤ 8 := by rw [itemsL_len]; omega
  have hl24 : (amts a 6).length ≤ 24 := by omega
  refine l_pure rfl (s_asg  rfl ?_)
  refine l_nil ?_
  repeat (with_reducible first | refine c_seq ?_ | refine c_block ?_ | refine c_skip ?_ | refine x_then ?_ | refine x_block ?_)
  refine c_forget (fun ρ' => ρ' 5 = vo ∧ ρ' 6 = vit ∧ True) ⟨rfl, rfl, trivial⟩ ?_
  rintro ρk1 ⟨hk1_5, hk1_6, -⟩
  repeat (with_reducible first | refine c_seq ?_ | refine c_block ?_ | refine c_skip ?_ | refine x_then ?_ | refine x_block ?_)
  refine c_reg ?_
  refine l_pure rfl (s_move  hk1_6 ?_)
  refine l_pure rfl (s_move  hk1_5 ?_)
  refine l_heavy rfl (s_call Tryd.call8 rfl (Totals_ok _ _ _ cvs _ 1 _ hI ho hIB hoB hK1 (hT.below hS.below)) ?_)
  rintro r w3 ⟨⟨vt, rfl, ht⟩, hB3⟩
  rw [hck]
  rw [totL_eq hck] at ht
  replace hS := hS.grow hB3
  replace ho := ho.below hB3
  replace hI := hI.below hB3
  refine l_pure rfl (s_move  rfl ?_)
  refine l_pure rfl (s_ext  rfl rfl ?_)
  refine l_pure rfl (s_ext  rfl rfl ?_)
  refine l_pure rfl (s_asg  rfl ?_)
  refine l_pure rfl (s_asg  rfl ?_)
  refine l_nil ?_
  repeat (with_reducible first | refine c_seq ?_ | refine c_block ?_ | refine c_skip ?_ | refine x_then ?_ | refine x_block ?_)
  refine c_forget (fun ρ' => ρ' 5 = vo ∧ ρ' 6 = vit ∧ ρ' 7 = vt ∧ ρ' 8 = .int .i64 0 ∧ True) ⟨hk1_5, hk1_6, rfl, rfl, trivial⟩ ?_
  rintro ρk2 ⟨hk2_5, hk2_6, hk2_7, hk2_8, -⟩
  repeat (with_reducible first | refine c_seq ?_ | refine c_block ?_ | refine c_skip ?_ | refine x_then ?_ | refine x_block ?_)
  refine c_reg ?_
  refine l_pure rfl (s_move  hk2_6 ?_)
  refine l_pure rfl (s_move  hk2_5 ?_)
  refine l_heavy rfl (s_call Tryd.call9 rfl (Greedy_ok _ _ _ cvs _ 1 _ hI ho hIB hoB hK2) ?_)
  rintro r w5 ⟨⟨vg, rfl, hg⟩, hB5⟩
  rw [hck]
  rw [gL_eq hck] at hg
  replace hS := hS.grow hB5
  replace ho := ho.below hB5
  replace ht := ht.below hB5
  have hW := hS.below
  replace hT := hT.below hW
  obtain ⟨X, hX⟩ : ∃ X, X = itemsL l (amts a 6).length 4 := ⟨_, rfl⟩
  rw [← hX] at ht hg hIB hl8
  obtain ⟨O, hO⟩ : ∃ O, O = amts a 6 := ⟨_, rfl⟩
  rw [← hO] at ht hg hoB hpos hm6 hl24 ho
  have hLa := L_totF hIB hoB hl8 hl24
  have hLb := fun c (hc : c < O.length) => L_gout hIB hoB hl8 hl24 hc
  have hLp := L_preQ hIB hoB hl8 hl24
  have htl : (tab O.length fun c => ofQ (totF X O c)).length = O.length := tab_len _ _
  have hgl : (tab O.length fun c => ofQ ((gall X O O.length).out c)).length = O.length := tab_len _ _
  clear hS
  have hS := St.init w5
  refine l_pure rfl (s_move  rfl ?_)
  refine l_pure rfl (s_ext  rfl rfl ?_)
  refine l_pure rfl (s_ext  rfl rfl ?_)
  refine l_pure rfl (s_asg  rfl ?_)
  refine l_pure rfl (s_asg  rfl ?_)
  refine l_nil ?_
  repeat (with_reducible first | refine c_seq ?_ | refine c_block ?_ | refine c_skip ?_ | refine x_then ?_ | refine x_block ?_)
  refine c_forget (fun ρ' => ρ' 5 = vo ∧ ρ' 7 = vt ∧ ρ' 8 = .int .i64 0 ∧ ρ' 9 = vg ∧ ρ' 10 = .int .i64 0 ∧ True) ⟨hk2_5, hk2_7, hk2_8, rfl, rfl, trivial⟩ ?_
  rintro ρk3 ⟨hk3_5, hk3_7, hk3_8, hk3_9, hk3_10, -⟩
  repeat (with_reducible first | refine c_seq ?_ | refine c_block ?_ | refine c_skip ?_ | refine x_then ?_ | refine x_block ?_)
  refine c_reg ?_
  refine l_pure rfl (s_move  hk3_8 ?_)
  refine l_pure rfl (s_neq  rfl rfl ?_)
  refine l_pure rfl (s_move  rfl ?_)
  refine l_pure (gd_yes 34 (by kernel_rfl) rfl rfl) (s_move  hk3_10 ?_)
  refine l_pure (gd_yes 34 (by kernel_rfl) rfl rfl) (s_neq  rfl rfl ?_)
  refine l_pure rfl (s_pick (vb rfl rfl) rfl ?_)
  refine l_pure rfl (s_move  rfl ?_)
  refine l_pure (gd_yes 38 (by kernel_rfl) rfl rfl) (s_move  hk3_7 ?_)
  refine l_pure (gd_yes 38 (by kernel_rfl) rfl rfl) (s_lenr  rfl ht ⟨_, Tryd.underlying24⟩ ?_)
  refine l_pure (gd_yes 38 (by kernel_rfl) rfl rfl) (s_move  hk3_5 ?_)
  refine l_pure (gd_yes 38 (by kernel_rfl) rfl rfl) (s_lenr  rfl ho ⟨_, Tryd.underlying24⟩ ?_)
  refine l_pure (gd_yes 38 (by kernel_rfl) rfl rfl) (s_neq  rfl rfl ?_)
  refine l_pure rfl (s_pick (vb rfl rfl) rfl ?_)
  refine l_pure rfl (s_move  rfl ?_)
  refine l_pure (gd_yes 45 (by kernel_rfl) rfl (decide_eq_false (by omega))) (s_move  hk3_9 ?_)
  refine l_pure (gd_yes 45 (by kernel_rfl) rfl (decide_eq_false (by omega))) (s_lenr  rfl hg ⟨_, Tryd.underlying24⟩ ?_)
  refine l_pure (gd_yes 45 (by kernel_rfl) rfl (decide_eq_false (by omega))) (s_move  hk3_5 ?_)
  refine l_pure (gd_yes 45 (by kernel_rfl) rfl (decide_eq_false (by omega))) (s_lenr  rfl ho ⟨_, Tryd.underlying24⟩ ?_)
  refine l_pure (gd_yes 45 (by kernel_rfl) rfl (decide_eq_false (by omega))) (s_neq  rfl rfl ?_)
  refine l_pure rfl (s_pick (vb rfl (decide_eq_false (by omega))) rfl ?_)
  refine l_nil ?_
  repeat (with_reducible first | refine c_seq ?_ | refine c_block ?_ | refine c_skip ?_ | refine x_then ?_ | refine x_block ?_)
  refine c_no rfl (decide_eq_false (by omega)) ?_
  repeat (with_reducible first | refine c_seq ?_ | refine c_block ?_ | refine c_skip ?_ | refine x_then ?_ | refine x_block ?_)
  refine c_reg ?_
  refine l_pure rfl (s_build  rfl bz_32 ?_)
  refine l_pure rfl (s_build  rfl bz_32 ?_)
  refine l_heavy rfl (s_alloc  vi_32 hS ?_)
  intro b11 wz4 hS hBz4
  refine l_heavy rfl (s_alloc  vi_32 hS ?_)
  intro b12 wz5 hS hBz5
  refine l_heavy rfl (s_sta (k := 1)  rfl rfl vi_32 hS rfl rfl rfl (Nat.le_of_ble_eq_true rfl) rfl ?_)
  intro wz6 hS
  refine l_heavy rfl (s_sta (k := 0)  rfl rfl vi_32 hS rfl rfl rfl (Nat.le_of_ble_eq_true rfl) rfl ?_)
  intro wz7 hS
  refine l_nil ?_
  repeat (with_reducible first | refine c_seq ?_ | refine c_block ?_ | refine c_skip ?_ | refine x_then ?_ | refine x_block ?_)
  refine c_reg ?_
  refine l_pure rfl (s_move  hk3_5 ?_)
  refine l_pure rfl (s_lenr  rfl ho ⟨_, Tryd.underlying24⟩ ?_)
  refine l_pure rfl (s_move  rfl ?_)
  refine l_nil ?_
  repeat (with_reducible first | refine c_seq ?_ | refine c_block ?_ | refine c_skip ?_ | refine x_then ?_ | refine x_block ?_)
  replace hS : St w5 _ [(b12, 32, encR zRR), (b11, 32, encR zRR)] := hS
  rw [encR_zero] at hS
  repeat (with_reducible first | refine c_seq ?_ | refine c_block ?_ | refine c_skip ?_ | refine x_then ?_ | refine x_block ?_)
  refine c_forget (fun ρ' => ρ' 5 = vo ∧ ρ' 7 = vt ∧ ρ' 9 = vg ∧ ρ' 11 = .pointer (some ⟨b11, 0, none⟩) ∧ ρ' 12 = .pointer (some ⟨b12, 0, none⟩) ∧ ρ' 55 = .int .i64 O.length ∧ ρ' 56 = .int .i64 0 ∧ True) ⟨hk3_5, hk3_7, hk3_9, rfl, rfl, rfl, rfl, trivial⟩ ?_
  rintro ρk8 ⟨hk8_5, hk8_7, hk8_9, hk8_11, hk8_12, hk8_55, hk8_56, -⟩
  repeat (with_reducible first | refine c_seq ?_ | refine c_block ?_ | refine c_skip ?_ | refine x_then ?_ | refine x_block ?_)
  refine c_loop (σ := Nat) (fun i ρ w' => i ≤ O.length ∧ ρ 5 = vo ∧ ρ 7 = vt ∧ ρ 9 = vg ∧ ρ 11 = .pointer (some ⟨b11, 0, none⟩) ∧ ρ 12 = .pointer (some ⟨b12, 0, none⟩) ∧ ρ 55 = .int .i64 O.length ∧ ρ 56 = .int .i64 i ∧
      St w5 w' [(b12, 32, encR (ofQ (sumIf i (fun _ => true) (gout X O)))), (b11, 32, encR (ofQ (preQ X O i)))]) (fun i => O.length - i) 0
    ⟨Nat.zero_le _, by assumption, by assumption, by assumption, by assumption, by assumption, by assumption, by assumption, by rw [preQ_zero]; exact hS⟩ ?_
  clear hS
  rintro i ρ w6 ⟨hi, h5, h7, h9, h11, h12, h55, h56, hS⟩
  repeat (with_reducible first | refine c_seq ?_ | refine c_block ?_ | refine c_skip ?_ | refine x_then ?_ | refine x_block ?_)
  refine c_reg ?_
  refine l_pure rfl (s_lss  h56 h55 ?_)
  refine l_nil ?_
  repeat (with_reducible first | refine c_seq ?_ | refine c_block ?_ | refine c_skip ?_ | refine x_then ?_ | refine x_block ?_)
  by_cases hlt : i < O.length
  · refine c_yes rfl (decide_eq_true (by omega)) ?_
    repeat (with_reducible first | refine c_seq ?_ | refine c_block ?_ | refine c_skip ?_ | refine x_then ?_ | refine x_block ?_)
    refine c_reg ?_
    refine l_pure rfl (s_move  h56 ?_)
    refine l_pure rfl (s_asg  rfl ?_)
    refine l_nil ?_
    repeat (with_reducible first | refine c_seq ?_ | refine c_block ?_ | refine c_skip ?_ | refine x_then ?_ | refine x_block ?_)
    have e1 : (tab O.length fun c => ofQ (totF X O c)).getD i zRR = ofQ (totF X O i) := tab_get _ _ hlt
    have e2 : (tab O.length fun c => ofQ ((gall X O O.length).out c)).getD i zRR = ofQ (gout X O i) := tab_get _ _ hlt
    have l1 := hLa i
    have l2 := hLb i hlt
    have l3 := hLp i
    have l4 := L_sumT (f := gout X O) (K := 41 * 1 + 42) (k := i) (fun k hk => hLb k (by omega))
    have l5 : i * (41 * 1 + 42 + 1) ≤ 6 * (41 * 1 + 42 + 1) := Nat.mul_le_mul_right _ (by omega)
    have l6 := hLp (i + 1)
    have l7 := L_sumT (f := gout X O) (K := 41 * 1 + 42) (k := i + 1) (fun k hk => hLb k (by omega))
    have l8 : (i + 1) * (41 * 1 + 42 + 1) ≤ 6 * (41 * 1 + 42 + 1) := Nat.mul_le_mul_right _ (by omega)
    repeat (with_reducible first | refine c_seq ?_ | refine c_block ?_ | refine c_skip ?_ | refine x_then ?_ | refine x_block ?_)
    refine c_draw [(0, .read), (1, .pure), (2, .pure), (3, .pure), (4, .read), (6, .read), (7, .pure), (8, .pure), (9, .pure), (10, .read), (5, .grow), (11, .grow), (12, .free), (13, .free)] (by kernel_rfl) (by kernel_rfl) hS ?_
    intro wz9 hS hBz9
    refine w_read rfl rfl (s_ldo (k := 1)  h11 vi_32 hS rfl rfl rfl (.inl rfl) ?_)
    refine w_pure rfl rfl (s_move  h7 ?_)
    refine w_pure rfl rfl (s_move  rfl ?_)
    refine w_pure rfl rfl (s_ixr (i := i)  rfl rfl (ht.below hS.below) (by omega) (by first | omega | (simp; done) | (simp; omega)) si_24 ?_)
    refine w_read rfl rfl (s_lde (i := i) zRR  rfl vi_32 (ht.below hS.below) (by first | omega | (simp; done) | (simp; omega)) rfl rfl (.inl rfl) ?_)
    refine w_read rfl rfl (s_ldo (k := 0)  h12 vi_32 hS rfl rfl rfl (.inl rfl) ?_)
    refine w_pure rfl rfl (s_move  h9 ?_)
    refine w_pure rfl rfl (s_move  rfl ?_)
    refine w_pure rfl rfl (s_ixr (i := i)  rfl rfl (hg.below hS.below) (by omega) (by first | omega | (simp; done) | (simp; omega)) si_24 ?_)
    refine w_read rfl rfl (s_lde (i := i) zRR  rfl vi_32 (hg.below hS.below) (by first | omega | (simp; done) | (simp; omega)) rfl rfl (.inl rfl) ?_)
    rw [e1]
    refine w_grow rfl rfl (s_call Tryd.call10 rfl (QAdd_ok (ofQ (preQ X O i)) (ofQ (totF X O i)) _ (by rw [Lr_ofQ, Lr_ofQ]; omega)) ?_)
    rintro r w7 ⟨rfl, hB7⟩
    refine ⟨hB7, ?_⟩
    rw [toQ_ofQ, toQ_ofQ, show preQ X O i + totF X O i = preQ X O (i + 1) by unfold totF; grind]
    replace hS := hS.grow hB7
    rw [e2]
    refine w_grow rfl rfl (s_call Tryd.call10 rfl (QAdd_ok (ofQ (sumIf i (fun _ => true) (gout X O))) (ofQ (gout X O i)) _ (by rw [Lr_ofQ, Lr_ofQ]; omega)) ?_)
    rintro r w8 ⟨rfl, hB8⟩
    refine ⟨hB8, ?_⟩
    rw [toQ_ofQ, toQ_ofQ, show sumIf i (fun _ => true) (gout X O) + gout X O i = sumIf (i + 1) (fun _ => true) (gout X O) by simp [sumIf]]
    replace hS := hS.grow hB8
    refine w_free rfl rfl (s_sta (k := 1)  h11 rfl vi_32 hS rfl rfl rfl (Nat.le_of_ble_eq_true rfl) rfl ?_)
    intro wz10 hS
    refine w_free rfl rfl (s_sta (k := 0)  h12 rfl vi_32 hS rfl rfl rfl (Nat.le_of_ble_eq_true rfl) rfl ?_)
    intro wz11 hS
    refine w_end ?_
    repeat (with_reducible first | refine c_seq ?_ | refine c_block ?_ | refine c_skip ?_ | refine x_then ?_ | refine x_block ?_)
    replace hS : St w5 _ [(b12, 32, encR (ofQ (sumIf (i + 1) (fun _ => true) (gout X O)))), (b11, 32, encR (ofQ (preQ X O (i + 1))))] := hS
    repeat (with_reducible first | refine c_seq ?_ | refine c_block ?_ | refine c_skip ?_ | refine x_then ?_ | refine x_block ?_)
    refine c_forget (fun ρ' => ρ' 5 = vo ∧ ρ' 7 = vt ∧ ρ' 9 = vg ∧ ρ' 11 = .pointer (some ⟨b11, 0, none⟩) ∧ ρ' 12 = .pointer (some ⟨b12, 0, none⟩) ∧ ρ' 55 = .int .i64 O.length ∧ ρ' 56 = .int .i64 i ∧ ρ' 13 = .int .i64 i ∧ True) ⟨h5, h7, h9, h11, h12, h55, h56, rfl, trivial⟩ ?_
    rintro ρk12 ⟨hk12_5, hk12_7, hk12_9, hk12_11, hk12_12, hk12_55, hk12_56, hk12_13, -⟩
    have hge : ¬ cmpQ (preQ X O (i + 1)) (sumIf (i + 1) (fun _ => true) (gout X O)) < 0 := Int.not_lt.2 (cmpQ_ge.2 (greedy_le hpos (by omega)))
    repeat (with_reducible first | refine c_seq ?_ | refine c_block ?_ | refine c_skip ?_ | refine x_then ?_ | refine x_block ?_)
    refine c_reg ?_
    refine l_read rfl (s_ldo (k := 1)  hk12_11 vi_32 hS rfl rfl rfl (.inl rfl) ?_)
    refine l_read rfl (s_ldo (k := 0)  hk12_12 vi_32 hS rfl rfl rfl (.inl rfl) ?_)
    refine l_heavy rfl (s_call Tryd.call11 rfl (QCompare_ok (ofQ (preQ X O (i + 1))) (ofQ (sumIf (i + 1) (fun _ => true) (gout X O))) _ (by rw [Lr_ofQ, Lr_ofQ]; omega)) ?_)
    rintro r w9 ⟨rfl, hB9⟩
    rw [toQ_ofQ, toQ_ofQ]
    replace hS := hS.grow hB9
    by_cases h0 : i = 0
    · subst h0
      have e3 : sumIf (0 + 1) (fun _ => true) (gout X O) = preQ X O (0 + 1) := by
        rw [first_eq hpos (by omega)]; simp [sumIf]; grind
      rw [e3] at hS
      refine l_pure rfl (s_lss  rfl rfl ?_)
      refine l_pure rfl (s_move  rfl ?_)
      refine l_pure (gd_yes 75 (by kernel_rfl) rfl (decide_eq_false hge)) (s_move  hk12_13 ?_)
      refine l_pure (gd_yes 75 (by kernel_rfl) rfl (decide_eq_false hge)) (s_eql  rfl rfl ?_)
      refine l_pure (gd_yes 75 (by kernel_rfl) rfl (decide_eq_false hge)) (s_move  rfl ?_)
      refine l_read (gd_yes 78 (by kernel_rfl) rfl (decide_eq_true (by omega))) (s_ldo (k := 1)  hk12_11 vi_32 hS rfl rfl rfl (.inl rfl) ?_)
      refine l_read (gd_yes 78 (by kernel_rfl) rfl (decide_eq_true (by omega))) (s_ldo (k := 0)  hk12_12 vi_32 hS rfl rfl rfl (.inl rfl) ?_)
      refine l_pure (gd_yes 78 (by kernel_rfl) rfl (decide_eq_true (by omega))) (s_neR  rfl rfl ?_)
      refine l_pure (gd_yes 75 (by kernel_rfl) rfl (decide_eq_false hge)) (s_pick (vb rfl (decide_eq_true (by omega))) rfl ?_)
      refine l_pure rfl (s_pick (vb rfl (decide_eq_false hge)) rfl ?_)
      refine l_nil ?_
      repeat (with_reducible first | refine c_seq ?_ | refine c_block ?_ | refine c_skip ?_ | refine x_then ?_ | refine x_block ?_)
      refine c_no rfl (decide_eq_false (by simp)) ?_
      repeat (with_reducible first | refine c_seq ?_ | refine c_block ?_ | refine c_skip ?_ | refine x_then ?_ | refine x_block ?_)
      refine c_reg ?_
      refine l_pure rfl (s_add  hk12_56 rfl (IntWalk.i64_in _ (by omega)) ?_)
      refine l_pure rfl (s_move  rfl ?_)
      refine l_nil ?_
      repeat (with_reducible first | refine c_seq ?_ | refine c_block ?_ | refine c_skip ?_ | refine x_then ?_ | refine x_block ?_)
      exact ⟨0 + 1, _, rfl, ⟨hlt, by assumption, by assumption, by assumption, by assumption, by assumption, by assumption, vi rfl (by omega), by rw [e3]; exact hS⟩, by omega⟩
    · refine l_pure rfl (s_lss  rfl rfl ?_)
      refine l_pure rfl (s_move  rfl ?_)
      refine l_pure (gd_yes 75 (by kernel_rfl) rfl (decide_eq_false hge)) (s_move  hk12_13 ?_)
      refine l_pure (gd_yes 75 (by kernel_rfl) rfl (decide_eq_false hge)) (s_eql  rfl rfl ?_)
      refine l_pure (gd_yes 75 (by kernel_rfl) rfl (decide_eq_false hge)) (s_move  rfl ?_)
      refine l_no (gno_yes 78 (by kernel_rfl) rfl (decide_eq_false (by omega))) ?_
      refine l_no (gno_yes 78 (by kernel_rfl) rfl (decide_eq_false (by omega))) ?_
      refine l_no (gno_yes 78 (by kernel_rfl) rfl (decide_eq_false (by omega))) ?_
      refine l_pure (gd_yes 75 (by kernel_rfl) rfl (decide_eq_false hge)) (s_pick (vb rfl (decide_eq_false (by omega))) rfl ?_)
      refine l_pure rfl (s_pick (vb rfl (decide_eq_false hge)) rfl ?_)
      refine l_nil ?_
      repeat (with_reducible first | refine c_seq ?_ | refine c_block ?_ | refine c_skip ?_ | refine x_then ?_ | refine x_block ?_)
      refine c_no rfl (rfl) ?_
      repeat (with_reducible first | refine c_seq ?_ | refine c_block ?_ | refine c_skip ?_ | refine x_then ?_ | refine x_block ?_)
      refine c_reg ?_
      refine l_pure rfl (s_add  hk12_56 rfl (IntWalk.i64_in _ (by omega)) ?_)
      refine l_pure rfl (s_move  rfl ?_)
      refine l_nil ?_
      repeat (with_reducible first | refine c_seq ?_ | refine c_block ?_ | refine c_skip ?_ | refine x_then ?_ | refine x_block ?_)
      exact ⟨i + 1, _, rfl, ⟨hlt, by assumption, by assumption, by assumption, by assumption, by assumption, by assumption, vi rfl (by omega), hS⟩, by omega⟩
  · refine c_no rfl (decide_eq_false (by omega)) ?_
    repeat (with_reducible first | refine c_seq ?_ | refine c_block ?_ | refine c_skip ?_ | refine x_then ?_ | refine x_block ?_)
    refine c_exit ?_
    repeat (with_reducible first | refine x_then_exit ?_ | refine x_block_exit ?_ | refine x_block_pass rfl ?_)
    repeat (with_reducible first | refine c_seq ?_ | refine c_block ?_ | refine c_skip ?_ | refine x_then ?_ | refine x_block ?_)
    refine c_reg ?_
    refine l_heavy rfl (s_call Tryd.call12 rfl (awake_ok _ (hT.below hS.below)) ?_)
    rintro r w10 ⟨rfl, hB10⟩
    replace hS := hS.grow hB10
    refine l_pure rfl (s_asg  rfl ?_)
    refine l_nil ?_
    repeat (with_reducible first | refine c_seq ?_ | refine c_block ?_ | refine c_skip ?_ | refine x_then ?_ | refine x_block ?_)
    refine c_ret ?_
    repeat (with_reducible first | refine x_then_ret ?_ | refine x_block_ret ?_)
    refine r_one rfl rfl ?_
    exact ⟨rfl, bt hW hS.below⟩
end Go.Proofs.YtfocimgpahjkmaaDoor
