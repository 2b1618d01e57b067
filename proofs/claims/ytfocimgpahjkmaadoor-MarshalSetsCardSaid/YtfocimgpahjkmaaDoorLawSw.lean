/-
  The law that the totals of any set of claims sum up to at most its capacity: its walk.
-/
import Derived.Test.YtfocimgpahjkmaaDoorLawSt
namespace Go.Proofs.YtfocimgpahjkmaaDoor
open Go Go.RowKit Go.Sx

set_option maxHeartbeats 2000000 in
theorem MarshalSets_ok (vl va : Value) (l : List (Nat → Nat)) (a : List Nat) (bits : Nat) (w : World) (hl : Sl enc6 6 w vl l) (ha : Sl (uk .u16) 1 w va a) (hlb : ∀ x ∈ l, ∀ i, i < 6 → x i < 65536) (hab : ∀ x ∈ a, x < 65536) (hbits : bits < 256)
    (hT : At w ⟨2, 0, none⟩ (Kr .u8 tzTab)) :
    Ret Tryd.prog 5 #[vl, va, .int .u8 bits] w fun v w' => v = .bool true ∧ Below w.heap.size w w' := by
  have hM : MX = 1099511627776 := rfl
  have hK1 : 80 * 1 + 90 ≤ MX := by rw [hM]; decide
  have hS := St.init w
  refine enter Tryd.func5 rfl Tryd.ntmps5 rfl ?_
  repeat (with_reducible first | refine c_seq ?_ | refine c_block ?_ | refine c_skip ?_ | refine x_then ?_ | refine x_block ?_)
  refine c_reg ?_
  refine l_pure rfl (s_asg  rfl ?_)
  refine l_nil ?_
  repeat (with_reducible first | refine c_seq ?_ | refine c_block ?_ | refine c_skip ?_ | refine x_then ?_ | refine x_block ?_)
  refine c_reg ?_
  refine l_pure rfl (s_move  rfl ?_)
  refine l_heavy rfl (s_call Tryd.call6 rfl (Amounts_ok va a 6 _ ha hab (by decide)) ?_)
  rintro vo w1 ⟨ho, hB1⟩
  replace hS := hS.grow hB1
  have hm6 : (amts a 6).length ≤ 6 := by rw [amts_len]; omega
  refine l_pure rfl (s_asg  rfl ?_)
  refine l_nil ?_
  repeat (with_reducible first | refine c_seq ?_ | refine c_block ?_ | refine c_skip ?_ | refine x_then ?_ | refine x_block ?_)
  refine c_reg ?_
  refine l_pure rfl (s_move  rfl ?_)
  refine l_pure rfl (s_move  rfl ?_)
  refine l_pure rfl (s_lenr  rfl ho ⟨_, Tryd.underlying24⟩ ?_)
  refine l_heavy rfl (s_call Tryd.call7 rfl (Items_ok vl l (amts a 6).length _ (hl.below hS.below) hlb (by omega)) ?_)
  rintro vit w2 ⟨⟨cvs, hI⟩, hB2⟩
  replace hS := hS.grow hB2
  replace ho := ho.below hB2
  have hck := items_check l a 4 6 (by decide) (by decide)
  have hIB := items_B l (amts a 6).length 4
  have hoB := amts_RB a 6
  have hpos := amts_pos a 6
  have hl8 : (itemsL l (amts a 6).length 4).length ≤ 8 := by rw [itemsL_len]; omega
  have hl24 : (amts a 6).length ≤ 24 := by omega
  have e1 := capE_setL l a 4 6 bits (by decide) (by decide)
  have e2 := capE_setL l a 4 6 255 (by decide) (by decide)
  have hW := hS.below
  replace hT := hT.below hW
  obtain ⟨X, hX⟩ : ∃ X, X = itemsL l (amts a 6).length 4 := ⟨_, rfl⟩
  rw [← hX] at hck hIB hl8 e1 e2 hI
  obtain ⟨O, hO⟩ : ∃ O, O = amts a 6 := ⟨_, rfl⟩
  rw [← hO] at hck hoB hpos hm6 hl24 ho e1 e2
  have r1 := capR_Q e1
  have r2 := capR_Q e2
  have hLt := L_totF hIB hoB hl8 hl24
  have hLp := L_preQ hIB hoB hl8 hl24
  have hL1 := L_capQ hIB hoB hl8 hl24 (capS (setL bits O.length))
  have htl : (tab O.length fun c => ofQ (totF X O c)).length = O.length := tab_len _ _
  have hsum : sumQ ((setL bits O.length).map (totI X O)) ≤ capQ X O (capS (setL bits O.length)) := by
    rw [sumQ_set]
    rw [capQ_congr (t := bits.testBit) (fun c hc => capS_setL hc)]
    exact sets_all hpos _
  have hall : preQ X O O.length = capQ X O (capS (setL 255 O.length)) := by
    rw [preQ_eq]
    refine capQ_congr fun c hc => ?_
    rw [capS_setL hc, decide_eq_true hc, show (255 : Nat) = 2 ^ 8 - 1 from rfl, Nat.testBit_two_pow_sub_one, decide_eq_true (show c < 8 by omega)]
  have hLI : ∀ q ∈ (setL bits O.length).map (totI X O), L q ≤ 80 * 1 + 91 := fun q hq => by
    obtain ⟨i, _, rfl⟩ := List.mem_map.1 hq
    exact hLt _
  have hsl := setL_len bits O.length
  have hLs := L_sumQ hLI
  have hsumL : sumL (tab O.length fun c => ofQ (totF X O c)) ≤ O.length * (80 * 1 + 91 + 1) := by
    have h := sumL_bound (l := tab O.length fun c => ofQ (totF X O c)) (K := 80 * 1 + 91) fun r hr => by
      obtain ⟨c, _, rfl⟩ := tab_mem hr
      rw [Lr_ofQ]; exact hLt c
    rwa [htl] at h
  have hsumL2 : O.length * (80 * 1 + 91 + 1) ≤ 6 * (80 * 1 + 91 + 1) := Nat.mul_le_mul_right _ hm6
  obtain ⟨S, hSe⟩ : ∃ S, S = setL bits O.length := ⟨_, rfl⟩
  have hSm : ∀ k, k < S.length → ∃ c : Nat, S.getD k 0 = (c : Int) ∧ c < O.length := fun k hk => by
    have h := getD_mem S k 0 hk
    generalize S.getD k 0 = y at h
    rw [hSe] at h
    obtain ⟨c, hc, rfl⟩ := List.mem_map.1 h
    exact ⟨c, rfl, List.mem_range.1 (List.mem_filter.1 hc).1⟩
  rw [← hSe] at r1 e1 hL1 hsum hsl hLs
  obtain ⟨q1, hq1⟩ : ∃ q, q = capQ X O (capS S) := ⟨_, rfl⟩
  rw [← hq1] at r1 hL1 hsum
  obtain ⟨q2, hq2⟩ : ∃ q, q = preQ X O O.length := ⟨_, rfl⟩
  rw [← hall, ← hq2] at r2
  clear hS
  have hS := St.init w2
  refine l_pure rfl (s_asg  rfl ?_)
  refine l_nil ?_
  repeat (with_reducible first | refine c_seq ?_ | refine c_block ?_ | refine c_skip ?_ | refine x_then ?_ | refine x_block ?_)
  refine c_forget (fun ρ' => ρ' 2 = .int .u8 bits ∧ ρ' 7 = vo ∧ ρ' 8 = vit ∧ True) ⟨rfl, rfl, rfl, trivial⟩ ?_
  rintro ρk1 ⟨hk1_2, hk1_7, hk1_8, -⟩
  repeat (with_reducible first | refine c_seq ?_ | refine c_block ?_ | refine c_skip ?_ | refine x_then ?_ | refine x_block ?_)
  refine c_reg ?_
  refine l_pure rfl (s_move  hk1_8 ?_)
  refine l_pure rfl (s_move  hk1_7 ?_)
  refine l_heavy rfl (s_call Tryd.call8 rfl (Totals_ok _ _ X cvs O 1 _ hI ho hIB hoB hK1 hT) ?_)
  rintro r w3 ⟨⟨vt, rfl, ht⟩, hB3⟩
  rw [hck]
  rw [totL_eq hck] at ht
  replace hS := hS.grow hB3
  refine l_pure rfl (s_move  rfl ?_)
  refine l_pure rfl (s_ext  rfl rfl ?_)
  refine l_pure rfl (s_ext  rfl rfl ?_)
  refine l_pure rfl (s_asg  rfl ?_)
  refine l_pure rfl (s_asg  rfl ?_)
  refine l_nil ?_
  repeat (with_reducible first | refine c_seq ?_ | refine c_block ?_ | refine c_skip ?_ | refine x_then ?_ | refine x_block ?_)
  refine c_forget (fun ρ' => ρ' 2 = .int .u8 bits ∧ ρ' 7 = vo ∧ ρ' 8 = vit ∧ ρ' 9 = vt ∧ ρ' 10 = .int .i64 0 ∧ True) ⟨hk1_2, hk1_7, hk1_8, rfl, rfl, trivial⟩ ?_
  rintro ρk2 ⟨hk2_2, hk2_7, hk2_8, hk2_9, hk2_10, -⟩
  repeat (with_reducible first | refine c_seq ?_ | refine c_block ?_ | refine c_skip ?_ | refine x_then ?_ | refine x_block ?_)
  refine c_reg ?_
  refine l_pure rfl (s_move  hk2_8 ?_)
  refine l_pure rfl (s_move  hk2_7 ?_)
  refine l_pure rfl (s_move  hk2_2 ?_)
  refine l_pure rfl (s_move  hk2_7 ?_)
  refine l_pure rfl (s_lenr  rfl (ho.below hS.below) ⟨_, Tryd.underlying24⟩ ?_)
  refine l_heavy rfl (s_call Tryd.call14 rfl (set_ok bits O.length _ hbits (by omega)) ?_)
  rintro vs w4 ⟨hs, hB4⟩
  rw [← hSe] at hs
  replace hS := hS.grow hB4
  refine l_heavy rfl (s_call Tryd.call13 rfl (Capacity_ok _ _ _ X cvs O S 1 _ (hI.below hS.below) (ho.below hS.below) hs hIB hoB hK1 (hT.below hS.below)) ?_)
  rintro r w5 ⟨rfl, hB5⟩
  rw [e1, r1]
  replace hS := hS.grow hB5
  replace ht := ht.below (bt hB4 hB5)
  have hW2 := bt hW hS.below
  replace ho := ho.below hS.below
  replace hI := hI.below hS.below
  replace hT := hT.below hS.below
  clear hS
  have hS := St.init w5
  refine l_pure rfl (s_move  rfl ?_)
  refine l_pure rfl (s_ext  rfl rfl ?_)
  refine l_pure rfl (s_ext  rfl rfl ?_)
  refine l_heavy rfl (s_alloc  vi_32 hS ?_)
  intro b11 wz3 hS hBz3
  refine l_heavy rfl (s_sta (k := 0)  rfl rfl vi_32 hS rfl rfl rfl (Nat.le_of_ble_eq_true rfl) rfl ?_)
  intro wz4 hS
  refine l_pure rfl (s_asg  rfl ?_)
  refine l_nil ?_
  repeat (with_reducible first | refine c_seq ?_ | refine c_block ?_ | refine c_skip ?_ | refine x_then ?_ | refine x_block ?_)
  replace hS : St w5 _ [(b11, 32, encR (ofQ q1))] := hS
  repeat (with_reducible first | refine c_seq ?_ | refine c_block ?_ | refine c_skip ?_ | refine x_then ?_ | refine x_block ?_)
  refine c_forget (fun ρ' => ρ' 2 = .int .u8 bits ∧ ρ' 7 = vo ∧ ρ' 8 = vit ∧ ρ' 9 = vt ∧ ρ' 10 = .int .i64 0 ∧ ρ' 11 = .pointer (some ⟨b11, 0, none⟩) ∧ ρ' 12 = .int .i64 0 ∧ True) ⟨hk2_2, hk2_7, hk2_8, hk2_9, hk2_10, rfl, rfl, trivial⟩ ?_
  rintro ρk5 ⟨hk5_2, hk5_7, hk5_8, hk5_9, hk5_10, hk5_11, hk5_12, -⟩
  repeat (with_reducible first | refine c_seq ?_ | refine c_block ?_ | refine c_skip ?_ | refine x_then ?_ | refine x_block ?_)
  refine c_reg ?_
  refine l_pure rfl (s_move  hk5_10 ?_)
  refine l_pure rfl (s_neq  rfl rfl ?_)
  refine l_pure rfl (s_move  rfl ?_)
  refine l_pure (gd_yes 42 (by kernel_rfl) rfl rfl) (s_move  hk5_12 ?_)
  refine l_pure (gd_yes 42 (by kernel_rfl) rfl rfl) (s_neq  rfl rfl ?_)
  refine l_pure rfl (s_pick (vb rfl rfl) rfl ?_)
  refine l_pure rfl (s_move  rfl ?_)
  refine l_pure (gd_yes 46 (by kernel_rfl) rfl rfl) (s_move  hk5_9 ?_)
  refine l_pure (gd_yes 46 (by kernel_rfl) rfl rfl) (s_lenr  rfl (ht.below hS.below) ⟨_, Tryd.underlying24⟩ ?_)
  refine l_pure (gd_yes 46 (by kernel_rfl) rfl rfl) (s_move  hk5_7 ?_)
  refine l_pure (gd_yes 46 (by kernel_rfl) rfl rfl) (s_lenr  rfl (ho.below hS.below) ⟨_, Tryd.underlying24⟩ ?_)
  refine l_pure (gd_yes 46 (by kernel_rfl) rfl rfl) (s_neq  rfl rfl ?_)
  refine l_pure rfl (s_pick (vb rfl rfl) rfl ?_)
  refine l_nil ?_
  repeat (with_reducible first | refine c_seq ?_ | refine c_block ?_ | refine c_skip ?_ | refine x_then ?_ | refine x_block ?_)
  refine c_no rfl (decide_eq_false (by omega)) ?_
  repeat (with_reducible first | refine c_seq ?_ | refine c_block ?_ | refine c_skip ?_ | refine x_then ?_ | refine x_block ?_)
  refine c_reg ?_
  refine l_pure rfl (s_build  rfl bz_32 ?_)
  refine l_heavy rfl (s_alloc  vi_32 hS ?_)
  intro b13 wz6 hS hBz6
  refine l_heavy rfl (s_sta (k := 0)  rfl rfl vi_32 hS rfl rfl rfl (Nat.le_of_ble_eq_true rfl) rfl ?_)
  intro wz7 hS
  refine l_nil ?_
  repeat (with_reducible first | refine c_seq ?_ | refine c_block ?_ | refine c_skip ?_ | refine x_then ?_ | refine x_block ?_)
  replace hS : St w5 _ [(b13, 32, encR zRR), (b11, 32, encR (ofQ q1))] := hS
  rw [encR_zero] at hS
  repeat (with_reducible first | refine c_seq ?_ | refine c_block ?_ | refine c_skip ?_ | refine x_then ?_ | refine x_block ?_)
  refine c_forget (fun ρ' => ρ' 2 = .int .u8 bits ∧ ρ' 7 = vo ∧ ρ' 8 = vit ∧ ρ' 9 = vt ∧ ρ' 11 = .pointer (some ⟨b11, 0, none⟩) ∧ ρ' 13 = .pointer (some ⟨b13, 0, none⟩) ∧ True) ⟨hk5_2, hk5_7, hk5_8, hk5_9, hk5_11, rfl, trivial⟩ ?_
  rintro ρk8 ⟨hk8_2, hk8_7, hk8_8, hk8_9, hk8_11, hk8_13, -⟩
  repeat (with_reducible first | refine c_seq ?_ | refine c_block ?_ | refine c_skip ?_ | refine x_then ?_ | refine x_block ?_)
  refine c_reg ?_
  refine l_pure rfl (s_move  hk8_2 ?_)
  refine l_pure rfl (s_move  hk8_7 ?_)
  refine l_pure rfl (s_lenr  rfl (ho.below hS.below) ⟨_, Tryd.underlying24⟩ ?_)
  refine l_heavy rfl (s_call Tryd.call14 rfl (set_gl bits O.length _ hbits (by omega)) ?_)
  rintro vs2 w6 ⟨LS, hG, hS6⟩
  rw [← hSe] at hG
  replace hS := (hS.join hS6).perm List.perm_append_comm
  replace hS : St w5 _ ([(b13, 32, encR (ofQ 0)), (b11, 32, encR (ofQ q1))] ++ LS) := hS
  refine l_pure rfl (s_lenr  rfl (hG.sl hS enI_len) ⟨_, Tryd.underlying39⟩ ?_)
  refine l_pure rfl (s_move  rfl ?_)
  refine l_nil ?_
  repeat (with_reducible first | refine c_seq ?_ | refine c_skip ?_ | refine x_then ?_ | refine x_block ?_)
  refine c_cut1 (fun ρ w' => ρ 7 = vo ∧ ρ 8 = vit ∧ ρ 9 = vt ∧ ρ 11 = .pointer (some ⟨b11, 0, none⟩) ∧ ρ 13 = .pointer (some ⟨b13, 0, none⟩) ∧
      St w5 w' [(b13, 32, encR (ofQ (sumQ (S.map (totI X O))))), (b11, 32, encR (ofQ q1))]) ?_ ?_
  · repeat (with_reducible first | refine c_seq ?_ | refine c_block ?_ | refine c_skip ?_ | refine x_then ?_ | refine x_block ?_)
    refine c_loop (σ := Nat) (fun k ρ w' => k ≤ S.length ∧ ρ 7 = vo ∧ ρ 8 = vit ∧ ρ 9 = vt ∧ ρ 11 = .pointer (some ⟨b11, 0, none⟩) ∧ ρ 13 = .pointer (some ⟨b13, 0, none⟩) ∧ ρ 57 = vs2 ∧ ρ 58 = .int .i64 S.length ∧ ρ 59 = .int .i64 k ∧
        St w5 w' ([(b13, 32, encR (ofQ (sumQ ((S.map (totI X O)).take k)))), (b11, 32, encR (ofQ q1))] ++ LS)) (fun k => S.length - k) 0
      ⟨Nat.zero_le _, by assumption, by assumption, by assumption, by assumption, by assumption, rfl, rfl, rfl, hS⟩ ?_
    clear hS
    rintro k ρ w7 ⟨hk, h7, h8, h9, h11, h13, h57, h58, h59, hS⟩
    repeat (with_reducible first | refine c_seq ?_ | refine c_block ?_ | refine c_skip ?_ | refine x_then ?_ | refine x_block ?_)
    refine c_reg ?_
    refine l_pure rfl (s_lss  h59 h58 ?_)
    refine l_nil ?_
    repeat (with_reducible first | refine c_seq ?_ | refine c_block ?_ | refine c_skip ?_ | refine x_then ?_ | refine x_block ?_)
    by_cases hlt : k < S.length
    · refine c_yes rfl (decide_eq_true (by omega)) ?_
      repeat (with_reducible first | refine c_seq ?_ | refine c_block ?_ | refine c_skip ?_ | refine x_then ?_ | refine x_block ?_)
      obtain ⟨c, hc, hcO⟩ := hSm k hlt
      have e3 : (tab O.length fun c => ofQ (totF X O c)).getD c zRR = ofQ (totF X O c) := tab_get _ _ hcO
      have e4 : (S.map (totI X O)).take (k + 1) = (S.map (totI X O)).take k ++ [totF X O c] := by
        rw [take_succ' _ k 0 (by rw [List.length_map]; exact hlt)]
        congr 2
        rw [List.getD_eq_getElem?_getD, List.getElem?_map, List.getElem?_eq_getElem hlt]
        rw [List.getD_eq_getElem?_getD, List.getElem?_eq_getElem hlt] at hc
        simp only [Option.getD_some, Option.map_some] at hc ⊢
        rw [hc]; rfl
      have l1 := hLt c
      have l2 := hLs k
      have l3 : k * (80 * 1 + 91 + 1) ≤ 6 * (80 * 1 + 91 + 1) := Nat.mul_le_mul_right _ (by omega)
      repeat (with_reducible first | refine c_seq ?_ | refine c_block ?_ | refine c_skip ?_ | refine x_then ?_ | refine x_block ?_)
      refine c_reg ?_
      refine l_pure rfl (s_ixr (i := k)  h57 h59 (hG.sl hS enI_len) (by omega) (by first | omega | (simp; done) | (simp; omega)) si_39 ?_)
      refine l_read rfl (s_lde (i := k) 0  rfl vi_3 (hG.sl hS enI_len) (by first | omega | (simp; done) | (simp; omega)) rfl rfl (.inr rfl) ?_)
      refine l_pure rfl (s_asg  rfl ?_)
      refine l_nil ?_
      repeat (with_reducible first | refine c_seq ?_ | refine c_block ?_ | refine c_skip ?_ | refine x_then ?_ | refine x_block ?_)
      rw [hc]
      repeat (with_reducible first | refine c_seq ?_ | refine c_block ?_ | refine c_skip ?_ | refine x_then ?_ | refine x_block ?_)
      refine c_draw [(0, .read), (1, .pure), (2, .pure), (3, .pure), (4, .read), (5, .grow), (6, .free)] (by kernel_rfl) (by kernel_rfl) hS ?_
      intro wz9 hS hBz9
      refine w_read rfl rfl (s_ldo (k := 0)  h13 vi_32 hS rfl rfl rfl (.inl rfl) ?_)
      refine w_pure rfl rfl (s_move  h9 ?_)
      refine w_pure rfl rfl (s_move  rfl ?_)
      refine w_pure rfl rfl (s_ixr (i := c)  rfl rfl (ht.below hS.below) (by omega) (by first | omega | (simp; done) | (simp; omega)) si_24 ?_)
      refine w_read rfl rfl (s_lde (i := c) zRR  rfl vi_32 (ht.below hS.below) (by first | omega | (simp; done) | (simp; omega)) rfl rfl (.inl rfl) ?_)
      rw [e3]
      refine w_grow rfl rfl (s_call Tryd.call10 rfl (QAdd_ok (ofQ (sumQ ((S.map (totI X O)).take k))) (ofQ (totF X O c)) _ (by rw [Lr_ofQ, Lr_ofQ]; omega)) ?_)
      rintro r w8 ⟨rfl, hB8⟩
      refine ⟨hB8, ?_⟩
      rw [toQ_ofQ, toQ_ofQ, ← sumQ_snoc, ← e4]
      replace hS := hS.grow hB8
      refine w_free rfl rfl (s_sta (k := 0)  h13 rfl vi_32 hS rfl rfl rfl (Nat.le_of_ble_eq_true rfl) rfl ?_)
      intro wz10 hS
      refine w_end ?_
      repeat (with_reducible first | refine c_seq ?_ | refine c_block ?_ | refine c_skip ?_ | refine x_then ?_ | refine x_block ?_)
      refine c_reg ?_
      refine l_pure rfl (s_add  h59 rfl (IntWalk.i64_in _ (by omega)) ?_)
      refine l_pure rfl (s_move  rfl ?_)
      refine l_nil ?_
      repeat (with_reducible first | refine c_seq ?_ | refine c_block ?_ | refine c_skip ?_ | refine x_then ?_ | refine x_block ?_)
      exact ⟨k + 1, _, rfl, ⟨hlt, h7, h8, h9, h11, h13, h57, h58, vi rfl (by omega), hS⟩, by omega⟩
    · refine c_no rfl (decide_eq_false (by omega)) ?_
      repeat (with_reducible first | refine c_seq ?_ | refine c_block ?_ | refine c_skip ?_ | refine x_then ?_ | refine x_block ?_)
      refine c_exit ?_
      repeat (with_reducible first | refine x_then_exit ?_ | refine x_block_exit ?_ | refine x_block_pass rfl ?_)
      repeat (with_reducible first | refine c_seq ?_ | refine c_block ?_ | refine c_skip ?_ | refine x_then ?_ | refine x_block ?_)
      have e : (S.map (totI X O)).take k = S.map (totI X O) := List.take_of_length_le (by rw [List.length_map]; omega)
      rw [e] at hS
      exact ⟨_, rfl, h7, h8, h9, h11, h13, hS.drop (List.sublist_append_left _ _)⟩
  clear hS
  rintro ρ w7 ⟨h7, h8, h9, h11, h13, hS⟩
  repeat (with_reducible first | refine c_seq ?_ | refine c_block ?_ | refine c_skip ?_ | refine x_then ?_ | refine x_block ?_)
  refine c_reg ?_
  refine l_pure rfl (s_move  h8 ?_)
  refine l_pure rfl (s_move  h7 ?_)
  refine l_pure rfl (s_move  h7 ?_)
  refine l_pure rfl (s_lenr  rfl (ho.below hS.below) ⟨_, Tryd.underlying24⟩ ?_)
  refine l_heavy rfl (s_call Tryd.call14 rfl (set_ok 255 O.length _ (by decide) (by omega)) ?_)
  rintro vs3 w8 ⟨hs5, hB8⟩
  replace hS := hS.grow hB8
  refine l_heavy rfl (s_call Tryd.call13 rfl (Capacity_ok _ _ _ X cvs O (setL 255 O.length) 1 _ (hI.below hS.below) (ho.below hS.below) hs5 hIB hoB hK1 (hT.below hS.below)) ?_)
  rintro r w9 ⟨rfl, hB9⟩
  rw [e2, r2]
  replace hS := hS.grow hB9
  refine l_pure rfl (s_move  rfl ?_)
  refine l_pure rfl (s_ext  rfl rfl ?_)
  refine l_pure rfl (s_ext  rfl rfl ?_)
  refine l_heavy rfl (s_alloc  vi_32 hS ?_)
  intro b16 wz11 hS hBz11
  refine l_heavy rfl (s_sta (k := 0)  rfl rfl vi_32 hS rfl rfl rfl (Nat.le_of_ble_eq_true rfl) rfl ?_)
  intro wz12 hS
  refine l_pure rfl (s_asg  rfl ?_)
  refine l_nil ?_
  repeat (with_reducible first | refine c_seq ?_ | refine c_block ?_ | refine c_skip ?_ | refine x_then ?_ | refine x_block ?_)
  replace hS : St w5 _ [(b16, 32, encR (ofQ q2)), (b13, 32, encR (ofQ (sumQ (S.map (totI X O))))), (b11, 32, encR (ofQ q1))] := hS
  repeat (with_reducible first | refine c_seq ?_ | refine c_block ?_ | refine c_skip ?_ | refine x_then ?_ | refine x_block ?_)
  refine c_forget (fun ρ' => ρ' 9 = vt ∧ ρ' 11 = .pointer (some ⟨b11, 0, none⟩) ∧ ρ' 13 = .pointer (some ⟨b13, 0, none⟩) ∧ ρ' 16 = .pointer (some ⟨b16, 0, none⟩) ∧ ρ' 17 = .int .i64 0 ∧ True) ⟨h9, h11, h13, rfl, rfl, trivial⟩ ?_
  rintro ρk13 ⟨hk13_9, hk13_11, hk13_13, hk13_16, hk13_17, -⟩
  have hle : cmpQ (sumQ (S.map (totI X O))) q1 ≤ 0 := cmpQ_le.2 hsum
  have hLs2 := hLs S.length
  rw [List.take_of_length_le (by rw [List.length_map]; omega)] at hLs2
  have hLs3 : S.length * (80 * 1 + 91 + 1) ≤ 6 * (80 * 1 + 91 + 1) := Nat.mul_le_mul_right _ (by omega)
  repeat (with_reducible first | refine c_seq ?_ | refine c_block ?_ | refine c_skip ?_ | refine x_then ?_ | refine x_block ?_)
  refine c_draw [(0, .grow), (1, .pure), (2, .read), (3, .read), (4, .grow), (5, .pure), (6, .pure), (7, .pure), (8, .pure), (9, .pure), (10, .pure), (11, .pure), (12, .pure), (14, .read), (13, .grow), (15, .pure), (16, .pure), (17, .pure)] (by kernel_rfl) (by kernel_rfl) hS ?_
  intro wz14 hS hBz14
  refine w_grow rfl rfl (s_call Tryd.call12 rfl (awake_ok _ (hT.below hS.below)) ?_)
  rintro r w10 ⟨rfl, hB10⟩
  refine ⟨hB10, ?_⟩
  replace hS := hS.grow hB10
  refine w_pure rfl rfl (s_move  rfl ?_)
  refine w_read rfl (gd_yes 80 (by kernel_rfl) rfl rfl) (s_ldo (k := 1)  hk13_13 vi_32 hS rfl rfl rfl (.inl rfl) ?_)
  refine w_read rfl (gd_yes 80 (by kernel_rfl) rfl rfl) (s_ldo (k := 2)  hk13_11 vi_32 hS rfl rfl rfl (.inl rfl) ?_)
  refine w_grow rfl (gd_yes 80 (by kernel_rfl) rfl rfl) (s_call Tryd.call11 rfl (QCompare_ok (ofQ (sumQ (S.map (totI X O)))) (ofQ q1) _ (by rw [Lr_ofQ, Lr_ofQ]; omega)) ?_)
  rintro r w11 ⟨rfl, hB11⟩
  refine ⟨hB11, ?_⟩
  rw [toQ_ofQ, toQ_ofQ]
  replace hS := hS.grow hB11
  refine w_pure rfl (gd_yes 80 (by kernel_rfl) rfl rfl) (s_leq  rfl rfl ?_)
  refine w_pure rfl rfl (s_pick (vb rfl rfl) rfl ?_)
  refine w_pure rfl rfl (s_move  rfl ?_)
  refine w_pure rfl (gd_yes 86 (by kernel_rfl) rfl (decide_eq_true hle)) (s_move  hk13_17 ?_)
  refine w_pure rfl (gd_yes 86 (by kernel_rfl) rfl (decide_eq_true hle)) (s_eql  rfl rfl ?_)
  refine w_pure rfl rfl (s_pick (vb rfl (decide_eq_true hle)) rfl ?_)
  refine w_pure rfl rfl (s_move  rfl ?_)
  refine w_pure rfl (gd_yes 90 (by kernel_rfl) rfl (decide_eq_true rfl)) (s_move  hk13_9 ?_)
  refine w_read rfl (gd_yes 90 (by kernel_rfl) rfl (decide_eq_true rfl)) (s_ldo (k := 0)  hk13_16 vi_32 hS rfl rfl rfl (.inl rfl) ?_)
  refine w_grow rfl (gd_yes 90 (by kernel_rfl) rfl (decide_eq_true rfl)) (s_call Tryd.call16 rfl (QSum_ok vt (tab O.length fun c => ofQ (totF X O c)) _ (ht.below hS.below) (by omega)) ?_)
  rintro r w12 ⟨rfl, hB12⟩
  refine ⟨hB12, ?_⟩
  rw [tot_tele, ← hq2]
  replace hS := hS.grow hB12
  refine w_pure rfl (gd_yes 90 (by kernel_rfl) rfl (decide_eq_true rfl)) (s_eqR  rfl rfl ?_)
  refine w_pure rfl rfl (s_pick (vb rfl (decide_eq_true rfl)) rfl ?_)
  refine w_pure rfl rfl (s_asg  rfl ?_)
  refine w_end ?_
  repeat (with_reducible first | refine c_seq ?_ | refine c_block ?_ | refine c_skip ?_ | refine x_then ?_ | refine x_block ?_)
  refine c_ret ?_
  repeat (with_reducible first | refine x_then_ret ?_ | refine x_block_ret ?_)
  refine r_one rfl rfl ?_
  exact ⟨vb rfl (decide_eq_true rfl), bt hW2 hS.below⟩
end Go.Proofs.YtfocimgpahjkmaaDoor
