/-
  Part 8 of the texts that the law's proof is made of: the framework and the walks.
-/
import Derived.Test.YtdafaibhiobpaaaGreatDoorPr7
namespace Go.Proofs.YtdafaibhiobpaaaGreatDoor
open Go Go.RowKit Go.Sx
set_option maxHeartbeats 1000000 in
theorem SetoffApply_ok (vl : Value) (a : List (Nat → Nat)) (cc ss : Nat) (w : World) (hv : Sl enc5 5 w vl a) (hb : ∀ x ∈ a, ∀ i, i < 5 → x i < 65536) (hcc : cc < 256) :
    Ret Tryz.prog 3 #[vl, .int .u8 cc, .int .u8 ss] w fun v w' => v = .bool true ∧ Below w.heap.size w w' := by
  have hM : MX = 1099511627776 := rfl
  have hS := St.init w
  have hs40 : ss % 40 < 40 := Nat.mod_lt _ (by decide)
  obtain ⟨s, hs⟩ : ∃ s, s = ss % 40 := ⟨_, rfl⟩
  obtain ⟨l, hl⟩ : ∃ l, l = obsL a 16 := ⟨_, rfl⟩
  have hC := obsL_chk a hcc (show s < 256 by omega)
  have hB := obsL_B a 16
  have hlen : (obsL a 16).length ≤ 16 := by rw [obsL_len]; omega
  rw [← hl] at hC hB hlen
  refine enter Tryz.func3 rfl Tryz.ntmps3 rfl ?_
  repeat (with_reducible first | refine c_seq ?_ | refine c_block ?_ | refine c_skip ?_ | refine x_then ?_ | refine x_block ?_)
  refine c_reg ?_
  refine l_pure rfl (s_asg  rfl ?_)
  refine l_nil ?_
  repeat (with_reducible first | refine c_seq ?_ | refine c_block ?_ | refine c_skip ?_ | refine x_then ?_ | refine x_block ?_)
  refine c_reg ?_
  refine l_pure rfl (s_move  rfl ?_)
  refine l_heavy rfl (s_call Tryz.call7 rfl (Obligations_ok vl a _ hv hb) ?_)
  rintro vo w1 ⟨LO, hG, hSO⟩
  rw [← hl] at hG
  have hS1 : St w w1 ([] ++ LO) := hS.join hSO |>.cast (by simp)
  clear hS hSO
  have hS := hS1
  refine l_pure rfl (s_asg  rfl ?_)
  refine l_nil ?_
  repeat (with_reducible first | refine c_seq ?_ | refine c_block ?_ | refine c_skip ?_ | refine x_then ?_ | refine x_block ?_)
  refine c_forget (fun ρ' => ρ' 1 = .int .u8 cc ∧ ρ' 2 = .int .u8 ss ∧ ρ' 7 = vo ∧ True) ⟨rfl, rfl, rfl, trivial⟩ ?_
  rintro ρk1 ⟨hk1_1, hk1_2, hk1_7, -⟩
  repeat (with_reducible first | refine c_seq ?_ | refine c_block ?_ | refine c_skip ?_ | refine x_then ?_ | refine x_block ?_)
  refine c_reg ?_
  refine l_pure rfl (s_move  hk1_7 ?_)
  refine l_pure rfl (s_move  hk1_1 ?_)
  refine l_pure rfl (s_conv  rfl Tryz.underlying3 ⟨_, Tryz.underlying5⟩ (IntWalk.i64_in _ (by omega)) ?_)
  refine l_pure rfl (s_move  hk1_2 ?_)
  refine l_pure rfl (s_rem  rfl rfl (by omega) (r := ((ss % 40 : Nat) : Int)) (by exact rem_nat ss 40) ?_)
  refine l_pure rfl (s_conv  rfl Tryz.underlying3 ⟨_, Tryz.underlying5⟩ (r := ((ss % 40 : Nat) : Int)) (by exact wr_i64 _ ⟨rfl, by omega, by omega⟩) ?_)
  rw [← hs]
  refine l_heavy rfl (s_call Tryz.call8 rfl (OApply_ok 4 cc s _ l 1 _ (hG.sl hS encOb_len) hB (by rw [hM]; decide) (by omega)) ?_)
  rintro r w2 ⟨⟨vr, rfl, hr⟩, hB2⟩
  replace hS := hS.grow hB2
  rw [hC]
  refine l_pure rfl (s_move  rfl ?_)
  refine l_pure rfl (s_ext  rfl rfl ?_)
  refine l_pure rfl (s_ext  rfl rfl ?_)
  refine l_pure rfl (s_asg  rfl ?_)
  refine l_pure rfl (s_asg  rfl ?_)
  refine l_nil ?_
  repeat (with_reducible first | refine c_seq ?_ | refine c_block ?_ | refine c_skip ?_ | refine x_then ?_ | refine x_block ?_)
  refine c_forget (fun ρ' => ρ' 1 = .int .u8 cc ∧ ρ' 2 = .int .u8 ss ∧ ρ' 7 = vo ∧ ρ' 8 = vr ∧ ρ' 9 = .int .i64 0 ∧ True) ⟨hk1_1, hk1_2, hk1_7, rfl, rfl, trivial⟩ ?_
  rintro ρk2 ⟨hk2_1, hk2_2, hk2_7, hk2_8, hk2_9, -⟩
  repeat (with_reducible first | refine c_seq ?_ | refine c_block ?_ | refine c_skip ?_ | refine x_then ?_ | refine x_block ?_)
  refine c_reg ?_
  refine l_pure rfl (s_move  hk2_7 ?_)
  refine l_pure rfl (s_move  hk2_1 ?_)
  refine l_pure rfl (s_conv  rfl Tryz.underlying3 ⟨_, Tryz.underlying5⟩ (IntWalk.i64_in _ (by omega)) ?_)
  refine l_pure rfl (s_move  hk2_2 ?_)
  refine l_pure rfl (s_rem  rfl rfl (by omega) (r := ((ss % 40 : Nat) : Int)) (by exact rem_nat ss 40) ?_)
  refine l_pure rfl (s_conv  rfl Tryz.underlying3 ⟨_, Tryz.underlying5⟩ (r := ((ss % 40 : Nat) : Int)) (by exact wr_i64 _ ⟨rfl, by omega, by omega⟩) ?_)
  rw [← hs]
  refine l_heavy rfl (s_call Tryz.call9 rfl (rSetOff_ok 4 cc s _ l 1 _ (hG.sl hS encOb_len) hB (by rw [hM]; decide) (by omega)) ?_)
  rintro r w3 ⟨⟨vt, rfl, ht⟩, hB3⟩
  replace hS := hS.grow hB3
  replace hr := hr.below hB3
  rw [hC]
  refine l_pure rfl (s_move  rfl ?_)
  refine l_pure rfl (s_ext  rfl rfl ?_)
  refine l_pure rfl (s_ext  rfl rfl ?_)
  refine l_pure rfl (s_asg  rfl ?_)
  refine l_pure rfl (s_asg  rfl ?_)
  refine l_nil ?_
  repeat (with_reducible first | refine c_seq ?_ | refine c_block ?_ | refine c_skip ?_ | refine x_then ?_ | refine x_block ?_)
  refine c_forget (fun ρ' => ρ' 8 = vr ∧ ρ' 9 = .int .i64 0 ∧ ρ' 10 = vt ∧ ρ' 11 = .int .i64 0 ∧ True) ⟨hk2_8, hk2_9, rfl, rfl, trivial⟩ ?_
  rintro ρk3 ⟨hk3_8, hk3_9, hk3_10, hk3_11, -⟩
  repeat (with_reducible first | refine c_seq ?_ | refine c_block ?_ | refine c_skip ?_ | refine x_then ?_ | refine x_block ?_)
  refine c_reg ?_
  refine l_heavy rfl (s_call Tryz.call10 rfl (Oawake_ok _) ?_)
  rintro r w4 ⟨rfl, hB4⟩
  replace hS := hS.grow hB4
  replace hr := hr.below hB4
  replace ht := ht.below hB4
  refine l_pure rfl (s_move  rfl ?_)
  refine l_pure (gd_yes 35 (by kernel_rfl) rfl rfl) (s_move  hk3_8 ?_)
  refine l_pure (gd_yes 35 (by kernel_rfl) rfl rfl) (s_move  hk3_10 ?_)
  refine l_heavy (gd_yes 35 (by kernel_rfl) rfl rfl) (s_call Tryz.call11 rfl (SameRats_ok _ _ _ _ _ hr ht) ?_)
  rintro r w5 ⟨rfl, hB5⟩
  replace hS := hS.grow hB5
  refine l_pure rfl (s_pick (vb rfl rfl) rfl ?_)
  refine l_pure rfl (s_move  rfl ?_)
  refine l_pure (gd_yes 40 (by kernel_rfl) rfl (decide_eq_true rfl)) (s_move  hk3_9 ?_)
  refine l_pure (gd_yes 40 (by kernel_rfl) rfl (decide_eq_true rfl)) (s_move  hk3_11 ?_)
  refine l_pure (gd_yes 40 (by kernel_rfl) rfl (decide_eq_true rfl)) (s_eql  rfl rfl ?_)
  refine l_pure rfl (s_pick (vb rfl (decide_eq_true rfl)) rfl ?_)
  refine l_pure rfl (s_move  rfl ?_)
  refine l_pure (gd_yes 45 (by kernel_rfl) rfl (decide_eq_true rfl)) (s_move  hk3_9 ?_)
  refine l_pure (gd_yes 45 (by kernel_rfl) rfl (decide_eq_true rfl)) (s_eql  rfl rfl ?_)
  refine l_pure rfl (s_pick (vb rfl (decide_eq_true rfl)) rfl ?_)
  refine l_pure rfl (s_asg  rfl ?_)
  refine l_nil ?_
  repeat (with_reducible first | refine c_seq ?_ | refine c_block ?_ | refine c_skip ?_ | refine x_then ?_ | refine x_block ?_)
  refine c_ret ?_
  repeat (with_reducible first | refine x_then_ret ?_ | refine x_block_ret ?_)
  refine r_one rfl rfl ?_
  exact ⟨vb rfl (decide_eq_true rfl), hS.below⟩
end Go.Proofs.YtdafaibhiobpaaaGreatDoor
namespace Go.Proofs.YtdafaibhiobpaaaGreatDoor
open Go Go.RowKit Go.Sx
section
variable {N : Nat} {ρ : Nat → Value} {d : Option Tmp} {ty : TypeId} {pos : String} {aft : Array Edge} {g : Option (Nat × Bool)} {x y : Operand} {t t' : TypeId} {K : Value → Prop}
theorem s_eqRT {r : RR} (hx : ev N ρ x = aggR r) (hy : ev N ρ y = aggR r) (h : K (.bool true)) : Pure1 Tryz.prog N ρ ⟨d, .binOp .eql 36 x y t', ty, pos, aft, g⟩ K :=
  s_eqR hx hy (by rw [decide_eq_true rfl]; exact h)
theorem s_eqlT {k : IntKind} {m : Int} (hx : ev N ρ x = .int k m) (hy : ev N ρ y = .int k m) (h : K (.bool true)) : Pure1 Tryz.prog N ρ ⟨d, .binOp .eql t x y t', ty, pos, aft, g⟩ K :=
  s_eql hx hy (by rw [decide_eq_true rfl]; exact h)
end
theorem SameRats_self (va vb : Value) (A : List RR) (w : World) (ha : Sl encR 3 w va A) (hb : Sl encR 3 w vb A) :
    Ret Tryz.prog 11 #[va, vb] w fun v w' => v = .bool true ∧ Below w.heap.size w w' :=
  (SameRats_ok va vb A A w ha hb).mono fun _ _ ⟨h, hB⟩ => ⟨by rw [h, decide_eq_true rfl], hB⟩
set_option maxHeartbeats 1000000 in
theorem SetoffRaw_ok (n c s a b : Int) (vl : Value) (l : List Ob) (w : World) (hl : Sl encOb 8 w vl l) :
    Ret Tryz.prog 4 #[.int .i64 n, vl, .int .i64 c, .int .i64 s, .int .i64 a, .int .i64 b] w fun v w' => v = .bool true ∧ Below w.heap.size w w' := by
  have hM : MX = 1099511627776 := rfl
  have hmax := hl.maxLen
  have hS := St.init w
  refine enter Tryz.func4 rfl Tryz.ntmps4 rfl ?_
  repeat (with_reducible first | refine c_seq ?_ | refine c_block ?_ | refine c_skip ?_ | refine x_then ?_ | refine x_block ?_)
  refine c_reg ?_
  refine l_pure rfl (s_asg  rfl ?_)
  refine l_nil ?_
  repeat (with_reducible first | refine c_seq ?_ | refine c_block ?_ | refine c_skip ?_ | refine x_then ?_ | refine x_block ?_)
  refine c_reg ?_
  refine l_pure rfl (s_move  rfl ?_)
  refine l_heavy rfl (s_call Tryz.call12 rfl (fewO_ok vl l _ (hl.below hS.below)) ?_)
  rintro _ wc1 ⟨rfl, hBc1⟩
  replace hS := hS.grow hBc1
  refine l_pure rfl (s_not  rfl ?_)
  refine l_nil ?_
  repeat (with_reducible first | refine c_seq ?_ | refine c_block ?_ | refine c_skip ?_ | refine x_then ?_ | refine x_block ?_)
  cases hf : fewO l with
  | false =>
    refine c_yes rfl (rfl) ?_
    repeat (with_reducible first | refine c_seq ?_ | refine c_block ?_ | refine c_skip ?_ | refine x_then ?_ | refine x_block ?_)
    refine c_reg ?_
    refine l_heavy rfl (s_call Tryz.call10 rfl (Oawake_ok _) ?_)
    rintro _ wc2 ⟨rfl, hBc2⟩
    replace hS := hS.grow hBc2
    refine l_pure rfl (s_asg  rfl ?_)
    refine l_nil ?_
    repeat (with_reducible first | refine c_seq ?_ | refine c_block ?_ | refine c_skip ?_ | refine x_then ?_ | refine x_block ?_)
    refine c_ret ?_
    repeat (with_reducible first | refine x_then_ret ?_ | refine x_block_ret ?_)
    refine r_one rfl rfl ?_
    exact ⟨rfl, hS.below⟩
  | true =>
  obtain ⟨hB, h16⟩ := fewO_B hf
  refine c_no rfl (rfl) ?_
  repeat (with_reducible first | refine c_seq ?_ | refine c_block ?_ | refine c_skip ?_ | refine x_then ?_ | refine x_block ?_)
  refine c_forget (fun ρ' => ρ' 0 = .int .i64 n ∧ ρ' 1 = vl ∧ ρ' 2 = .int .i64 c ∧ ρ' 3 = .int .i64 s ∧ ρ' 4 = .int .i64 a ∧ ρ' 5 = .int .i64 b ∧ True) ⟨rfl, rfl, rfl, rfl, rfl, rfl, trivial⟩ ?_
  rintro ρk3 ⟨hk3_0, hk3_1, hk3_2, hk3_3, hk3_4, hk3_5, -⟩
  repeat (with_reducible first | refine c_seq ?_ | refine c_block ?_ | refine c_skip ?_ | refine x_then ?_ | refine x_block ?_)
  refine c_reg ?_
  refine l_pure rfl (s_move  hk3_0 ?_)
  refine l_pure rfl (s_move  hk3_1 ?_)
  refine l_pure rfl (s_move  hk3_2 ?_)
  refine l_pure rfl (s_move  hk3_3 ?_)
  refine l_pure rfl (s_move  hk3_4 ?_)
  refine l_pure rfl (s_move  hk3_5 ?_)
  refine l_heavy rfl (s_call Tryz.call13 rfl (OAmount_ok n c s a b _ l 24 _ (hl.below hS.below) hB (by rw [hM]; decide) (by omega)) ?_)
  rintro r w2 ⟨rfl, hB2⟩
  replace hS := hS.grow hB2
  refine l_pure rfl (s_move  rfl ?_)
  refine l_pure rfl (s_ext  rfl rfl ?_)
  refine l_pure rfl (s_ext  rfl rfl ?_)
  refine l_heavy rfl (s_alloc  vi_36 hS ?_)
  intro b13 wz4 hS hBz4
  refine l_heavy rfl (s_sta (k := 0)  rfl rfl vi_36 hS rfl rfl rfl (Nat.le_of_ble_eq_true rfl) rfl ?_)
  intro wz5 hS
  refine l_pure rfl (s_asg  rfl ?_)
  refine l_nil ?_
  repeat (with_reducible first | refine c_seq ?_ | refine c_block ?_ | refine c_skip ?_ | refine x_then ?_ | refine x_block ?_)
  refine c_forget (fun ρ' => ρ' 0 = .int .i64 n ∧ ρ' 1 = vl ∧ ρ' 2 = .int .i64 c ∧ ρ' 3 = .int .i64 s ∧ ρ' 4 = .int .i64 a ∧ ρ' 5 = .int .i64 b ∧ ρ' 13 = .pointer (some ⟨b13, 0, none⟩) ∧ ρ' 14 = .int .i64 (amtE n l c s a b) ∧ True) ⟨hk3_0, hk3_1, hk3_2, hk3_3, hk3_4, hk3_5, rfl, rfl, trivial⟩ ?_
  rintro ρk6 ⟨hk6_0, hk6_1, hk6_2, hk6_3, hk6_4, hk6_5, hk6_13, hk6_14, -⟩
  repeat (with_reducible first | refine c_seq ?_ | refine c_block ?_ | refine c_skip ?_ | refine x_then ?_ | refine x_block ?_)
  refine c_reg ?_
  refine l_pure rfl (s_move  hk6_0 ?_)
  refine l_pure rfl (s_move  hk6_1 ?_)
  refine l_pure rfl (s_move  hk6_2 ?_)
  refine l_pure rfl (s_move  hk6_3 ?_)
  refine l_pure rfl (s_move  hk6_4 ?_)
  refine l_pure rfl (s_move  hk6_5 ?_)
  refine l_heavy rfl (s_call Tryz.call14 rfl (rOAmount_ok n c s a b _ l 24 _ (hl.below hS.below) hB (by rw [hM]; decide) (by omega)) ?_)
  rintro r w3 ⟨rfl, hB3⟩
  replace hS := hS.grow hB3
  refine l_pure rfl (s_move  rfl ?_)
  refine l_pure rfl (s_ext  rfl rfl ?_)
  refine l_pure rfl (s_ext  rfl rfl ?_)
  refine l_heavy rfl (s_alloc  vi_36 hS ?_)
  intro b15 wz7 hS hBz7
  refine l_heavy rfl (s_sta (k := 0)  rfl rfl vi_36 hS rfl rfl rfl (Nat.le_of_ble_eq_true rfl) rfl ?_)
  intro wz8 hS
  refine l_pure rfl (s_asg  rfl ?_)
  refine l_nil ?_
  repeat (with_reducible first | refine c_seq ?_ | refine c_block ?_ | refine c_skip ?_ | refine x_then ?_ | refine x_block ?_)
  refine c_forget (fun ρ' => ρ' 0 = .int .i64 n ∧ ρ' 1 = vl ∧ ρ' 2 = .int .i64 c ∧ ρ' 3 = .int .i64 s ∧ ρ' 13 = .pointer (some ⟨b13, 0, none⟩) ∧ ρ' 14 = .int .i64 (amtE n l c s a b) ∧ ρ' 15 = .pointer (some ⟨b15, 0, none⟩) ∧ ρ' 16 = .int .i64 (amtE n l c s a b) ∧ True) ⟨hk6_0, hk6_1, hk6_2, hk6_3, hk6_13, hk6_14, rfl, rfl, trivial⟩ ?_
  rintro ρk9 ⟨hk9_0, hk9_1, hk9_2, hk9_3, hk9_13, hk9_14, hk9_15, hk9_16, -⟩
  repeat (with_reducible first | refine c_seq ?_ | refine c_block ?_ | refine c_skip ?_ | refine x_then ?_ | refine x_block ?_)
  refine c_reg ?_
  refine l_pure rfl (s_move  hk9_0 ?_)
  refine l_pure rfl (s_move  hk9_1 ?_)
  refine l_pure rfl (s_move  hk9_2 ?_)
  refine l_pure rfl (s_move  hk9_3 ?_)
  refine l_heavy rfl (s_call Tryz.call8 rfl (OApply_ok n c s _ l 24 _ (hl.below hS.below) hB (by rw [hM]; decide) (by omega)) ?_)
  rintro r w4 ⟨⟨vr, rfl, hr⟩, hB4⟩
  replace hS := hS.grow hB4
  refine l_pure rfl (s_move  rfl ?_)
  refine l_pure rfl (s_ext  rfl rfl ?_)
  refine l_pure rfl (s_ext  rfl rfl ?_)
  refine l_pure rfl (s_asg  rfl ?_)
  refine l_pure rfl (s_asg  rfl ?_)
  refine l_nil ?_
  repeat (with_reducible first | refine c_seq ?_ | refine c_block ?_ | refine c_skip ?_ | refine x_then ?_ | refine x_block ?_)
  refine c_forget (fun ρ' => ρ' 0 = .int .i64 n ∧ ρ' 1 = vl ∧ ρ' 2 = .int .i64 c ∧ ρ' 3 = .int .i64 s ∧ ρ' 13 = .pointer (some ⟨b13, 0, none⟩) ∧ ρ' 14 = .int .i64 (amtE n l c s a b) ∧ ρ' 15 = .pointer (some ⟨b15, 0, none⟩) ∧ ρ' 16 = .int .i64 (amtE n l c s a b) ∧ ρ' 17 = vr ∧ ρ' 18 = .int .i64 (chkE n l c s) ∧ True) ⟨hk9_0, hk9_1, hk9_2, hk9_3, hk9_13, hk9_14, hk9_15, hk9_16, rfl, rfl, trivial⟩ ?_
  rintro ρk10 ⟨hk10_0, hk10_1, hk10_2, hk10_3, hk10_13, hk10_14, hk10_15, hk10_16, hk10_17, hk10_18, -⟩
  repeat (with_reducible first | refine c_seq ?_ | refine c_block ?_ | refine c_skip ?_ | refine x_then ?_ | refine x_block ?_)
  refine c_reg ?_
  refine l_pure rfl (s_move  hk10_0 ?_)
  refine l_pure rfl (s_move  hk10_1 ?_)
  refine l_pure rfl (s_move  hk10_2 ?_)
  refine l_pure rfl (s_move  hk10_3 ?_)
  refine l_heavy rfl (s_call Tryz.call9 rfl (rSetOff_ok n c s _ l 24 _ (hl.below hS.below) hB (by rw [hM]; decide) (by omega)) ?_)
  rintro r w5 ⟨⟨vt, rfl, ht⟩, hB5⟩
  replace hS := hS.grow hB5
  replace hr := hr.below hB5
  refine l_pure rfl (s_move  rfl ?_)
  refine l_pure rfl (s_ext  rfl rfl ?_)
  refine l_pure rfl (s_ext  rfl rfl ?_)
  refine l_pure rfl (s_asg  rfl ?_)
  refine l_pure rfl (s_asg  rfl ?_)
  refine l_nil ?_
  repeat (with_reducible first | refine c_seq ?_ | refine c_block ?_ | refine c_skip ?_ | refine x_then ?_ | refine x_block ?_)
  refine c_forget (fun ρ' => ρ' 13 = .pointer (some ⟨b13, 0, none⟩) ∧ ρ' 14 = .int .i64 (amtE n l c s a b) ∧ ρ' 15 = .pointer (some ⟨b15, 0, none⟩) ∧ ρ' 16 = .int .i64 (amtE n l c s a b) ∧ ρ' 17 = vr ∧ ρ' 18 = .int .i64 (chkE n l c s) ∧ ρ' 19 = vt ∧ ρ' 20 = .int .i64 (chkE n l c s) ∧ True) ⟨hk10_13, hk10_14, hk10_15, hk10_16, hk10_17, hk10_18, rfl, rfl, trivial⟩ ?_
  rintro ρk11 ⟨hk11_13, hk11_14, hk11_15, hk11_16, hk11_17, hk11_18, hk11_19, hk11_20, -⟩
  replace hS : St w _ [(b15, 36, encR (amtR2 n l c s a b)), (b13, 36, encR (amtR2 n l c s a b))] := hS
  repeat (with_reducible first | refine c_seq ?_ | refine c_block ?_ | refine c_skip ?_ | refine x_then ?_ | refine x_block ?_)
  refine c_reg ?_
  refine l_heavy rfl (s_call Tryz.call10 rfl (Oawake_ok _) ?_)
  rintro r w6 ⟨rfl, hB6⟩
  replace hS := hS.grow hB6
  replace hr := hr.below hB6
  replace ht := ht.below hB6
  refine l_pure rfl (s_move  rfl ?_)
  refine l_read (gd_yes 62 (by kernel_rfl) rfl rfl) (s_ldo (k := 1)  hk11_13 vi_36 hS rfl rfl rfl (.inl rfl) ?_)
  refine l_read (gd_yes 62 (by kernel_rfl) rfl rfl) (s_ldo (k := 0)  hk11_15 vi_36 hS rfl rfl rfl (.inl rfl) ?_)
  refine l_pure (gd_yes 62 (by kernel_rfl) rfl rfl) (s_eqRT  rfl rfl ?_)
  refine l_pure rfl (s_pick (vb rfl rfl) rfl ?_)
  refine l_pure rfl (s_move  rfl ?_)
  refine l_pure (gd_yes 67 (by kernel_rfl) rfl rfl) (s_move  hk11_14 ?_)
  refine l_pure (gd_yes 67 (by kernel_rfl) rfl rfl) (s_move  hk11_16 ?_)
  refine l_pure (gd_yes 67 (by kernel_rfl) rfl rfl) (s_eqlT  rfl rfl ?_)
  refine l_pure rfl (s_pick (vb rfl rfl) rfl ?_)
  refine l_pure rfl (s_move  rfl ?_)
  refine l_pure (gd_yes 72 (by kernel_rfl) rfl rfl) (s_move  hk11_17 ?_)
  refine l_pure (gd_yes 72 (by kernel_rfl) rfl rfl) (s_move  hk11_19 ?_)
  refine l_heavy (gd_yes 72 (by kernel_rfl) rfl rfl) (s_call Tryz.call11 rfl (SameRats_self _ _ _ _ hr ht) ?_)
  rintro r w7 ⟨rfl, hB7⟩
  replace hS := hS.grow hB7
  refine l_pure rfl (s_pick rfl rfl ?_)
  refine l_pure rfl (s_move  rfl ?_)
  refine l_pure (gd_yes 77 (by kernel_rfl) rfl rfl) (s_move  hk11_18 ?_)
  refine l_pure (gd_yes 77 (by kernel_rfl) rfl rfl) (s_move  hk11_20 ?_)
  refine l_pure (gd_yes 77 (by kernel_rfl) rfl rfl) (s_eql  rfl rfl ?_)
  refine l_pure rfl (s_pick (vb rfl rfl) rfl ?_)
  refine l_pure rfl (s_asg  rfl ?_)
  refine l_nil ?_
  repeat (with_reducible first | refine c_seq ?_ | refine c_block ?_ | refine c_skip ?_ | refine x_then ?_ | refine x_block ?_)
  refine c_ret ?_
  repeat (with_reducible first | refine x_then_ret ?_ | refine x_block_ret ?_)
  refine r_one rfl rfl ?_
  exact ⟨vb rfl (decide_eq_true rfl), hS.below⟩
end Go.Proofs.YtdafaibhiobpaaaGreatDoor
