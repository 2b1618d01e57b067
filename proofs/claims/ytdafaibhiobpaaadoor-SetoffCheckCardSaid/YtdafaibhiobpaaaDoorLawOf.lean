/-
  Plain facts on drawn obligations; the laws that a shorter suspect period makes nothing ineligible and of the numbers accepted: their walks.
-/
import Derived.Test.YtdafaibhiobpaaaDoorLawRo
namespace Go.Proofs.YtdafaibhiobpaaaDoor
open Go Go.RowKit Go.Sx

theorem creOf_b (a b : Nat) (hb : b < 3) : creOf a b < 4 ∧ creOf a b ≠ a := by unfold creOf; split <;> omega
theorem obOf_fine (x : Nat → Nat) : pairB 4 (obOf x).deb (obOf x).cre = true ∧ 0 ≤ toQ (obOf x).amt ∧ isDay (obOf x).inc = true ∧ isDay (obOf x).acq = true ∧ (obOf x).inc ≤ (obOf x).acq := by
  have h0 : x 0 % 4 < 4 := Nat.mod_lt _ (by decide)
  have h1 : x 1 % 3 < 3 := Nat.mod_lt _ (by decide)
  have h3 : x 3 % 60 < 60 := Nat.mod_lt _ (by decide)
  have h5 : x 4 / 8 % 50 < 50 := Nat.mod_lt _ (by decide)
  obtain ⟨hc1, hc2⟩ := creOf_b (x 0 % 4) _ h1
  have ha : acqD (x 4) < 50 := by unfold acqD; split <;> omega
  refine ⟨?_, Rat.not_lt.1 toQ_amR, ?_, ?_, ?_⟩
  · show pairB 4 ((x 0 % 4 : Nat) : Int) ((creOf (x 0 % 4) (x 1 % 3) : Nat) : Int) = true
    exact decide_eq_true (by omega)
  · show isDay ((x 3 % 60 : Nat) : Int) = true
    exact decide_eq_true (by omega)
  · show isDay (((x 3 % 60 : Nat) : Int) + ((acqD (x 4) : Nat) : Int)) = true
    exact decide_eq_true (by omega)
  · show ((x 3 % 60 : Nat) : Int) ≤ ((x 3 % 60 : Nat) : Int) + ((acqD (x 4) : Nat) : Int)
    omega
theorem obsL_fine (l : List (Nat → Nat)) (n : Nat) : ∀ o ∈ obsL l n, pairB 4 o.deb o.cre = true ∧ 0 ≤ toQ o.amt ∧ isDay o.inc = true ∧ isDay o.acq = true ∧ o.inc ≤ o.acq := by
  intro o ho
  obtain ⟨x, _, rfl⟩ := List.mem_map.1 ho
  exact obOf_fine x
theorem obsL_E (l : List (Nat → Nat)) : obsE 4 (obsL l 16) = 0 := obs_of (by omega) (by rw [obsL_len]; omega) (obsL_fine l 16)
theorem obsL_B (l : List (Nat → Nat)) (n : Nat) : ObB 1 (obsL l n) := by
  intro o ho
  obtain ⟨x, _, rfl⟩ := List.mem_map.1 ho
  show Lr (amR (x 2)) ≤ 1
  unfold amR
  rw [Lr_ofQ]; exact L_amtQ _
theorem day_u8 {n : Nat} (h : n < 256) : isDay (n : Int) = true := decide_eq_true (by omega)
theorem obsL_chk (l : List (Nat → Nat)) {c s : Nat} (hc : c < 256) (hs : s < 256) : chkE 4 (obsL l 16) c s = 0 := chk_of (obsL_E l) (day_u8 hc) (day_u8 hs)
theorem elig_mono {o : Ob} {c s k : Int} (hk : 0 ≤ k) (hks : k ≤ s) (h : eligB o c s = true) : eligB o c (s - k) = true := by
  unfold eligB at h ⊢
  simp only [Bool.and_eq_true, Bool.or_eq_true, decide_eq_true_eq, Bool.not_eq_true'] at h ⊢
  obtain ⟨⟨⟨⟨h1, h2⟩, h3⟩, h4⟩, h5⟩ := h
  have := isDay_b h2
  exact ⟨⟨⟨⟨h1, decide_eq_true (by omega)⟩, h3⟩, h4⟩, h5.imp id fun g => by omega⟩
set_option maxHeartbeats 1000000 in
theorem SetoffWindow_ok (x : Nat → Nat) (c s k : Nat) (w : World) (hx : ∀ i, i < 5 → x i < 65536) (hc : c < 256) (hs : s < 256) (hk : k < 256) :
    Ret Tryd.prog 8 #[.agg (enc5 x).toArray, .int .u8 c, .int .u8 s, .int .u8 k] w fun v w' => v = .bool true ∧ Below w.heap.size w w' := by
  have hS := St.init w
  have hkm : k % (s + 1) ≤ s := by have := Nat.mod_lt k (show 0 < s + 1 by omega); omega
  refine enter Tryd.func8 rfl Tryd.ntmps8 rfl ?_
  repeat (with_reducible first | refine c_seq ?_ | refine c_block ?_ | refine c_skip ?_ | refine x_then ?_ | refine x_block ?_)
  refine c_reg ?_
  refine l_heavy rfl (s_box  rfl rfl hS ?_)
  intro b4 wz1 hS hBz1
  refine l_pure rfl (s_asg  rfl ?_)
  refine l_nil ?_
  repeat (with_reducible first | refine c_seq ?_ | refine c_block ?_ | refine c_skip ?_ | refine x_then ?_ | refine x_block ?_)
  replace hS : St w _ [(b4, 46, enc5 x)] := hS
  repeat (with_reducible first | refine c_seq ?_ | refine c_block ?_ | refine c_skip ?_ | refine x_then ?_ | refine x_block ?_)
  refine c_reg ?_
  refine l_read rfl (s_ldo (k := 0)  rfl vi_46 hS rfl rfl rfl (.inl rfl) ?_)
  refine l_heavy rfl (s_bsl (vs := [.agg (enc5 x).toArray])  rfl si_35 rfl (by decide) (by decide) (by decide) (fun v hv => by rw [List.mem_singleton] at hv; rw [hv]; rfl) rfl hS ?_)
  intro b13 wz2 hS hBz2
  replace hS : St w _ [(b13, 46, [x].flatMap enc5), (b4, 46, enc5 x)] := hS
  have hX : Sl enc5 5 _ (.slice (some ⟨b13, 0, none⟩) 1 1) [x] := hS.sle (k := 0) (L := [x]) (n := 1) (cap := 1) rfl enc5_len (Nat.le_refl _) (Nat.le_refl _) (by decide)
  have hW := hS.below
  refine l_heavy rfl (s_call Tryd.call17 rfl (Obligations_ok _ [x] _ hX (fun y hy => by rw [List.mem_singleton] at hy; rw [hy]; exact hx)) ?_)
  rintro vl w2 ⟨LO, hG, hSO⟩
  rw [show obsL [x] 16 = [obOf x] from rfl] at hG
  clear hS hX
  have hS := hSO
  refine l_pure rfl (s_ixr (i := 0)  rfl rfl (hG.sl hS encOb_len) (by omega) (by first | omega | (simp; done) | (simp; omega)) si_22 ?_)
  refine l_read rfl (s_lde (i := 0) zOb  rfl vi_28 (hG.sl hS encOb_len) (by first | omega | (simp; done) | (simp; omega)) rfl rfl (.inl rfl) ?_)
  refine l_heavy rfl (s_alloc  vi_28 hS ?_)
  intro b9 wz3 hS hBz3
  refine l_heavy rfl (s_sta (k := 0)  rfl rfl vi_28 hS rfl rfl rfl (Nat.le_of_ble_eq_true rfl) rfl ?_)
  intro wz4 hS
  refine l_nil ?_
  repeat (with_reducible first | refine c_seq ?_ | refine c_block ?_ | refine c_skip ?_ | refine x_then ?_ | refine x_block ?_)
  obtain ⟨o, ho⟩ : ∃ o, o = obOf x := ⟨_, rfl⟩
  replace hS : St _ _ ([(b9, 28, encOb (obOf x))] ++ LO) := hS
  rw [← ho] at hS
  repeat (with_reducible first | refine c_seq ?_ | refine c_block ?_ | refine c_skip ?_ | refine x_then ?_ | refine x_block ?_)
  refine c_forget (fun ρ' => ρ' 1 = .int .u8 c ∧ ρ' 2 = .int .u8 s ∧ ρ' 3 = .int .u8 k ∧ ρ' 9 = .pointer (some ⟨b9, 0, none⟩) ∧ True) ⟨rfl, rfl, rfl, rfl, trivial⟩ ?_
  rintro ρk5 ⟨hk5_1, hk5_2, hk5_3, hk5_9, -⟩
  repeat (with_reducible first | refine c_seq ?_ | refine c_block ?_ | refine c_skip ?_ | refine x_then ?_ | refine x_block ?_)
  refine c_reg ?_
  refine l_read rfl (s_ldo (k := 0)  hk5_9 vi_28 hS rfl rfl rfl (.inl rfl) ?_)
  refine l_pure rfl (s_move  hk5_1 ?_)
  refine l_pure rfl (s_conv  rfl Tryd.underlying3 ⟨_, Tryd.underlying5⟩ (IntWalk.i64_in _ (by omega)) ?_)
  refine l_pure rfl (s_move  hk5_2 ?_)
  refine l_pure rfl (s_conv  rfl Tryd.underlying3 ⟨_, Tryd.underlying5⟩ (IntWalk.i64_in _ (by omega)) ?_)
  refine l_heavy rfl (s_call Tryd.call13 rfl (Eligible_ok o c s _) ?_)
  rintro _ wc6 ⟨rfl, hBc6⟩
  replace hS := hS.grow hBc6
  refine l_pure rfl (s_asg  rfl ?_)
  refine l_nil ?_
  repeat (with_reducible first | refine c_seq ?_ | refine c_block ?_ | refine c_skip ?_ | refine x_then ?_ | refine x_block ?_)
  refine c_forget (fun ρ' => ρ' 1 = .int .u8 c ∧ ρ' 2 = .int .u8 s ∧ ρ' 3 = .int .u8 k ∧ ρ' 9 = .pointer (some ⟨b9, 0, none⟩) ∧ ρ' 10 = .bool (eligB o c s) ∧ True) ⟨hk5_1, hk5_2, hk5_3, hk5_9, rfl, trivial⟩ ?_
  rintro ρk7 ⟨hk7_1, hk7_2, hk7_3, hk7_9, hk7_10, -⟩
  repeat (with_reducible first | refine c_seq ?_ | refine c_block ?_ | refine c_skip ?_ | refine x_then ?_ | refine x_block ?_)
  refine c_draw [(0, .read), (1, .pure), (2, .pure), (3, .pure), (4, .pure), (5, .pure), (6, .pure), (7, .pure), (8, .pure), (9, .pure), (10, .pure), (11, .pure), (12, .grow), (13, .pure)] (by kernel_rfl) (by kernel_rfl) hS ?_
  intro wz8 hS hBz8
  refine w_read rfl rfl (s_ldo (k := 0)  hk7_9 vi_28 hS rfl rfl rfl (.inl rfl) ?_)
  refine w_pure rfl rfl (s_move  hk7_1 ?_)
  refine w_pure rfl rfl (s_conv  rfl Tryd.underlying3 ⟨_, Tryd.underlying5⟩ (IntWalk.i64_in _ (by omega)) ?_)
  refine w_pure rfl rfl (s_move  hk7_2 ?_)
  refine w_pure rfl rfl (s_conv  rfl Tryd.underlying3 ⟨_, Tryd.underlying5⟩ (IntWalk.i64_in _ (by omega)) ?_)
  refine w_pure rfl rfl (s_move  hk7_3 ?_)
  refine w_pure rfl rfl (s_conv  rfl Tryd.underlying3 ⟨_, Tryd.underlying5⟩ (IntWalk.i64_in _ (by omega)) ?_)
  refine w_pure rfl rfl (s_move  hk7_2 ?_)
  refine w_pure rfl rfl (s_conv  rfl Tryd.underlying3 ⟨_, Tryd.underlying5⟩ (IntWalk.i64_in _ (by omega)) ?_)
  refine w_pure rfl rfl (s_add  rfl rfl (r := ((s + 1 : Nat) : Int)) (by exact wr_i64 _ ⟨by omega, by omega, by omega⟩) ?_)
  refine w_pure rfl rfl (s_rem  rfl rfl (by omega) (rem_nat k (s + 1)) ?_)
  refine w_pure rfl rfl (s_sub  rfl rfl (IntWalk.i64_in _ (by omega)) ?_)
  refine w_grow rfl rfl (s_call Tryd.call13 rfl (Eligible_ok o c ((s : Int) - ((k % (s + 1) : Nat) : Int)) _) ?_)
  rintro r w4 ⟨rfl, hB4⟩
  refine ⟨hB4, ?_⟩
  replace hS := hS.grow hB4
  refine w_pure rfl rfl (s_asg  rfl ?_)
  refine w_end ?_
  repeat (with_reducible first | refine c_seq ?_ | refine c_block ?_ | refine c_skip ?_ | refine x_then ?_ | refine x_block ?_)
  have hmono : eligB o c s = true → eligB o c ((s : Int) - ((k % (s + 1) : Nat) : Int)) = true := elig_mono (by omega) (by omega)
  repeat (with_reducible first | refine c_seq ?_ | refine c_block ?_ | refine c_skip ?_ | refine x_then ?_ | refine x_block ?_)
  refine c_forget (fun ρ' => ρ' 10 = .bool (eligB o c s) ∧ ρ' 11 = .bool (eligB o c ((s : Int) - ((k % (s + 1) : Nat) : Int))) ∧ True) ⟨hk7_10, rfl, trivial⟩ ?_
  rintro ρk9 ⟨hk9_10, hk9_11, -⟩
  cases he : eligB o c s with
  | true =>
    have hn := hmono he
    have hf : (!eligB o c s) = false := by rw [he]; rfl
    repeat (with_reducible first | refine c_seq ?_ | refine c_block ?_ | refine c_skip ?_ | refine x_then ?_ | refine x_block ?_)
    refine c_reg ?_
    refine l_heavy rfl (s_call Tryd.call12 rfl (Oawake_ok _) ?_)
    rintro _ wc10 ⟨rfl, hBc10⟩
    replace hS := hS.grow hBc10
    refine l_pure rfl (s_move  rfl ?_)
    refine l_pure (gd_yes 37 (by kernel_rfl) rfl rfl) (s_move  hk9_10 ?_)
    refine l_pure (gd_yes 37 (by kernel_rfl) rfl rfl) (s_not  rfl ?_)
    refine l_pure (gd_yes 37 (by kernel_rfl) rfl rfl) (s_move  rfl ?_)
    refine l_pure (gd_yes 40 (by kernel_rfl) rfl hf) (s_move  hk9_11 ?_)
    refine l_pure (gd_yes 37 (by kernel_rfl) rfl rfl) (s_pick (vb rfl hf) rfl ?_)
    refine l_pure rfl (s_pick (vb rfl rfl) rfl ?_)
    refine l_pure rfl (s_asg  rfl ?_)
    refine l_nil ?_
    repeat (with_reducible first | refine c_seq ?_ | refine c_block ?_ | refine c_skip ?_ | refine x_then ?_ | refine x_block ?_)
    refine c_ret ?_
    repeat (with_reducible first | refine x_then_ret ?_ | refine x_block_ret ?_)
    refine r_one rfl rfl ?_
    exact ⟨vb rfl hn, bt hW hS.below⟩
  | false =>
    have hf : (!eligB o c s) = true := by rw [he]; rfl
    repeat (with_reducible first | refine c_seq ?_ | refine c_block ?_ | refine c_skip ?_ | refine x_then ?_ | refine x_block ?_)
    refine c_reg ?_
    refine l_heavy rfl (s_call Tryd.call12 rfl (Oawake_ok _) ?_)
    rintro _ wc11 ⟨rfl, hBc11⟩
    replace hS := hS.grow hBc11
    refine l_pure rfl (s_move  rfl ?_)
    refine l_pure (gd_yes 37 (by kernel_rfl) rfl rfl) (s_move  hk9_10 ?_)
    refine l_pure (gd_yes 37 (by kernel_rfl) rfl rfl) (s_not  rfl ?_)
    refine l_pure (gd_yes 37 (by kernel_rfl) rfl rfl) (s_move  rfl ?_)
    refine l_no (gno_yes 40 (by kernel_rfl) rfl hf) ?_
    refine l_pure (gd_yes 37 (by kernel_rfl) rfl rfl) (s_pick (vb rfl hf) rfl ?_)
    refine l_pure rfl (s_pick (vb rfl rfl) rfl ?_)
    refine l_pure rfl (s_asg  rfl ?_)
    refine l_nil ?_
    repeat (with_reducible first | refine c_seq ?_ | refine c_block ?_ | refine c_skip ?_ | refine x_then ?_ | refine x_block ?_)
    refine c_ret ?_
    repeat (with_reducible first | refine x_then_ret ?_ | refine x_block_ret ?_)
    refine r_one rfl rfl ?_
    exact ⟨rfl, bt hW hS.below⟩
end Go.Proofs.YtdafaibhiobpaaaDoor
