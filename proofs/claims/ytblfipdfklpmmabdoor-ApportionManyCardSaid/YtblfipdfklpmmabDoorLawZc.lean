/-
  Walk: apportioning many whole numbers by the largest remainder (program).
-/
import Derived.Test.YtblfipdfklpmmabDoorLawZb
namespace Go.Proofs.YtblfipdfklpmmabDoor
open Go Go.RowKit Go.Sx

set_option maxHeartbeats 4000000 in
theorem Largest_big (v : Value) (l : List RR) (K : Nat) (w : World) (hv : Sl encR 3 w v l) (hl : RB K l) (h20 : l.length ≤ 1024) (hfr : ∀ i, i < l.length → frQ (qA l) i = 0) (hK : 10000 * K + 10000 ≤ MX) :
    Ret Tryd.prog 5 #[v] w fun r w' => (∃ v', r = .tuple #[v', .int .i64 (lgE l)] ∧ Sl enI 1 w' v' (lgL l)) ∧ Below w.heap.size w w' := by
  have hM : MX = 1099511627776 := rfl
  have hno : lgE l ≠ 0 → lgL l = [] := fun h => if_neg h
  have hsl := sumL_le hl
  have hsl2 : l.length * (K + 1) ≤ 1024 * (K + 1) := Nat.mul_le_mul_right _ h20
  have hLs := L_sumQ l
  have hsum := fun w h => QSum_ok v l w h (by omega)
  have hS := St.init w
  refine enter Tryd.func5 rfl Tryd.ntmps5 rfl ?_
  repeat (with_reducible first | refine c_seq ?_ | refine c_block ?_ | refine c_skip ?_ | refine x_then ?_ | refine x_block ?_)
  refine c_reg ?_
  refine l_pure rfl (s_asg  rfl ?_)
  refine l_pure rfl (s_asg  rfl ?_)
  refine l_nil ?_
  repeat (with_reducible first | refine c_seq ?_ | refine c_block ?_ | refine c_skip ?_ | refine x_then ?_ | refine x_block ?_)
  refine c_reg ?_
  refine l_pure rfl (s_move  rfl ?_)
  refine l_pure rfl (s_lenr  rfl (hv.below hS.below) ⟨_, Tryd.underlying23⟩ ?_)
  refine l_pure rfl (s_gtr  rfl rfl ?_)
  refine l_nil ?_
  repeat (with_reducible first | refine c_seq ?_ | refine c_block ?_ | refine c_skip ?_ | refine x_then ?_ | refine x_block ?_)
  refine c_no rfl (decide_eq_false (by omega)) ?_
  repeat (with_reducible first | refine c_seq ?_ | refine c_block ?_ | refine c_skip ?_ | refine x_then ?_ | refine x_block ?_)
  refine c_reg ?_
  refine l_pure rfl (s_move  rfl ?_)
  refine l_heavy rfl (s_call Tryd.call10 rfl (hasNegative_ok v l _ (hv.below hS.below) (RB_mono hl (by omega))) ?_)
  rintro _ wc1 ⟨rfl, hBc1⟩
  replace hS := hS.grow hBc1
  refine l_nil ?_
  repeat (with_reducible first | refine c_seq ?_ | refine c_block ?_ | refine c_skip ?_ | refine x_then ?_ | refine x_block ?_)
  cases hn : negs l with
  | true =>
    have he : lgE l = 7 := by unfold lgE; rw [if_neg (by omega), hn, if_pos rfl]
    refine c_yes rfl (rfl) ?_
    repeat (with_reducible first | refine c_seq ?_ | refine c_block ?_ | refine c_skip ?_ | refine x_then ?_ | refine x_block ?_)
    refine c_reg ?_
    refine l_pure rfl (s_asg  rfl ?_)
    refine l_pure rfl (s_asg  rfl ?_)
    refine l_nil ?_
    repeat (with_reducible first | refine c_seq ?_ | refine c_block ?_ | refine c_skip ?_ | refine x_then ?_ | refine x_block ?_)
    refine c_ret ?_
    repeat (with_reducible first | refine x_then_ret ?_ | refine x_block_ret ?_)
    refine r_two rfl rfl rfl ?_
    refine ⟨⟨_, by rw [he]; rfl, ?_⟩, hS.below⟩
    rw [hno (by rw [he]; decide)]; exact Sl.nil _ _ _
  | false =>
  have he : lgE l = if (i64V (sumQ (l.map toQ))).2 = false then 6 else 0 := by unfold lgE; rw [if_neg (by omega), hn, if_neg (by decide)]
  have hi64 := fun w => QInt64_ok (ofQ (sumQ (l.map toQ))) w (by rw [Lr_ofQ]; omega) (by rw [toQ_ofQ]; exact sumQ_nn hn)
  rw [toQ_ofQ] at hi64
  refine c_no rfl (rfl) ?_
  repeat (with_reducible first | refine c_seq ?_ | refine c_block ?_ | refine c_skip ?_ | refine x_then ?_ | refine x_block ?_)
  refine c_reg ?_
  refine l_pure rfl (s_move  rfl ?_)
  refine l_heavy rfl (s_call Tryd.call12 rfl (hsum _ (hv.below hS.below)) ?_)
  rintro _ wc2 ⟨rfl, hBc2⟩
  replace hS := hS.grow hBc2
  refine l_heavy rfl (s_call Tryd.call11 rfl (hi64 _) ?_)
  rintro _ wc3 ⟨rfl, hBc3⟩
  replace hS := hS.grow hBc3
  refine l_pure rfl (s_move  rfl ?_)
  refine l_pure rfl (s_ext  rfl rfl ?_)
  refine l_pure rfl (s_ext  rfl rfl ?_)
  refine l_pure rfl (s_asg  rfl ?_)
  refine l_pure rfl (s_asg  rfl ?_)
  refine l_nil ?_
  repeat (with_reducible first | refine c_seq ?_ | refine c_block ?_ | refine c_skip ?_ | refine x_then ?_ | refine x_block ?_)
  refine c_reg ?_
  refine l_pure rfl (s_move  rfl ?_)
  refine l_pure rfl (s_not  rfl ?_)
  refine l_nil ?_
  repeat (with_reducible first | refine c_seq ?_ | refine c_block ?_ | refine c_skip ?_ | refine x_then ?_ | refine x_block ?_)
  cases hz0 : (i64V (sumQ (l.map toQ))).2 with
  | false =>
    have he6 : lgE l = 6 := by rw [he, hz0]; rfl
    refine c_yes rfl (rfl) ?_
    repeat (with_reducible first | refine c_seq ?_ | refine c_block ?_ | refine c_skip ?_ | refine x_then ?_ | refine x_block ?_)
    refine c_reg ?_
    refine l_pure rfl (s_asg  rfl ?_)
    refine l_pure rfl (s_asg  rfl ?_)
    refine l_nil ?_
    repeat (with_reducible first | refine c_seq ?_ | refine c_block ?_ | refine c_skip ?_ | refine x_then ?_ | refine x_block ?_)
    refine c_ret ?_
    repeat (with_reducible first | refine x_then_ret ?_ | refine x_block_ret ?_)
    refine r_two rfl rfl rfl ?_
    refine ⟨⟨_, by rw [he6]; rfl, ?_⟩, hS.below⟩
    rw [hno (by rw [he6]; decide)]; exact Sl.nil _ _ _
  | true =>
  have hz : lgE l = 0 := by rw [he, hz0]; rfl
  obtain ⟨_, _, T, hT, hT0, hTm⟩ := lgE_zero hz
  have hlL : lgL l = tab l.length (resA l) := if_pos hz
  rw [hlL, hz]
  obtain ⟨n, hn'⟩ : ∃ n, n = l.length := ⟨_, rfl⟩
  obtain ⟨q, hq⟩ : ∃ q, q = qA l := ⟨_, rfl⟩
  obtain ⟨J, hJ⟩ : ∃ J, J = ordG l := ⟨_, rfl⟩
  have hord := ordG_ord l
  have hbb := fun i hi => baA_bound hn hT (i := i) hi
  have hsT : sumR (qA l) l.length = (T : Rat) := by rw [← qA_sum, hT]
  obtain ⟨hlf1, hlf2, _⟩ := lf_int hsT
  have hrl := fun i hi => res_le hord hsT (fun j _ => negs_get hn j) (i := i) hi
  have hres : resA l = resQ q J n := by rw [hq, hJ, hn']; rfl
  have hJd : ordA (frQ q) n = J := by rw [hJ, hq, hn']; rfl
  have hfq : ∀ i, (toQ (l.getD i zRR)).floor = baQ q i := fun i => by rw [hq]; rfl
  have hrq : ∀ i, toQ (l.getD i zRR) - ((baQ q i : Int) : Rat) = frQ q i := fun i => by rw [hq]; rfl
  have hLq : ∀ i, i < n → Lr (l.getD i zRR) ≤ K := fun i hi => hl _ (getD_mem l i zRR (by omega))
  have hLb : ∀ i, i < n → L ((baQ q i : Int) : Rat) ≤ K + 1 := fun i hi => by
    rw [← hfq]
    have := L_floor (toQ (l.getD i zRR))
    have := L_toQ (l.getD i zRR)
    have := hLq i hi
    omega
  have hLf : ∀ i, i < n → L (frQ q i) ≤ 2 * K + 2 := fun i hi => by
    rw [← hrq]
    have := L_sub (toQ (l.getD i zRR)) ((baQ q i : Int) : Rat)
    have := L_toQ (l.getD i zRR)
    have := hLq i hi
    have := hLb i hi
    omega
  rw [hres] at ⊢
  rw [← hq] at hbb hlf1 hlf2 hord hsT hrl
  rw [← hJ] at hord hrl
  rw [← hn'] at hbb hlf1 hlf2 hord hrl h20 ⊢
  refine c_no rfl (rfl) ?_
  repeat (with_reducible first | refine c_seq ?_ | refine c_block ?_ | refine c_skip ?_ | refine x_then ?_ | refine x_block ?_)
  refine c_reg ?_
  refine l_pure rfl (s_move  rfl ?_)
  refine l_pure rfl (s_lenr  rfl (hv.below hS.below) ⟨_, Tryd.underlying23⟩ ?_)
  refine l_heavy rfl (s_makeE (enc := enI) (n := n) 0  rfl rfl si_27 rfl (by omega) (by omega) (by omega) (by omega) hS ?_)
  intro b6 wz4 hS hBz4
  refine l_pure rfl (s_asg  rfl ?_)
  refine l_nil ?_
  repeat (with_reducible first | refine c_seq ?_ | refine c_block ?_ | refine c_skip ?_ | refine x_then ?_ | refine x_block ?_)
  refine c_reg ?_
  refine l_pure rfl (s_move  rfl ?_)
  refine l_pure rfl (s_lenr  rfl (hv.below hS.below) ⟨_, Tryd.underlying23⟩ ?_)
  refine l_heavy rfl (s_makeE (enc := encR) (n := n) zRR  rfl rfl si_23 rfl (by omega) (by omega) (by omega) (by omega) hS ?_)
  intro bF wz5 hS hBz5
  refine l_heavy rfl (s_alloc  vi_23 hS ?_)
  intro b7 wz6 hS hBz6
  refine l_heavy rfl (s_stc (k := 0)  rfl rfl vi_23 hS rfl (Nat.le_of_ble_eq_true rfl) rfl ?_)
  intro wz7 hS
  refine l_nil ?_
  repeat (with_reducible first | refine c_seq ?_ | refine c_block ?_ | refine c_skip ?_ | refine x_then ?_ | refine x_block ?_)
  refine c_reg ?_
  refine l_pure rfl (s_move  rfl ?_)
  refine l_pure rfl (s_lenr  rfl (hv.below hS.below) ⟨_, Tryd.underlying23⟩ ?_)
  refine l_heavy rfl (s_makeE (enc := enI) (n := n) 0  rfl rfl si_40 rfl (by omega) (by omega) (by omega) (by omega) hS ?_)
  intro b8 wz8 hS hBz8
  refine l_pure rfl (s_asg  rfl ?_)
  refine l_nil ?_
  repeat (with_reducible first | refine c_seq ?_ | refine c_block ?_ | refine c_skip ?_ | refine x_then ?_ | refine x_block ?_)
  replace hS : St w _ [(b8, 3, (List.replicate n (0 : Int)).flatMap enI), (b7, 23, [.slice (some ⟨bF, 0, none⟩) n n]), (bF, 25, (List.replicate n zRR).flatMap encR), (b6, 2, (List.replicate n (0 : Int)).flatMap enI)] := hS
  repeat (with_reducible first | refine c_seq ?_ | refine c_block ?_ | refine c_skip ?_ | refine x_then ?_ | refine x_block ?_)
  refine c_forget (fun ρ' => ρ' 0 = v ∧ ρ' 6 = .slice (some ⟨b6, 0, none⟩) n n ∧ ρ' 7 = .pointer (some ⟨b7, 0, none⟩) ∧ ρ' 8 = .slice (some ⟨b8, 0, none⟩) n n ∧ True) ⟨rfl, rfl, rfl, rfl, trivial⟩ ?_
  rintro ρk9 ⟨hk9_0, hk9_6, hk9_7, hk9_8, -⟩
  repeat (with_reducible first | refine c_seq ?_ | refine c_block ?_ | refine c_skip ?_ | refine x_then ?_ | refine x_block ?_)
  refine c_reg ?_
  refine l_pure rfl (s_move  hk9_0 ?_)
  refine l_pure rfl (s_lenr  rfl (hv.below hS.below) ⟨_, Tryd.underlying23⟩ ?_)
  refine l_pure rfl (s_move  rfl ?_)
  refine l_nil ?_
  repeat (with_reducible first | refine c_seq ?_ | refine c_skip ?_ | refine x_then ?_ | refine x_block ?_)
  refine c_cut1 (fun ρ w' => ρ 6 = .slice (some ⟨b6, 0, none⟩) n n ∧ ρ 7 = .pointer (some ⟨b7, 0, none⟩) ∧ ρ 8 = .slice (some ⟨b8, 0, none⟩) n n ∧ St w w' [(b8, 3, (fill n n (fun j : Nat => (j : Int)) 0).flatMap enI), (b7, 23, [.slice (some ⟨bF, 0, none⟩) n n]), (bF, 25, (fill n n (fun j => ofQ (frQ q j)) zRR).flatMap encR), (b6, 2, (fill n n (baQ q) 0).flatMap enI)]) ?_ ?_
  · repeat (with_reducible first | refine c_seq ?_ | refine c_block ?_ | refine c_skip ?_ | refine x_then ?_ | refine x_block ?_)
    refine c_loop (σ := Nat) (fun i ρ w' => i ≤ n ∧ ρ 6 = .slice (some ⟨b6, 0, none⟩) n n ∧ ρ 7 = .pointer (some ⟨b7, 0, none⟩) ∧ ρ 8 = .slice (some ⟨b8, 0, none⟩) n n ∧ ρ 38 = v ∧ ρ 39 = .int .i64 n ∧ ρ 40 = .int .i64 i ∧ St w w' [(b8, 3, (fill n i (fun j : Nat => (j : Int)) 0).flatMap enI), (b7, 23, [.slice (some ⟨bF, 0, none⟩) n n]), (bF, 25, (fill n i (fun j => ofQ (frQ q j)) zRR).flatMap encR), (b6, 2, (fill n i (baQ q) 0).flatMap enI)]) (fun i => n - i) 0
      ⟨Nat.zero_le _, by assumption, by assumption, by assumption, rfl, vi rfl (by omega), rfl, (by rw [← fill_zero n (fun j : Nat => (j : Int)) 0, ← fill_zero n (fun j => ofQ (frQ q j)) zRR, ← fill_zero n (baQ q) 0]; exact hS)⟩ ?_
    clear hS
    rintro i ρ w2 ⟨hi, h6, h7, h8, h38, h39, h40, hS⟩
    repeat (with_reducible first | refine c_seq ?_ | refine c_block ?_ | refine c_skip ?_ | refine x_then ?_ | refine x_block ?_)
    refine c_reg ?_
    refine l_pure rfl (s_lss  h40 h39 ?_)
    refine l_nil ?_
    repeat (with_reducible first | refine c_seq ?_ | refine c_block ?_ | refine c_skip ?_ | refine x_then ?_ | refine x_block ?_)
    by_cases hlt : i < n
    · refine c_yes rfl (decide_eq_true (by omega)) ?_
      repeat (with_reducible first | refine c_seq ?_ | refine c_block ?_ | refine c_skip ?_ | refine x_then ?_ | refine x_block ?_)
      have f1 := fill_len n i (fun j : Nat => (j : Int)) 0
      have f2 := fill_len n i (fun j => ofQ (frQ q j)) zRR
      have f3 := fill_len n i (baQ q) 0
      have g1 := fill_set n i (fun j : Nat => (j : Int)) 0
      have g2 := fill_set n i (fun j => ofQ (frQ q j)) zRR
      have g3 := fill_set n i (baQ q) 0
      obtain ⟨bb1, bb2⟩ := hbb i hlt
      have hLi := hLq i hlt
      have hLbi := hLb i hlt
      have hfl := fun w => QFloor_ok (l.getD i zRR) w (by omega)
      rw [hfq] at hfl
      have hce := fun w => QInt64_ok (ofQ ((baQ q i : Int) : Rat)) w (by rw [Lr_ofQ]; omega) (by rw [toQ_ofQ]; exact Rat.intCast_nonneg.2 bb1)
      rw [toQ_ofQ, i64V_int, if_pos ⟨by omega, by omega⟩] at hce
      have hsb := fun w => QSubtract_ok (l.getD i zRR) (ofQ ((baQ q i : Int) : Rat)) w (by rw [Lr_ofQ]; omega)
      rw [toQ_ofQ, hrq] at hsb
      repeat (with_reducible first | refine c_seq ?_ | refine c_block ?_ | refine c_skip ?_ | refine x_then ?_ | refine x_block ?_)
      refine c_reg ?_
      refine l_pure rfl (s_move  h40 ?_)
      refine l_pure rfl (s_ixr (i := i)  h38 h40 (hv.below hS.below) (by omega) (by first | omega | (simp; done) | (simp; omega)) si_23 ?_)
      refine l_read rfl (s_lde (i := i) zRR  rfl vi_25 (hv.below hS.below) (by first | omega | (simp; done) | (simp; omega)) rfl rfl (.inl rfl) ?_)
      refine l_heavy rfl (s_alloc  vi_25 hS ?_)
      intro b10 wz10 hS hBz10
      refine l_pure rfl (s_asg  rfl ?_)
      refine l_heavy rfl (s_sta (k := 0)  rfl rfl vi_25 hS rfl rfl rfl (Nat.le_of_ble_eq_true rfl) rfl ?_)
      intro wz11 hS
      refine l_nil ?_
      repeat (with_reducible first | refine c_seq ?_ | refine c_block ?_ | refine c_skip ?_ | refine x_then ?_ | refine x_block ?_)
      replace hS : St w _ ((b10, 25, encR (l.getD i zRR)) :: [(b8, 3, (fill n i (fun j : Nat => (j : Int)) 0).flatMap enI), (b7, 23, [.slice (some ⟨bF, 0, none⟩) n n]), (bF, 25, (fill n i (fun j => ofQ (frQ q j)) zRR).flatMap encR), (b6, 2, (fill n i (baQ q) 0).flatMap enI)]) := hS
      repeat (with_reducible first | refine c_seq ?_ | refine c_block ?_ | refine c_skip ?_ | refine x_then ?_ | refine x_block ?_)
      refine c_reg ?_
      refine l_read rfl (s_ldo (k := 0)  rfl vi_25 hS rfl rfl rfl (.inl rfl) ?_)
      refine l_heavy rfl (s_call Tryd.call13 rfl (hfl _) ?_)
      rintro _ wc12 ⟨rfl, hBc12⟩
      replace hS := hS.grow hBc12
      refine l_heavy rfl (s_alloc  vi_25 hS ?_)
      intro b11 wz13 hS hBz13
      refine l_heavy rfl (s_sta (k := 0)  rfl rfl vi_25 hS rfl rfl rfl (Nat.le_of_ble_eq_true rfl) rfl ?_)
      intro wz14 hS
      refine l_nil ?_
      repeat (with_reducible first | refine c_seq ?_ | refine c_block ?_ | refine c_skip ?_ | refine x_then ?_ | refine x_block ?_)
      replace hS : St w _ ((b11, 25, encR (ofQ ((baQ q i : Int) : Rat))) :: (b10, 25, encR (l.getD i zRR)) :: [(b8, 3, (fill n i (fun j : Nat => (j : Int)) 0).flatMap enI), (b7, 23, [.slice (some ⟨bF, 0, none⟩) n n]), (bF, 25, (fill n i (fun j => ofQ (frQ q j)) zRR).flatMap encR), (b6, 2, (fill n i (baQ q) 0).flatMap enI)]) := hS
      repeat (with_reducible first | refine c_seq ?_ | refine c_block ?_ | refine c_skip ?_ | refine x_then ?_ | refine x_block ?_)
      refine c_forget (fun ρ' => ρ' 6 = .slice (some ⟨b6, 0, none⟩) n n ∧ ρ' 7 = .pointer (some ⟨b7, 0, none⟩) ∧ ρ' 8 = .slice (some ⟨b8, 0, none⟩) n n ∧ ρ' 38 = v ∧ ρ' 39 = .int .i64 n ∧ ρ' 40 = .int .i64 i ∧ ρ' 9 = .int .i64 i ∧ ρ' 10 = .pointer (some ⟨b10, 0, none⟩) ∧ ρ' 11 = .pointer (some ⟨b11, 0, none⟩) ∧ True) ⟨h6, h7, h8, h38, h39, h40, rfl, rfl, rfl, trivial⟩ ?_
      rintro ρk15 ⟨hk15_6, hk15_7, hk15_8, hk15_38, hk15_39, hk15_40, hk15_9, hk15_10, hk15_11, -⟩
      repeat (with_reducible first | refine c_seq ?_ | refine c_block ?_ | refine c_skip ?_ | refine x_then ?_ | refine x_block ?_)
      refine c_reg ?_
      refine l_pure rfl (s_move  hk15_6 ?_)
      refine l_pure rfl (s_move  hk15_9 ?_)
      refine l_read rfl (s_ldo (k := 0)  hk15_11 vi_25 hS rfl rfl rfl (.inl rfl) ?_)
      refine l_heavy rfl (s_call Tryd.call11 rfl (hce _) ?_)
      rintro _ wc16 ⟨rfl, hBc16⟩
      replace hS := hS.grow hBc16
      refine l_pure rfl (s_move  rfl ?_)
      refine l_pure rfl (s_ext  rfl rfl ?_)
      refine l_pure rfl (s_ext  rfl rfl ?_)
      refine l_pure rfl (s_ixo (i := i)  rfl rfl (by omega) (by first | omega | (simp; done) | (simp; omega)) si_27 ?_)
      refine l_heavy rfl (s_stE (k := 5) (i := i) (enc := enI) (baQ q i) (fun _ => rfl)  rfl rfl vi_2 hS rfl (by first | omega | simp) (by first | omega | (simp; done) | (simp; omega)) rfl rfl ?_)
      intro wz17 hS
      refine l_nil ?_
      repeat (with_reducible first | refine c_seq ?_ | refine c_block ?_ | refine c_skip ?_ | refine x_then ?_ | refine x_block ?_)
      replace hS : St w _ ((b11, 25, encR (ofQ ((baQ q i : Int) : Rat))) :: (b10, 25, encR (l.getD i zRR)) :: [(b8, 3, (fill n i (fun j : Nat => (j : Int)) 0).flatMap enI), (b7, 23, [.slice (some ⟨bF, 0, none⟩) n n]), (bF, 25, (fill n i (fun j => ofQ (frQ q j)) zRR).flatMap encR), (b6, 2, ((fill n i (baQ q) 0).set i (baQ q i)).flatMap enI)]) := hS
      rw [g3] at hS
      repeat (with_reducible first | refine c_seq ?_ | refine c_block ?_ | refine c_skip ?_ | refine x_then ?_ | refine x_block ?_)
      refine c_draw [(0, .read), (1, .pure), (2, .read), (3, .read), (4, .grow), (5, .pure), (6, .free)] (by kernel_rfl) (by kernel_rfl) hS ?_
      intro wz18 hS hBz18
      refine w_read rfl rfl (s_ldo (k := 3)  hk15_7 vi_23 hS rfl rfl rfl (.inr rfl) ?_)
      refine w_pure rfl rfl (s_move  hk15_9 ?_)
      refine w_read rfl rfl (s_ldo (k := 1)  hk15_10 vi_25 hS rfl rfl rfl (.inl rfl) ?_)
      refine w_read rfl rfl (s_ldo (k := 0)  hk15_11 vi_25 hS rfl rfl rfl (.inl rfl) ?_)
      refine w_grow rfl rfl (s_call Tryd.call14 rfl (hsb _) ?_)
      rintro _ wc19 ⟨rfl, hBc19⟩
      replace hS := hS.grow hBc19
      refine ⟨hBc19, ?_⟩
      refine w_pure rfl rfl (s_ixo (i := i)  rfl rfl (by omega) (by first | omega | (simp; done) | (simp; omega)) si_23 ?_)
      refine w_free rfl rfl (s_stE (k := 4) (i := i) (enc := encR) (ofQ (frQ q i)) (fun _ => rfl)  rfl rfl vi_25 hS rfl (by first | omega | simp) (by first | omega | (simp; done) | (simp; omega)) rfl rfl ?_)
      intro wz20 hS
      refine w_end ?_
      repeat (with_reducible first | refine c_seq ?_ | refine c_block ?_ | refine c_skip ?_ | refine x_then ?_ | refine x_block ?_)
      refine c_reg ?_
      refine l_pure rfl (s_move  hk15_8 ?_)
      refine l_pure rfl (s_move  hk15_9 ?_)
      refine l_pure rfl (s_move  hk15_9 ?_)
      refine l_pure rfl (s_ixo (i := i)  rfl rfl (by omega) (by first | omega | (simp; done) | (simp; omega)) si_40 ?_)
      refine l_heavy rfl (s_stE (k := 2) (i := i) (enc := enI) (i : Int) (fun _ => rfl)  rfl rfl vi_3 hS rfl (by first | omega | simp) (by first | omega | (simp; done) | (simp; omega)) rfl rfl ?_)
      intro wz21 hS
      refine l_nil ?_
      repeat (with_reducible first | refine c_seq ?_ | refine c_block ?_ | refine c_skip ?_ | refine x_then ?_ | refine x_block ?_)
      replace hS : St w _ ((b11, 25, encR (ofQ ((baQ q i : Int) : Rat))) :: (b10, 25, encR (l.getD i zRR)) :: [(b8, 3, ((fill n i (fun j : Nat => (j : Int)) 0).set i (i : Int)).flatMap enI), (b7, 23, [.slice (some ⟨bF, 0, none⟩) n n]), (bF, 25, ((fill n i (fun j => ofQ (frQ q j)) zRR).set i (ofQ (frQ q i))).flatMap encR), (b6, 2, (fill n (i + 1) (baQ q) 0).flatMap enI)]) := hS
      rw [g1, g2] at hS
      repeat (with_reducible first | refine c_seq ?_ | refine c_block ?_ | refine c_skip ?_ | refine x_then ?_ | refine x_block ?_)
      refine c_reg ?_
      refine l_pure rfl (s_add  hk15_40 rfl (IntWalk.i64_in _ (by omega)) ?_)
      refine l_pure rfl (s_move  rfl ?_)
      refine l_nil ?_
      repeat (with_reducible first | refine c_seq ?_ | refine c_block ?_ | refine c_skip ?_ | refine x_then ?_ | refine x_block ?_)
      exact ⟨i + 1, _, rfl, ⟨hlt, by assumption, by assumption, by assumption, by assumption, by assumption, vi rfl (by omega), hS.drop ((List.sublist_cons_self _ _).trans (List.sublist_cons_self _ _))⟩, by omega⟩
    · refine c_no rfl (decide_eq_false (by omega)) ?_
      repeat (with_reducible first | refine c_seq ?_ | refine c_block ?_ | refine c_skip ?_ | refine x_then ?_ | refine x_block ?_)
      refine c_exit ?_
      repeat (with_reducible first | refine x_then_exit ?_ | refine x_block_exit ?_ | refine x_block_pass rfl ?_)
      repeat (with_reducible first | refine c_seq ?_ | refine c_block ?_ | refine c_skip ?_ | refine x_then ?_ | refine x_block ?_)
      obtain rfl : i = n := by omega
      exact ⟨_, rfl, h6, h7, h8, hS⟩
  clear hS
  rintro ρ w2 ⟨h6, h7, h8, hS⟩
  replace hS : St w w2 [(b8, 3, (zI (List.range n)).flatMap enI), (b7, 23, [.slice (some ⟨bF, 0, none⟩) n n]), (bF, 25, (tab n fun j => ofQ (frQ q j)).flatMap encR), (b6, 2, (tab n (baQ q)).flatMap enI)] := by
    rw [fill_all, fill_all, fill_all] at hS; exact hS
  have hroom := lf_room hord
  have hl0 := lfQ_nonneg q n
  obtain ⟨m, hm⟩ : ∃ m, m = (lfQ q n).toNat := ⟨_, rfl⟩
  have hlm : lfQ q n = (m : Int) := by omega
  have hmn : m ≤ n := by rw [hm]; exact hroom.1
  have hrm : resQ q J n = rnd (baQ q) J m := by rw [hm]; rfl
  rw [hrm] at hrl ⊢
  have hRBf : RB (2 * K + 2) (tab n fun j => ofQ (frQ q j)) := fun r hr => by
    obtain ⟨j, hj, rfl⟩ := tab_mem hr
    rw [Lr_ofQ]; exact hLf j hj
  have hsf := sumL_le hRBf
  rw [tab_len] at hsf
  have hsf2 : n * (2 * K + 2 + 1) ≤ 1024 * (2 * K + 2 + 1) := Nat.mul_le_mul_right _ h20
  have hsum2 := fun w v h => QSum_ok v (tab n fun j => ofQ (frQ q j)) w h (by omega)
  rw [sum_tab, ← hlf1, hlm] at hsum2
  have hLm : L (((m : Int)) : Rat) ≤ 8 := by
    refine L_int _ ?_ (by decide)
    rw [Int.natAbs_natCast]
    have : (256 : Nat) ^ 8 = 18446744073709551616 := by decide
    omega
  have hi2 := fun w => QInt64_ok (ofQ ((m : Int) : Rat)) w (by rw [Lr_ofQ]; omega) (by rw [toQ_ofQ]; exact Rat.intCast_nonneg.2 (by omega))
  rw [toQ_ofQ, i64V_int, if_pos ⟨by omega, by omega⟩] at hi2
  have hslF := hS.sle (k := 2) (n := n) (cap := n) rfl encR_len (by rw [tab_len]; omega) (Nat.le_refl _) (by omega)
  rw [List.take_of_length_le (by rw [tab_len]; omega)] at hslF
  repeat (with_reducible first | refine c_seq ?_ | refine c_block ?_ | refine c_skip ?_ | refine x_then ?_ | refine x_block ?_)
  refine c_reg ?_
  refine l_read rfl (s_ldo (k := 1)  h7 vi_23 hS rfl rfl rfl (.inr rfl) ?_)
  refine l_heavy rfl (s_call Tryd.call12 rfl (hsum2 _ _ hslF) ?_)
  rintro _ wc22 ⟨rfl, hBc22⟩
  replace hS := hS.grow hBc22
  refine l_heavy rfl (s_call Tryd.call11 rfl (hi2 _) ?_)
  rintro _ wc23 ⟨rfl, hBc23⟩
  replace hS := hS.grow hBc23
  refine l_pure rfl (s_move  rfl ?_)
  refine l_pure rfl (s_ext  rfl rfl ?_)
  refine l_pure rfl (s_ext  rfl rfl ?_)
  refine l_pure rfl (s_asg  rfl ?_)
  refine l_pure rfl (s_asg  rfl ?_)
  refine l_nil ?_
  repeat (with_reducible first | refine c_seq ?_ | refine c_block ?_ | refine c_skip ?_ | refine x_then ?_ | refine x_block ?_)
  have hc : CmpOk 16 [.pointer (some ⟨b7, 0, none⟩)] (cmpA (frQ q)) (zI (List.range n)) w b8 3 [(b7, 23, [.slice (some ⟨bF, 0, none⟩) n n]), (bF, 25, (tab n fun j => ofQ (frQ q j)).flatMap encR), (b6, 2, (tab n (baQ q)).flatMap enI)] := by
    refine ⟨Tryd.call16, fun cs' u v' w' hS' hx hy => ?_⟩
    obtain ⟨i, hi, rfl⟩ := List.mem_map.1 hx
    obtain ⟨k, hk, rfl⟩ := List.mem_map.1 hy
    have hsl := hS'.sle (k := 2) (n := n) (cap := n) rfl encR_len (by rw [tab_len]; omega) (Nat.le_refl _) (by omega)
    rw [List.take_of_length_le (by rw [tab_len]; omega)] at hsl
    exact largest1_ok b7 i k n (2 * K + 2) _ (frQ q) w' (hS'.at (k := 1) rfl 0 1) hsl (List.mem_range.1 hi) (List.mem_range.1 hk) hLf (by omega)
  have hfr' : ∀ i, i < n → frQ q i = 0 := fun i hi => by rw [hq]; exact hfr i (by omega)
  have hz0 : ∀ x ∈ zI (List.range n), ∀ y ∈ zI (List.range n), ¬ cmpA (frQ q) x y < 0 := fun x hx y hy => by
    obtain ⟨i, hi, rfl⟩ := List.mem_map.1 hx
    obtain ⟨k, hk, rfl⟩ := List.mem_map.1 hy
    unfold cmpA
    rw [Int.toNat_natCast, Int.toNat_natCast, hfr' i (List.mem_range.1 hi), hfr' k (List.mem_range.1 hk), cmpQ_eq]
    decide
  have hJr : J = List.range n := by
    have h1 := sort_A (frQ q) n
    rw [isort_same hz0 _ (fun _ h => h), hJd] at h1
    exact (List.map_inj_right (fun a b h => by omega)).1 h1.symm
  have hsort := fun w3 (hS : St w w3 [(b8, 3, (zI (List.range n)).flatMap enI), (b7, 23, [.slice (some ⟨bF, 0, none⟩) n n]), (bF, 25, (tab n fun j => ofQ (frQ q j)).flatMap encR), (b6, 2, (tab n (baQ q)).flatMap enI)]) => SortStable_same hc hz0 (zI (List.range n)) (fun _ h => h) [] n n (by rw [zI_len, List.length_range]) (by omega) w3 (by rw [List.append_nil]; exact hS)
  rw [List.append_nil, ← hJr] at hsort
  have hJl : J.length = n := hord.len
  repeat (with_reducible first | refine c_seq ?_ | refine c_block ?_ | refine c_skip ?_ | refine x_then ?_ | refine x_block ?_)
  refine c_reg ?_
  refine l_pure rfl (s_move  h8 ?_)
  refine l_pure rfl (s_mkf1  h7 ?_)
  refine l_heavy rfl (s_call Tryd.call15 rfl (hsort _ (by rw [hJr]; exact hS)) ?_)
  rintro r w3 ⟨rfl, hS3⟩
  clear hS
  have hS := hS3
  refine l_nil ?_
  repeat (with_reducible first | refine c_seq ?_ | refine c_block ?_ | refine c_skip ?_ | refine x_then ?_ | refine x_block ?_)
  refine c_forget (fun ρ' => ρ' 12 = .int .i64 (m : Int) ∧ ρ' 6 = .slice (some ⟨b6, 0, none⟩) n n ∧ ρ' 8 = .slice (some ⟨b8, 0, none⟩) n n ∧ True) ⟨rfl, h6, h8, trivial⟩ ?_
  rintro ρk24 ⟨hk24_12, hk24_6, hk24_8, -⟩
  repeat (with_reducible first | refine c_seq ?_ | refine c_block ?_ | refine c_skip ?_ | refine x_then ?_ | refine x_block ?_)
  refine c_reg ?_
  refine l_pure rfl (s_move  hk24_8 ?_)
  refine l_pure rfl (s_move  hk24_12 ?_)
  refine l_pure rfl (s_suboh (hi := m)  rfl rfl (by omega) (by omega) si_40 ?_)
  refine l_pure rfl (s_leno  rfl ⟨_, Tryd.underlying40⟩ ?_)
  refine l_pure rfl (s_move  rfl ?_)
  refine l_nil ?_
  repeat (with_reducible first | refine c_seq ?_ | refine c_block ?_ | refine c_skip ?_ | refine x_then ?_ | refine x_block ?_)
  replace hS : St w w3 [(b8, 3, (zI J).flatMap enI), (b7, 23, [.slice (some ⟨bF, 0, none⟩) n n]), (bF, 25, (tab n fun j => ofQ (frQ q j)).flatMap encR), (b6, 2, (tab n (rnd (baQ q) J 0)).flatMap enI)] := by rw [rnd_zero]; exact hS
  refine c_loop (σ := Nat) (fun i ρ w' => i ≤ m ∧ ρ 6 = .slice (some ⟨b6, 0, none⟩) n n ∧ ρ 77 = .slice (some ⟨b8, 0, none⟩) m n ∧ ρ 78 = .int .i64 m ∧ ρ 79 = .int .i64 i ∧
      St w w' [(b8, 3, (zI J).flatMap enI), (b7, 23, [.slice (some ⟨bF, 0, none⟩) n n]), (bF, 25, (tab n fun j => ofQ (frQ q j)).flatMap encR), (b6, 2, (tab n (rnd (baQ q) J i)).flatMap enI)]) (fun i => m - i) 0
    ⟨Nat.zero_le _, by assumption, rfl, rfl, rfl, hS⟩ ?_
  clear hS h6 h7 h8
  rintro i ρ w4 ⟨hi, h6, h77, h78, h79, hS⟩
  repeat (with_reducible first | refine c_seq ?_ | refine c_block ?_ | refine c_skip ?_ | refine x_then ?_ | refine x_block ?_)
  refine c_reg ?_
  refine l_pure rfl (s_lss  h79 h78 ?_)
  refine l_nil ?_
  repeat (with_reducible first | refine c_seq ?_ | refine c_block ?_ | refine c_skip ?_ | refine x_then ?_ | refine x_block ?_)
  by_cases hlt : i < m
  · refine c_yes rfl (decide_eq_true (by omega)) ?_
    repeat (with_reducible first | refine c_seq ?_ | refine c_block ?_ | refine c_skip ?_ | refine x_then ?_ | refine x_block ?_)
    have hzg := zI_get J (k := i) (by omega)
    have hjn := hord.lt (k := i) (by omega)
    have htl := tab_len n (rnd (baQ q) J i)
    have hzl := zI_len J
    have hra := rnd_at (ba := baQ q) hord.nodup (k := i) (by omega)
    have hrs := rnd_set (ba := baQ q) (l := J) (n := n) (k := i) (by omega)
    have hbj := hbb (J.getD i 0) hjn
    have hrj := hrl (J.getD i 0) hjn
    have hin : J.getD i 0 ∈ J.take m := by
      rw [List.mem_iff_getElem]
      refine ⟨i, by rw [List.length_take]; omega, ?_⟩
      rw [List.getElem_take, List.getD_eq_getElem?_getD, List.getElem?_eq_getElem (by omega)]; rfl
    have hrj2 : rnd (baQ q) J m (J.getD i 0) = baQ q (J.getD i 0) + 1 := if_pos hin
    rw [hrj2] at hrj
    obtain ⟨j, hj⟩ : ∃ j, j = J.getD i 0 := ⟨_, rfl⟩
    rw [← hj] at hzg hjn hra hrs hbj hrj
    have htg : (tab n (rnd (baQ q) J i)).getD j 0 = baQ q j := by rw [tab_get _ _ hjn, hra]
    repeat (with_reducible first | refine c_seq ?_ | refine c_block ?_ | refine c_skip ?_ | refine x_then ?_ | refine x_block ?_)
    refine c_reg ?_
    refine l_pure rfl (s_ixo (i := i)  h77 h79 (by omega) (by omega) si_40 ?_)
    refine l_read rfl (s_ldE (k := 0) (i := i) (enc := enI) 0 (fun _ => rfl)  rfl vi_3 hS rfl (by first | omega | simp) (by omega) rfl (.inr rfl) ?_)
    refine l_pure rfl (s_asg  rfl ?_)
    refine l_nil ?_
    repeat (with_reducible first | refine c_seq ?_ | refine c_block ?_ | refine c_skip ?_ | refine x_then ?_ | refine x_block ?_)
    rw [hzg]
    repeat (with_reducible first | refine c_seq ?_ | refine c_block ?_ | refine c_skip ?_ | refine x_then ?_ | refine x_block ?_)
    refine c_reg ?_
    refine l_pure rfl (s_move  h6 ?_)
    refine l_pure rfl (s_move  rfl ?_)
    refine l_pure rfl (s_ixo (i := j)  rfl rfl (by omega) (by first | omega | (simp; done) | (simp; omega)) si_27 ?_)
    refine l_read rfl (s_ldE (k := 3) (i := j) (enc := enI) 0 (fun _ => rfl)  rfl vi_2 hS rfl (by first | omega | simp) (by first | omega | (simp; done) | (simp; omega)) rfl (.inr rfl) ?_)
    refine l_pure rfl (s_add  rfl rfl (r := (baQ q j + 1)) (by rw [htg]; exact wr_i64 _ ⟨rfl, by omega, by omega⟩) ?_)
    refine l_pure rfl (s_ixo (i := j)  rfl rfl (by omega) (by first | omega | (simp; done) | (simp; omega)) si_27 ?_)
    refine l_heavy rfl (s_stE (k := 3) (i := j) (enc := enI) (baQ q j + 1) (fun _ => rfl)  rfl rfl vi_2 hS rfl (by first | omega | simp) (by first | omega | (simp; done) | (simp; omega)) rfl rfl ?_)
    intro wz25 hS
    refine l_nil ?_
    repeat (with_reducible first | refine c_seq ?_ | refine c_block ?_ | refine c_skip ?_ | refine x_then ?_ | refine x_block ?_)
    replace hS : St w _ [(b8, 3, (zI J).flatMap enI), (b7, 23, [.slice (some ⟨bF, 0, none⟩) n n]), (bF, 25, (tab n fun j => ofQ (frQ q j)).flatMap encR), (b6, 2, ((tab n (rnd (baQ q) J i)).set j (baQ q j + 1)).flatMap enI)] := hS
    rw [hrs] at hS
    repeat (with_reducible first | refine c_seq ?_ | refine c_block ?_ | refine c_skip ?_ | refine x_then ?_ | refine x_block ?_)
    refine c_reg ?_
    refine l_pure rfl (s_add  h79 rfl (IntWalk.i64_in _ (by omega)) ?_)
    refine l_pure rfl (s_move  rfl ?_)
    refine l_nil ?_
    repeat (with_reducible first | refine c_seq ?_ | refine c_block ?_ | refine c_skip ?_ | refine x_then ?_ | refine x_block ?_)
    exact ⟨i + 1, _, rfl, ⟨hlt, by assumption, by assumption, by assumption, vi rfl (by omega), hS⟩, by omega⟩
  · refine c_no rfl (decide_eq_false (by omega)) ?_
    repeat (with_reducible first | refine c_seq ?_ | refine c_block ?_ | refine c_skip ?_ | refine x_then ?_ | refine x_block ?_)
    refine c_exit ?_
    repeat (with_reducible first | refine x_then_exit ?_ | refine x_block_exit ?_ | refine x_block_pass rfl ?_)
    repeat (with_reducible first | refine c_seq ?_ | refine c_block ?_ | refine c_skip ?_ | refine x_then ?_ | refine x_block ?_)
    obtain rfl : i = m := by omega
    repeat (with_reducible first | refine c_seq ?_ | refine c_block ?_ | refine c_skip ?_ | refine x_then ?_ | refine x_block ?_)
    refine c_reg ?_
    refine l_pure rfl (s_move  h6 ?_)
    refine l_pure rfl (s_asg  rfl ?_)
    refine l_pure rfl (s_asg  rfl ?_)
    refine l_nil ?_
    repeat (with_reducible first | refine c_seq ?_ | refine c_block ?_ | refine c_skip ?_ | refine x_then ?_ | refine x_block ?_)
    refine c_ret ?_
    repeat (with_reducible first | refine x_then_ret ?_ | refine x_block_ret ?_)
    refine r_two rfl rfl rfl ?_
    refine ⟨⟨_, rfl, ?_⟩, hS.below⟩
    have h2 := hS.sle (k := 3) (n := n) (cap := n) rfl enI_len (by rw [tab_len]; omega) (Nat.le_refl _) (by omega)
    rwa [List.take_of_length_le (by rw [tab_len]; omega)] at h2
end Go.Proofs.YtblfipdfklpmmabDoor
