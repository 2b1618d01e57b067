/-
  Walk: rounding a list with an exact sum (program).
-/
import Derived.Test.YtmapmdldlcfjhaaGreatDoorLawUc
namespace Go.Proofs.YtmapmdldlcfjhaaGreatDoor
open Go Go.RowKit Go.Sx

set_option maxHeartbeats 4000000 in
theorem Round_ok (v : Value) (l : List RR) (K : Nat) (w : World) (hv : Sl encR 3 w v l) (hl : RB K l) (h20 : l.length ≤ 20) (hK : 100 * K + 200 ≤ MX) :
    Ret Tryz.prog 24 #[v] w fun r w' =>
      (rE l ≠ 0 ∧ r = .tuple #[.slice none 0 0, .int .i64 (rE l)] ∧ Below w.heap.size w w') ∨
      (rE l = 0 ∧ ∃ b, r = .tuple #[.slice (some ⟨b, 0, none⟩) l.length l.length, .int .i64 0] ∧ St w w' [(b, 2, (tab l.length (resC l)).flatMap enI)]) := by
  have hM : MX = 1099511627776 := rfl
  have hmC : mxC = 1125899906842624 := rfl
  have hsl := sumL_le hl
  have hsl2 : l.length * (K + 1) ≤ 20 * (K + 1) := Nat.mul_le_mul_right _ h20
  have hLs := L_sumQ l
  have hsum := fun w h => QSum_ok v l w h (by omega)
  have hcs := fun w => Cents_ok (ofQ (sumQ (l.map toQ))) w (by rw [Lr_ofQ]; omega)
  rw [toQ_ofQ] at hcs
  have hS := St.init w
  refine enter Tryz.func24 rfl Tryz.ntmps24 rfl ?_
  repeat (with_reducible first | refine c_seq ?_ | refine c_block ?_ | refine c_skip ?_ | refine x_then ?_ | refine x_block ?_)
  refine c_reg ?_
  refine l_pure rfl (s_asg  rfl ?_)
  refine l_pure rfl (s_asg  rfl ?_)
  refine l_nil ?_
  repeat (with_reducible first | refine c_seq ?_ | refine c_block ?_ | refine c_skip ?_ | refine x_then ?_ | refine x_block ?_)
  refine c_reg ?_
  refine l_pure rfl (s_move  rfl ?_)
  refine l_pure rfl (s_lenr  rfl (hv.below hS.below) ⟨_, Tryz.underlying22⟩ ?_)
  refine l_pure rfl (s_gtr  rfl rfl ?_)
  refine l_nil ?_
  repeat (with_reducible first | refine c_seq ?_ | refine c_block ?_ | refine c_skip ?_ | refine x_then ?_ | refine x_block ?_)
  refine c_no rfl (decide_eq_false (by omega)) ?_
  repeat (with_reducible first | refine c_seq ?_ | refine c_block ?_ | refine c_skip ?_ | refine x_then ?_ | refine x_block ?_)
  refine c_reg ?_
  refine l_pure rfl (s_move  rfl ?_)
  refine l_heavy rfl (s_call Tryz.call67 rfl (pnegative_ok v l _ (hv.below hS.below) (RB_mono hl (by omega))) ?_)
  rintro _ wc1 ⟨rfl, hBc1⟩
  replace hS := hS.grow hBc1
  refine l_nil ?_
  repeat (with_reducible first | refine c_seq ?_ | refine c_block ?_ | refine c_skip ?_ | refine x_then ?_ | refine x_block ?_)
  cases hn : negs l with
  | true =>
    have he : rE l = 7 := by unfold rE; rw [if_neg (by omega), hn, if_pos rfl]
    refine c_yes rfl (rfl) ?_
    repeat (with_reducible first | refine c_seq ?_ | refine c_block ?_ | refine c_skip ?_ | refine x_then ?_ | refine x_block ?_)
    refine c_reg ?_
    refine l_pure rfl (s_asg  rfl ?_)
    refine l_pure rfl (s_asg  rfl ?_)
    refine l_nil ?_
    repeat (with_reducible first | refine c_seq ?_ | refine c_block ?_ | refine c_skip ?_ | refine x_then ?_ | refine x_block ?_)
    refine c_ret ?_
    repeat (with_reducible first | refine x_then_ret ?_ | refine x_block_ret ?_)
    refine r_two rfl rfl rfl ?_
    exact .inl ⟨by rw [he]; decide, by rw [he]; rfl, hS.below⟩
  | false =>
  have he : rE l = cE (sumQ (l.map toQ)) := by unfold rE; rw [if_neg (by omega), hn, if_neg (by decide)]
  refine c_no rfl (rfl) ?_
  repeat (with_reducible first | refine c_seq ?_ | refine c_block ?_ | refine c_skip ?_ | refine x_then ?_ | refine x_block ?_)
  refine c_reg ?_
  refine l_pure rfl (s_move  rfl ?_)
  refine l_heavy rfl (s_call Tryz.call42 rfl (hsum _ (hv.below hS.below)) ?_)
  rintro _ wc2 ⟨rfl, hBc2⟩
  replace hS := hS.grow hBc2
  refine l_heavy rfl (s_call Tryz.call20 rfl (hcs _) ?_)
  rintro _ wc3 ⟨rfl, hBc3⟩
  replace hS := hS.grow hBc3
  refine l_pure rfl (s_move  rfl ?_)
  refine l_pure rfl (s_ext  rfl rfl ?_)
  refine l_pure rfl (s_ext  rfl rfl ?_)
  refine l_pure rfl (s_asg  rfl ?_)
  refine l_pure rfl (s_asg  rfl ?_)
  refine l_nil ?_
  repeat (with_reducible first | refine c_seq ?_ | refine c_block ?_ | refine c_skip ?_ | refine x_then ?_ | refine x_block ?_)
  refine c_reg ?_
  refine l_pure rfl (s_move  rfl ?_)
  refine l_pure rfl (s_neq  rfl rfl ?_)
  refine l_nil ?_
  repeat (with_reducible first | refine c_seq ?_ | refine c_block ?_ | refine c_skip ?_ | refine x_then ?_ | refine x_block ?_)
  rw [← he]
  by_cases hz : rE l = 0
  · have hN : cN (sumQ (l.map toQ)) = flC (sumQ (l.map toQ)) := by unfold cN; rw [← he, if_pos hz]
    obtain ⟨T, hT⟩ : ∃ T, T = flC (sumQ (l.map toQ)) := ⟨_, rfl⟩
    rw [hN, ← hT]
    obtain ⟨n, hn'⟩ : ∃ n, n = l.length := ⟨_, rfl⟩
    obtain ⟨q, hq⟩ : ∃ q, q = qC l := ⟨_, rfl⟩
    obtain ⟨J, hJ⟩ : ∃ J, J = ordC l := ⟨_, rfl⟩
    have hord := ordC_ord l
    have hsb := fun i hi => sumC_bound hz (i := i) hi
    have hbb := fun i hi => baC_bound hz (i := i) hi
    have hrb := fun i hi => resC_bound hz (i := i) hi
    have hlf := lfC l
    have hres : resC l = resQ q J n := by rw [hq, hJ, hn']; rfl
    have hTm := (rE_zero hz).2.2.2.2.1
    have hT0 := (rE_zero hz).2.2.2.1
    have hJd : ordB (frQ q) n = J := by rw [hJ, hq, hn']; rfl
    have hfq : ∀ i, flC (toQ (l.getD i zRR)) = baQ q i := fun i => by rw [hq]; rfl
    have hrq : ∀ i, frC (toQ (l.getD i zRR)) = frQ q i := fun i => by rw [hq]; rfl
    have hLq : ∀ i, i < n → Lr (l.getD i zRR) ≤ K := fun i hi => hl _ (getD_mem l i zRR (by omega))
    have hLf : ∀ i, i < n → L (frQ q i) ≤ 2 * K + 4 := fun i hi => by
      rw [← hrq]
      have := L_frC (toQ (l.getD i zRR))
      have := L_toQ (l.getD i zRR)
      have := hLq i hi
      omega
    rw [← hT] at hsb hbb hlf hTm hT0
    rw [hres] at hrb ⊢
    rw [← hq, ← hJ, ← hn'] at hord
    rw [← hq] at hsb hbb
    rw [← hq, ← hn'] at hlf
    rw [← hn'] at hsb hbb hrb h20 ⊢
    refine c_no rfl (decide_eq_false (not_not_intro hz)) ?_
    repeat (with_reducible first | refine c_seq ?_ | refine c_block ?_ | refine c_skip ?_ | refine x_then ?_ | refine x_block ?_)
    refine c_reg ?_
    refine l_pure rfl (s_move  rfl ?_)
    refine l_pure rfl (s_lenr  rfl (hv.below hS.below) ⟨_, Tryz.underlying22⟩ ?_)
    refine l_heavy rfl (s_makeE (enc := enI) (n := n) 0  rfl rfl si_25 rfl (by omega) (by omega) (by omega) (by omega) hS ?_)
    intro b6 wz4 hS hBz4
    refine l_pure rfl (s_asg  rfl ?_)
    refine l_nil ?_
    repeat (with_reducible first | refine c_seq ?_ | refine c_block ?_ | refine c_skip ?_ | refine x_then ?_ | refine x_block ?_)
    refine c_reg ?_
    refine l_pure rfl (s_move  rfl ?_)
    refine l_pure rfl (s_lenr  rfl (hv.below hS.below) ⟨_, Tryz.underlying22⟩ ?_)
    refine l_heavy rfl (s_makeE (enc := encR) (n := n) zRR  rfl rfl si_22 rfl (by omega) (by omega) (by omega) (by omega) hS ?_)
    intro bF wz5 hS hBz5
    refine l_heavy rfl (s_alloc  vi_22 hS ?_)
    intro b7 wz6 hS hBz6
    refine l_heavy rfl (s_stc (k := 0)  rfl rfl vi_22 hS rfl (Nat.le_of_ble_eq_true rfl) rfl ?_)
    intro wz7 hS
    refine l_nil ?_
    repeat (with_reducible first | refine c_seq ?_ | refine c_block ?_ | refine c_skip ?_ | refine x_then ?_ | refine x_block ?_)
    refine c_reg ?_
    refine l_pure rfl (s_move  rfl ?_)
    refine l_pure rfl (s_lenr  rfl (hv.below hS.below) ⟨_, Tryz.underlying22⟩ ?_)
    refine l_heavy rfl (s_makeE (enc := enI) (n := n) 0  rfl rfl si_65 rfl (by omega) (by omega) (by omega) (by omega) hS ?_)
    intro b8 wz8 hS hBz8
    refine l_pure rfl (s_asg  rfl ?_)
    refine l_nil ?_
    repeat (with_reducible first | refine c_seq ?_ | refine c_block ?_ | refine c_skip ?_ | refine x_then ?_ | refine x_block ?_)
    replace hS : St w _ [(b8, 3, (List.replicate n (0 : Int)).flatMap enI), (b7, 22, [.slice (some ⟨bF, 0, none⟩) n n]), (bF, 37, (List.replicate n zRR).flatMap encR), (b6, 2, (List.replicate n (0 : Int)).flatMap enI)] := hS
    repeat (with_reducible first | refine c_seq ?_ | refine c_block ?_ | refine c_skip ?_ | refine x_then ?_ | refine x_block ?_)
    refine c_forget (fun ρ' => ρ' 0 = v ∧ ρ' 4 = .int .i64 T ∧ ρ' 6 = .slice (some ⟨b6, 0, none⟩) n n ∧ ρ' 7 = .pointer (some ⟨b7, 0, none⟩) ∧ ρ' 8 = .slice (some ⟨b8, 0, none⟩) n n ∧ True) ⟨rfl, rfl, rfl, rfl, rfl, trivial⟩ ?_
    rintro ρk9 ⟨hk9_0, hk9_4, hk9_6, hk9_7, hk9_8, -⟩
    repeat (with_reducible first | refine c_seq ?_ | refine c_block ?_ | refine c_skip ?_ | refine x_then ?_ | refine x_block ?_)
    refine c_reg ?_
    refine l_pure rfl (s_move  hk9_0 ?_)
    refine l_pure rfl (s_lenr  rfl (hv.below hS.below) ⟨_, Tryz.underlying22⟩ ?_)
    refine l_pure rfl (s_move  rfl ?_)
    refine l_nil ?_
    repeat (with_reducible first | refine c_seq ?_ | refine c_skip ?_ | refine x_then ?_ | refine x_block ?_)
    refine c_cut1 (fun ρ w' => ρ 4 = .int .i64 (T - sumZ (baQ q) n) ∧ ρ 6 = .slice (some ⟨b6, 0, none⟩) n n ∧ ρ 7 = .pointer (some ⟨b7, 0, none⟩) ∧ ρ 8 = .slice (some ⟨b8, 0, none⟩) n n ∧ St w w' [(b8, 3, (fill n n (fun j : Nat => (j : Int)) 0).flatMap enI), (b7, 22, [.slice (some ⟨bF, 0, none⟩) n n]), (bF, 37, (fill n n (fun j => ofQ (frQ q j)) zRR).flatMap encR), (b6, 2, (fill n n (baQ q) 0).flatMap enI)]) ?_ ?_
    · repeat (with_reducible first | refine c_seq ?_ | refine c_block ?_ | refine c_skip ?_ | refine x_then ?_ | refine x_block ?_)
      refine c_loop (σ := Nat) (fun i ρ w' => i ≤ n ∧ ρ 4 = .int .i64 (T - sumZ (baQ q) i) ∧ ρ 6 = .slice (some ⟨b6, 0, none⟩) n n ∧ ρ 7 = .pointer (some ⟨b7, 0, none⟩) ∧ ρ 8 = .slice (some ⟨b8, 0, none⟩) n n ∧ ρ 38 = v ∧ ρ 39 = .int .i64 n ∧ ρ 40 = .int .i64 i ∧ St w w' [(b8, 3, (fill n i (fun j : Nat => (j : Int)) 0).flatMap enI), (b7, 22, [.slice (some ⟨bF, 0, none⟩) n n]), (bF, 37, (fill n i (fun j => ofQ (frQ q j)) zRR).flatMap encR), (b6, 2, (fill n i (baQ q) 0).flatMap enI)]) (fun i => n - i) 0
        ⟨Nat.zero_le _, vi (by assumption) (by show T = T - 0; omega), by assumption, by assumption, by assumption, rfl, vi rfl (by omega), rfl, (by rw [← fill_zero n (fun j : Nat => (j : Int)) 0, ← fill_zero n (fun j => ofQ (frQ q j)) zRR, ← fill_zero n (baQ q) 0]; exact hS)⟩ ?_
      clear hS
      rintro i ρ w2 ⟨hi, h4, h6, h7, h8, h38, h39, h40, hS⟩
      repeat (with_reducible first | refine c_seq ?_ | refine c_block ?_ | refine c_skip ?_ | refine x_then ?_ | refine x_block ?_)
      refine c_reg ?_
      refine l_pure rfl (s_lss  h40 h39 ?_)
      refine l_nil ?_
      repeat (with_reducible first | refine c_seq ?_ | refine c_block ?_ | refine c_skip ?_ | refine x_then ?_ | refine x_block ?_)
      by_cases hlt : i < n
      · refine c_yes rfl (decide_eq_true (by omega)) ?_
        repeat (with_reducible first | refine c_seq ?_ | refine c_block ?_ | refine c_skip ?_ | refine x_then ?_ | refine x_block ?_)
        have f1 := fill_len n i (fun j : Nat => (j : Int)) 0
        have f2 := fill_len n i (fun j => ofQ (frQ q j)) zRR
        have f3 := fill_len n i (baQ q) 0
        have f4 := fill_len n (i + 1) (baQ q) 0
        have g1 := fill_set n i (fun j : Nat => (j : Int)) 0
        have g2 := fill_set n i (fun j => ofQ (frQ q j)) zRR
        have g3 := fill_set n i (baQ q) 0
        have g4 := fill_get (n := n) (i := i + 1) (k := i) (baQ q) 0 0 hlt (by omega)
        obtain ⟨bb1, bb2⟩ := hbb i hlt
        obtain ⟨sb1, sb2⟩ := hsb i (by omega)
        obtain ⟨sc1, sc2⟩ := hsb (i + 1) (by omega)
        have hss : sumZ (baQ q) (i + 1) = sumZ (baQ q) i + baQ q i := rfl
        have hLi := hLq i hlt
        have hsp := fun w => split_ok (l.getD i zRR) w (by omega)
        rw [hfq, hrq] at hsp
        have hce := fun w => cents_ok (baQ q i) w bb1 (by
          have := L_flC (toQ (l.getD i zRR))
          have := L_toQ (l.getD i zRR)
          rw [hfq] at *
          omega)
        repeat (with_reducible first | refine c_seq ?_ | refine c_block ?_ | refine c_skip ?_ | refine x_then ?_ | refine x_block ?_)
        refine c_reg ?_
        refine l_pure rfl (s_move  h40 ?_)
        refine l_pure rfl (s_ixr (i := i)  h38 h40 (hv.below hS.below) (by omega) (by first | omega | (simp; done) | (simp; omega)) si_22 ?_)
        refine l_read rfl (s_lde (i := i) zRR  rfl vi_37 (hv.below hS.below) (by first | omega | (simp; done) | (simp; omega)) rfl rfl (.inl rfl) ?_)
        refine l_heavy rfl (s_alloc  vi_37 hS ?_)
        intro b10 wz10 hS hBz10
        refine l_pure rfl (s_asg  rfl ?_)
        refine l_heavy rfl (s_sta (k := 0)  rfl rfl vi_37 hS rfl rfl rfl (Nat.le_of_ble_eq_true rfl) rfl ?_)
        intro wz11 hS
        refine l_nil ?_
        repeat (with_reducible first | refine c_seq ?_ | refine c_block ?_ | refine c_skip ?_ | refine x_then ?_ | refine x_block ?_)
        replace hS : St w _ ((b10, 37, encR (l.getD i zRR)) :: [(b8, 3, (fill n i (fun j : Nat => (j : Int)) 0).flatMap enI), (b7, 22, [.slice (some ⟨bF, 0, none⟩) n n]), (bF, 37, (fill n i (fun j => ofQ (frQ q j)) zRR).flatMap encR), (b6, 2, (fill n i (baQ q) 0).flatMap enI)]) := hS
        repeat (with_reducible first | refine c_seq ?_ | refine c_block ?_ | refine c_skip ?_ | refine x_then ?_ | refine x_block ?_)
        refine c_reg ?_
        refine l_read rfl (s_ldo (k := 0)  rfl vi_37 hS rfl rfl rfl (.inl rfl) ?_)
        refine l_heavy rfl (s_call Tryz.call59 rfl (hsp _) ?_)
        rintro _ wc12 ⟨rfl, hBc12⟩
        replace hS := hS.grow hBc12
        refine l_pure rfl (s_move  rfl ?_)
        refine l_pure rfl (s_ext  rfl rfl ?_)
        refine l_pure rfl (s_ext  rfl rfl ?_)
        refine l_heavy rfl (s_alloc  vi_37 hS ?_)
        intro b11 wz13 hS hBz13
        refine l_heavy rfl (s_alloc  vi_37 hS ?_)
        intro b12 wz14 hS hBz14
        refine l_heavy rfl (s_sta (k := 1)  rfl rfl vi_37 hS rfl rfl rfl (Nat.le_of_ble_eq_true rfl) rfl ?_)
        intro wz15 hS
        refine l_heavy rfl (s_sta (k := 0)  rfl rfl vi_37 hS rfl rfl rfl (Nat.le_of_ble_eq_true rfl) rfl ?_)
        intro wz16 hS
        refine l_nil ?_
        repeat (with_reducible first | refine c_seq ?_ | refine c_block ?_ | refine c_skip ?_ | refine x_then ?_ | refine x_block ?_)
        replace hS : St w _ ((b12, 37, encR (ofQ (frQ q i))) :: (b11, 37, encR (ofQ (baQ q i : Rat))) :: (b10, 37, encR (l.getD i zRR)) :: [(b8, 3, (fill n i (fun j : Nat => (j : Int)) 0).flatMap enI), (b7, 22, [.slice (some ⟨bF, 0, none⟩) n n]), (bF, 37, (fill n i (fun j => ofQ (frQ q j)) zRR).flatMap encR), (b6, 2, (fill n i (baQ q) 0).flatMap enI)]) := hS
        repeat (with_reducible first | refine c_seq ?_ | refine c_block ?_ | refine c_skip ?_ | refine x_then ?_ | refine x_block ?_)
        refine c_forget (fun ρ' => ρ' 4 = .int .i64 (T - sumZ (baQ q) i) ∧ ρ' 6 = .slice (some ⟨b6, 0, none⟩) n n ∧ ρ' 7 = .pointer (some ⟨b7, 0, none⟩) ∧ ρ' 8 = .slice (some ⟨b8, 0, none⟩) n n ∧ ρ' 38 = v ∧ ρ' 39 = .int .i64 n ∧ ρ' 40 = .int .i64 i ∧ ρ' 9 = .int .i64 i ∧ ρ' 11 = .pointer (some ⟨b11, 0, none⟩) ∧ ρ' 12 = .pointer (some ⟨b12, 0, none⟩) ∧ True) ⟨h4, h6, h7, h8, h38, h39, h40, rfl, rfl, rfl, trivial⟩ ?_
        rintro ρk17 ⟨hk17_4, hk17_6, hk17_7, hk17_8, hk17_38, hk17_39, hk17_40, hk17_9, hk17_11, hk17_12, -⟩
        repeat (with_reducible first | refine c_seq ?_ | refine c_block ?_ | refine c_skip ?_ | refine x_then ?_ | refine x_block ?_)
        refine c_reg ?_
        refine l_pure rfl (s_move  hk17_6 ?_)
        refine l_pure rfl (s_move  hk17_9 ?_)
        refine l_read rfl (s_ldo (k := 1)  hk17_11 vi_37 hS rfl rfl rfl (.inl rfl) ?_)
        refine l_heavy rfl (s_call Tryz.call60 rfl (hce _) ?_)
        rintro r w4 ⟨⟨z, rfl, hz2⟩, hB4⟩
        obtain rfl := hz2 (by omega)
        replace hS := hS.grow hB4
        refine l_pure rfl (s_move  rfl ?_)
        refine l_pure rfl (s_ext  rfl rfl ?_)
        refine l_pure rfl (s_ext  rfl rfl ?_)
        refine l_pure rfl (s_ixo (i := i)  rfl rfl (by omega) (by first | omega | (simp; done) | (simp; omega)) si_25 ?_)
        refine l_heavy rfl (s_stE (k := 6) (i := i) (enc := enI) (baQ q i) (fun _ => rfl)  rfl rfl vi_2 hS rfl (by first | omega | simp) (by first | omega | (simp; done) | (simp; omega)) rfl rfl ?_)
        intro wz18 hS
        refine l_nil ?_
        repeat (with_reducible first | refine c_seq ?_ | refine c_block ?_ | refine c_skip ?_ | refine x_then ?_ | refine x_block ?_)
        replace hS : St w _ ((b12, 37, encR (ofQ (frQ q i))) :: (b11, 37, encR (ofQ (baQ q i : Rat))) :: (b10, 37, encR (l.getD i zRR)) :: [(b8, 3, (fill n i (fun j : Nat => (j : Int)) 0).flatMap enI), (b7, 22, [.slice (some ⟨bF, 0, none⟩) n n]), (bF, 37, (fill n i (fun j => ofQ (frQ q j)) zRR).flatMap encR), (b6, 2, ((fill n i (baQ q) 0).set i (baQ q i)).flatMap enI)]) := hS
        rw [g3] at hS
        repeat (with_reducible first | refine c_seq ?_ | refine c_block ?_ | refine c_skip ?_ | refine x_then ?_ | refine x_block ?_)
        refine c_reg ?_
        refine l_read rfl (s_ldo (k := 4)  hk17_7 vi_22 hS rfl rfl rfl (.inr rfl) ?_)
        refine l_pure rfl (s_move  hk17_9 ?_)
        refine l_pure rfl (s_move  hk17_8 ?_)
        refine l_pure rfl (s_move  hk17_9 ?_)
        refine l_read rfl (s_ldo (k := 0)  hk17_12 vi_37 hS rfl rfl rfl (.inl rfl) ?_)
        refine l_pure rfl (s_move  hk17_9 ?_)
        refine l_pure rfl (s_ixo (i := i)  rfl rfl (by omega) (by first | omega | (simp; done) | (simp; omega)) si_22 ?_)
        refine l_heavy rfl (s_stE (k := 5) (i := i) (enc := encR) (ofQ (frQ q i)) (fun _ => rfl)  rfl rfl vi_37 hS rfl (by first | omega | simp) (by first | omega | (simp; done) | (simp; omega)) rfl rfl ?_)
        intro wz19 hS
        refine l_pure rfl (s_ixo (i := i)  rfl rfl (by omega) (by first | omega | (simp; done) | (simp; omega)) si_65 ?_)
        refine l_heavy rfl (s_stE (k := 3) (i := i) (enc := enI) (i : Int) (fun _ => rfl)  rfl rfl vi_3 hS rfl (by first | omega | simp) (by first | omega | (simp; done) | (simp; omega)) rfl rfl ?_)
        intro wz20 hS
        refine l_nil ?_
        repeat (with_reducible first | refine c_seq ?_ | refine c_block ?_ | refine c_skip ?_ | refine x_then ?_ | refine x_block ?_)
        replace hS : St w _ ((b12, 37, encR (ofQ (frQ q i))) :: (b11, 37, encR (ofQ (baQ q i : Rat))) :: (b10, 37, encR (l.getD i zRR)) :: [(b8, 3, ((fill n i (fun j : Nat => (j : Int)) 0).set i (i : Int)).flatMap enI), (b7, 22, [.slice (some ⟨bF, 0, none⟩) n n]), (bF, 37, ((fill n i (fun j => ofQ (frQ q j)) zRR).set i (ofQ (frQ q i))).flatMap encR), (b6, 2, (fill n (i + 1) (baQ q) 0).flatMap enI)]) := hS
        rw [g1, g2] at hS
        repeat (with_reducible first | refine c_seq ?_ | refine c_block ?_ | refine c_skip ?_ | refine x_then ?_ | refine x_block ?_)
        refine c_reg ?_
        refine l_pure rfl (s_move  hk17_4 ?_)
        refine l_pure rfl (s_move  hk17_6 ?_)
        refine l_pure rfl (s_move  hk17_9 ?_)
        refine l_pure rfl (s_ixo (i := i)  rfl rfl (by omega) (by first | omega | (simp; done) | (simp; omega)) si_25 ?_)
        refine l_read rfl (s_ldE (k := 6) (i := i) (enc := enI) 0 (fun _ => rfl)  rfl vi_2 hS rfl (by first | omega | simp) (by first | omega | (simp; done) | (simp; omega)) rfl (.inr rfl) ?_)
        refine l_pure rfl (s_sub  rfl rfl (r := (T - sumZ (baQ q) (i + 1))) (by rw [g4]; exact wr_i64 _ ⟨by omega, by omega, by omega⟩) ?_)
        refine l_pure rfl (s_asg  rfl ?_)
        refine l_nil ?_
        repeat (with_reducible first | refine c_seq ?_ | refine c_block ?_ | refine c_skip ?_ | refine x_then ?_ | refine x_block ?_)
        refine c_reg ?_
        refine l_pure rfl (s_add  hk17_40 rfl (IntWalk.i64_in _ (by omega)) ?_)
        refine l_pure rfl (s_move  rfl ?_)
        refine l_nil ?_
        repeat (with_reducible first | refine c_seq ?_ | refine c_block ?_ | refine c_skip ?_ | refine x_then ?_ | refine x_block ?_)
        exact ⟨i + 1, _, rfl, ⟨hlt, rfl, by assumption, by assumption, by assumption, by assumption, by assumption, vi rfl (by omega), hS.drop (((List.sublist_cons_self _ _).trans (List.sublist_cons_self _ _)).trans (List.sublist_cons_self _ _))⟩, by omega⟩
      · refine c_no rfl (decide_eq_false (by omega)) ?_
        repeat (with_reducible first | refine c_seq ?_ | refine c_block ?_ | refine c_skip ?_ | refine x_then ?_ | refine x_block ?_)
        refine c_exit ?_
        repeat (with_reducible first | refine x_then_exit ?_ | refine x_block_exit ?_ | refine x_block_pass rfl ?_)
        repeat (with_reducible first | refine c_seq ?_ | refine c_block ?_ | refine c_skip ?_ | refine x_then ?_ | refine x_block ?_)
        obtain rfl : i = n := by omega
        exact ⟨_, rfl, h4, h6, h7, h8, hS⟩
    clear hS
    rintro ρ w2 ⟨h4, h6, h7, h8, hS⟩
    rw [← hlf] at h4
    replace hS : St w w2 [(b8, 3, (zI (List.range n)).flatMap enI), (b7, 22, [.slice (some ⟨bF, 0, none⟩) n n]), (bF, 37, (tab n fun j => ofQ (frQ q j)).flatMap encR), (b6, 2, (tab n (baQ q)).flatMap enI)] := by
      rw [fill_all, fill_all, fill_all] at hS; exact hS
    have hc : CmpOk 68 [.pointer (some ⟨b7, 0, none⟩)] (cmpB (frQ q)) (zI (List.range n)) w b8 3 [(b7, 22, [.slice (some ⟨bF, 0, none⟩) n n]), (bF, 37, (tab n fun j => ofQ (frQ q j)).flatMap encR), (b6, 2, (tab n (baQ q)).flatMap enI)] := by
      refine ⟨Tryz.call68, fun cs' u v' w' hS' hx hy => ?_⟩
      obtain ⟨i, hi, rfl⟩ := List.mem_map.1 hx
      obtain ⟨k, hk, rfl⟩ := List.mem_map.1 hy
      have hsl := hS'.sle (k := 2) (n := n) (cap := n) rfl encR_len (by rw [tab_len]; omega) (Nat.le_refl _) (by omega)
      rw [List.take_of_length_le (by rw [tab_len]; omega)] at hsl
      exact round1_ok b7 i k n (2 * K + 4) _ (frQ q) w' (hS'.at (k := 1) rfl 0 1) hsl (List.mem_range.1 hi) (List.mem_range.1 hk) hLf (by omega)
    have hsort := SortStable_ok (zI (List.range n)) hc [] n n (by rw [zI_len, List.length_range]) (by omega) w2 (by rw [List.append_nil]; exact hS)
    rw [sort_B, hJd, List.append_nil] at hsort
    have hJl : J.length = n := hord.len
    have hroom := lf_room hord
    have hl0 := lfQ_nonneg q n
    obtain ⟨m, hm⟩ : ∃ m, m = (lfQ q n).toNat := ⟨_, rfl⟩
    have hlm : lfQ q n = (m : Int) := by omega
    have hmn : m ≤ n := by rw [hm]; exact hroom.1
    rw [hlm] at h4
    have hrm : resQ q J n = rnd (baQ q) J m := by rw [hm]; rfl
    rw [hrm] at hrb ⊢
    repeat (with_reducible first | refine c_seq ?_ | refine c_block ?_ | refine c_skip ?_ | refine x_then ?_ | refine x_block ?_)
    refine c_reg ?_
    refine l_pure rfl (s_move  h8 ?_)
    refine l_pure rfl (s_mkf1  h7 ?_)
    refine l_heavy rfl (s_call Tryz.call45 rfl (hsort) ?_)
    rintro r w3 ⟨rfl, hS3⟩
    clear hS
    have hS := hS3
    refine l_nil ?_
    repeat (with_reducible first | refine c_seq ?_ | refine c_block ?_ | refine c_skip ?_ | refine x_then ?_ | refine x_block ?_)
    refine c_forget (fun ρ' => ρ' 4 = .int .i64 (m : Int) ∧ ρ' 6 = .slice (some ⟨b6, 0, none⟩) n n ∧ ρ' 8 = .slice (some ⟨b8, 0, none⟩) n n ∧ True) ⟨h4, h6, h8, trivial⟩ ?_
    rintro ρk21 ⟨hk21_4, hk21_6, hk21_8, -⟩
    repeat (with_reducible first | refine c_seq ?_ | refine c_block ?_ | refine c_skip ?_ | refine x_then ?_ | refine x_block ?_)
    refine c_reg ?_
    refine l_pure rfl (s_move  hk21_8 ?_)
    refine l_pure rfl (s_move  hk21_4 ?_)
    refine l_pure rfl (s_move  hk21_8 ?_)
    refine l_pure rfl (s_leno  rfl ⟨_, Tryz.underlying65⟩ ?_)
    refine l_pure rfl (s_min  rfl rfl ?_)
    refine l_pure rfl (s_suboh (hi := m)  rfl rfl (by omega) (by omega) si_65 ?_)
    refine l_pure rfl (s_leno  rfl ⟨_, Tryz.underlying65⟩ ?_)
    refine l_pure rfl (s_move  rfl ?_)
    refine l_nil ?_
    repeat (with_reducible first | refine c_seq ?_ | refine c_block ?_ | refine c_skip ?_ | refine x_then ?_ | refine x_block ?_)
    replace hS : St w w3 [(b8, 3, (zI J).flatMap enI), (b7, 22, [.slice (some ⟨bF, 0, none⟩) n n]), (bF, 37, (tab n fun j => ofQ (frQ q j)).flatMap encR), (b6, 2, (tab n (rnd (baQ q) J 0)).flatMap enI)] := by rw [rnd_zero]; exact hS
    refine c_loop (σ := Nat) (fun i ρ w' => i ≤ m ∧ ρ 6 = .slice (some ⟨b6, 0, none⟩) n n ∧ ρ 81 = .slice (some ⟨b8, 0, none⟩) m n ∧ ρ 82 = .int .i64 m ∧ ρ 83 = .int .i64 i ∧
        St w w' [(b8, 3, (zI J).flatMap enI), (b7, 22, [.slice (some ⟨bF, 0, none⟩) n n]), (bF, 37, (tab n fun j => ofQ (frQ q j)).flatMap encR), (b6, 2, (tab n (rnd (baQ q) J i)).flatMap enI)]) (fun i => m - i) 0
      ⟨Nat.zero_le _, by assumption, rfl, rfl, rfl, hS⟩ ?_
    clear hS h4 h6 h7 h8
    rintro i ρ w4 ⟨hi, h6, h81, h82, h83, hS⟩
    repeat (with_reducible first | refine c_seq ?_ | refine c_block ?_ | refine c_skip ?_ | refine x_then ?_ | refine x_block ?_)
    refine c_reg ?_
    refine l_pure rfl (s_lss  h83 h82 ?_)
    refine l_nil ?_
    repeat (with_reducible first | refine c_seq ?_ | refine c_block ?_ | refine c_skip ?_ | refine x_then ?_ | refine x_block ?_)
    by_cases hlt : i < m
    · refine c_yes rfl (decide_eq_true (by omega)) ?_
      repeat (with_reducible first | refine c_seq ?_ | refine c_block ?_ | refine c_skip ?_ | refine x_then ?_ | refine x_block ?_)
      have hzg := zI_get J (k := i) (by omega)
      have hjn := hord.lt (k := i) (by omega)
      have htl := tab_len n (rnd (baQ q) J i)
      have hzl := zI_len J
      have hra := rnd_at (ba := baQ q) hord.nodup (k := i) (by omega)
      have hrs := rnd_set (ba := baQ q) (l := J) (n := n) (k := i) (by omega)
      have hbj := hbb (J.getD i 0) hjn
      obtain ⟨j, hj⟩ : ∃ j, j = J.getD i 0 := ⟨_, rfl⟩
      rw [← hj] at hzg hjn hra hrs hbj
      have htg : (tab n (rnd (baQ q) J i)).getD j 0 = baQ q j := by rw [tab_get _ _ hjn, hra]
      repeat (with_reducible first | refine c_seq ?_ | refine c_block ?_ | refine c_skip ?_ | refine x_then ?_ | refine x_block ?_)
      refine c_reg ?_
      refine l_pure rfl (s_ixo (i := i)  h81 h83 (by omega) (by omega) si_65 ?_)
      refine l_read rfl (s_ldE (k := 0) (i := i) (enc := enI) 0 (fun _ => rfl)  rfl vi_3 hS rfl (by first | omega | simp) (by omega) rfl (.inr rfl) ?_)
      refine l_pure rfl (s_asg  rfl ?_)
      refine l_nil ?_
      repeat (with_reducible first | refine c_seq ?_ | refine c_block ?_ | refine c_skip ?_ | refine x_then ?_ | refine x_block ?_)
      rw [hzg]
      repeat (with_reducible first | refine c_seq ?_ | refine c_block ?_ | refine c_skip ?_ | refine x_then ?_ | refine x_block ?_)
      refine c_reg ?_
      refine l_pure rfl (s_move  h6 ?_)
      refine l_pure rfl (s_move  rfl ?_)
      refine l_pure rfl (s_ixo (i := j)  rfl rfl (by omega) (by first | omega | (simp; done) | (simp; omega)) si_25 ?_)
      refine l_read rfl (s_ldE (k := 3) (i := j) (enc := enI) 0 (fun _ => rfl)  rfl vi_2 hS rfl (by first | omega | simp) (by first | omega | (simp; done) | (simp; omega)) rfl (.inr rfl) ?_)
      refine l_pure rfl (s_add  rfl rfl (r := (baQ q j + 1)) (by rw [htg]; exact wr_i64 _ ⟨rfl, by omega, by omega⟩) ?_)
      refine l_pure rfl (s_ixo (i := j)  rfl rfl (by omega) (by first | omega | (simp; done) | (simp; omega)) si_25 ?_)
      refine l_heavy rfl (s_stE (k := 3) (i := j) (enc := enI) (baQ q j + 1) (fun _ => rfl)  rfl rfl vi_2 hS rfl (by first | omega | simp) (by first | omega | (simp; done) | (simp; omega)) rfl rfl ?_)
      intro wz22 hS
      refine l_nil ?_
      repeat (with_reducible first | refine c_seq ?_ | refine c_block ?_ | refine c_skip ?_ | refine x_then ?_ | refine x_block ?_)
      replace hS : St w _ [(b8, 3, (zI J).flatMap enI), (b7, 22, [.slice (some ⟨bF, 0, none⟩) n n]), (bF, 37, (tab n fun j => ofQ (frQ q j)).flatMap encR), (b6, 2, ((tab n (rnd (baQ q) J i)).set j (baQ q j + 1)).flatMap enI)] := hS
      rw [hrs] at hS
      repeat (with_reducible first | refine c_seq ?_ | refine c_block ?_ | refine c_skip ?_ | refine x_then ?_ | refine x_block ?_)
      refine c_reg ?_
      refine l_pure rfl (s_add  h83 rfl (IntWalk.i64_in _ (by omega)) ?_)
      refine l_pure rfl (s_move  rfl ?_)
      refine l_nil ?_
      repeat (with_reducible first | refine c_seq ?_ | refine c_block ?_ | refine c_skip ?_ | refine x_then ?_ | refine x_block ?_)
      exact ⟨i + 1, _, rfl, ⟨hlt, by assumption, by assumption, by assumption, vi rfl (by omega), hS⟩, by omega⟩
    · refine c_no rfl (decide_eq_false (by omega)) ?_
      repeat (with_reducible first | refine c_seq ?_ | refine c_block ?_ | refine c_skip ?_ | refine x_then ?_ | refine x_block ?_)
      refine c_exit ?_
      repeat (with_reducible first | refine x_then_exit ?_ | refine x_block_exit ?_ | refine x_block_pass rfl ?_)
      repeat (with_reducible first | refine c_seq ?_ | refine c_block ?_ | refine c_skip ?_ | refine x_then ?_ | refine x_block ?_)
      obtain rfl : i = m := by omega
      repeat (with_reducible first | refine c_seq ?_ | refine c_block ?_ | refine c_skip ?_ | refine x_then ?_ | refine x_block ?_)
      refine c_reg ?_
      refine l_pure rfl (s_move  h6 ?_)
      refine l_pure rfl (s_asg  rfl ?_)
      refine l_pure rfl (s_asg  rfl ?_)
      refine l_nil ?_
      repeat (with_reducible first | refine c_seq ?_ | refine c_block ?_ | refine c_skip ?_ | refine x_then ?_ | refine x_block ?_)
      refine c_ret ?_
      repeat (with_reducible first | refine x_then_ret ?_ | refine x_block_ret ?_)
      refine r_two rfl rfl rfl ?_
      exact .inr ⟨hz, b6, rfl, hS.drop (((List.sublist_cons_self _ _).trans (List.sublist_cons_self _ _)).trans (List.sublist_cons_self _ _))⟩
  · have hN : cN (sumQ (l.map toQ)) = 0 := by unfold cN; rw [← he, if_neg hz]
    rw [hN]
    refine c_yes rfl (decide_eq_true hz) ?_
    repeat (with_reducible first | refine c_seq ?_ | refine c_block ?_ | refine c_skip ?_ | refine x_then ?_ | refine x_block ?_)
    refine c_reg ?_
    refine l_pure rfl (s_move  rfl ?_)
    refine l_pure rfl (s_asg  rfl ?_)
    refine l_pure rfl (s_asg  rfl ?_)
    refine l_nil ?_
    repeat (with_reducible first | refine c_seq ?_ | refine c_block ?_ | refine c_skip ?_ | refine x_then ?_ | refine x_block ?_)
    refine c_ret ?_
    repeat (with_reducible first | refine x_then_ret ?_ | refine x_block_ret ?_)
    refine r_two rfl rfl rfl ?_
    exact .inl ⟨hz, rfl, hS.below⟩
end Go.Proofs.YtmapmdldlcfjhaaGreatDoor
