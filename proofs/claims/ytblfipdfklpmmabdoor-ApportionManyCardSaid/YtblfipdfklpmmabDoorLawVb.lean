/-
  Walks: dividing a total in proportion to weights (program); comparing and adding lists.
-/
import Derived.Test.YtblfipdfklpmmabDoorLawVa
namespace Go.Proofs.YtblfipdfklpmmabDoor
open Go Go.RowKit Go.Sx

def shQ (total : Int) (ws : List RR) (i : Nat) : Rat := (total : Rat) / sumQ (ws.map toQ) * toQ (ws.getD i zRR)
def shL (total : Int) (ws : List RR) : List RR := tab ws.length fun i => ofQ (shQ total ws i)
def spE (total : Int) (ws : List RR) : Int := if 1024 < ws.length then 2 else if total < 0 ∨ negs ws = true then 7 else if sumQ (ws.map toQ) = 0 then 6 else lgE (shL total ws)
def spL (total : Int) (ws : List RR) : List Int := if spE total ws = 0 then lgL (shL total ws) else []
theorem L_i64 {n : Int} (h1 : -9223372036854775808 ≤ n) (h2 : n ≤ 9223372036854775807) : L (n : Rat) ≤ 8 := by
  refine L_int _ ?_ (by decide)
  have : (256 : Nat) ^ 8 = 18446744073709551616 := by decide
  omega
theorem L_sh {total : Int} {ws : List RR} {K : Nat} (h1 : -9223372036854775808 ≤ total) (h2 : total ≤ 9223372036854775807) (hl : RB K ws) (h20 : ws.length ≤ 20) {i : Nat} (hi : i < ws.length) : L (shQ total ws i) ≤ 21 * K + 29 := by
  have hsl := sumL_le hl
  have hsl2 : ws.length * (K + 1) ≤ 20 * (K + 1) := Nat.mul_le_mul_right _ h20
  have hLs := L_sumQ ws
  have := L_i64 h1 h2
  have := L_div (total : Rat) (sumQ (ws.map toQ))
  have := L_mul ((total : Rat) / sumQ (ws.map toQ)) (toQ (ws.getD i zRR))
  have := L_toQ (ws.getD i zRR)
  have := hl _ (getD_mem ws i zRR hi)
  unfold shQ
  omega
theorem shL_RB {total : Int} {ws : List RR} {K : Nat} (h1 : -9223372036854775808 ≤ total) (h2 : total ≤ 9223372036854775807) (hl : RB K ws) (h20 : ws.length ≤ 20) : RB (21 * K + 29) (shL total ws) := fun r hr => by
  obtain ⟨j, hj, rfl⟩ := tab_mem hr
  rw [Lr_ofQ]; exact L_sh h1 h2 hl h20 hj
theorem shL_len (total : Int) (ws : List RR) : (shL total ws).length = ws.length := tab_len _ _
set_option maxHeartbeats 2000000 in
theorem Split_ok (total : Int) (v : Value) (l : List RR) (K : Nat) (w : World) (h1 : -9223372036854775808 ≤ total) (h2 : total ≤ 9223372036854775807) (hv : Sl encR 3 w v l) (hl : RB K l) (h20 : l.length ≤ 20) (hK : 3000 * K + 4000 ≤ MX) :
    Ret Tryd.prog 6 #[.int .i64 total, v] w fun r w' => (∃ v', r = .tuple #[v', .int .i64 (spE total l)] ∧ Sl enI 1 w' v' (spL total l)) ∧ Below w.heap.size w w' := by
  have hM : MX = 1099511627776 := rfl
  have hno : spE total l ≠ 0 → spL total l = [] := fun h => if_neg h
  have hsl := sumL_le hl
  have hsl2 : l.length * (K + 1) ≤ 20 * (K + 1) := Nat.mul_le_mul_right _ h20
  have hLs := L_sumQ l
  have hLt := L_i64 h1 h2
  have hsum := fun w h => QSum_ok v l w h (by omega)
  have hS := St.init w
  refine enter Tryd.func6 rfl Tryd.ntmps6 rfl ?_
  repeat (with_reducible first | refine c_seq ?_ | refine c_block ?_ | refine c_skip ?_ | refine x_then ?_ | refine x_block ?_)
  refine c_reg ?_
  refine l_pure rfl (s_asg  rfl ?_)
  refine l_pure rfl (s_asg  rfl ?_)
  refine l_nil ?_
  repeat (with_reducible first | refine c_seq ?_ | refine c_block ?_ | refine c_skip ?_ | refine x_then ?_ | refine x_block ?_)
  refine c_reg ?_
  refine l_pure rfl (s_move  rfl ?_)
  refine l_pure rfl (s_lenr  rfl (hv.below hS.below) ⟨_, Tryd.underlying23⟩ ?_)
  refine l_pure rfl (s_gtr  rfl rfl ?_)
  refine l_nil ?_
  repeat (with_reducible first | refine c_seq ?_ | refine c_block ?_ | refine c_skip ?_ | refine x_then ?_ | refine x_block ?_)
  refine c_no rfl (decide_eq_false (by omega)) ?_
  repeat (with_reducible first | refine c_seq ?_ | refine c_block ?_ | refine c_skip ?_ | refine x_then ?_ | refine x_block ?_)
  by_cases hneg : total < 0
  · have he : spE total l = 7 := by unfold spE; rw [if_neg (by omega), if_pos (.inl hneg)]
    repeat (with_reducible first | refine c_seq ?_ | refine c_block ?_ | refine c_skip ?_ | refine x_then ?_ | refine x_block ?_)
    refine c_reg ?_
    refine l_pure rfl (s_move  rfl ?_)
    refine l_pure rfl (s_lss  rfl rfl ?_)
    refine l_pure rfl (s_move  rfl ?_)
    refine l_no (gno_yes 16 (by kernel_rfl) rfl (decide_eq_true hneg)) ?_
    refine l_no (gno_yes 16 (by kernel_rfl) rfl (decide_eq_true hneg)) ?_
    refine l_pure rfl (s_pick (vb rfl (decide_eq_true hneg)) rfl ?_)
    refine l_nil ?_
    repeat (with_reducible first | refine c_seq ?_ | refine c_block ?_ | refine c_skip ?_ | refine x_then ?_ | refine x_block ?_)
    refine c_yes rfl (rfl) ?_
    repeat (with_reducible first | refine c_seq ?_ | refine c_block ?_ | refine c_skip ?_ | refine x_then ?_ | refine x_block ?_)
    refine c_reg ?_
    refine l_pure rfl (s_asg  rfl ?_)
    refine l_pure rfl (s_asg  rfl ?_)
    refine l_nil ?_
    repeat (with_reducible first | refine c_seq ?_ | refine c_block ?_ | refine c_skip ?_ | refine x_then ?_ | refine x_block ?_)
    refine c_ret ?_
    repeat (with_reducible first | refine x_then_ret ?_ | refine x_block_ret ?_)
    refine r_two rfl rfl rfl ?_
    refine ⟨⟨_, by rw [he]; rfl, ?_⟩, hS.below⟩
    rw [hno (by rw [he]; decide)]; exact Sl.nil _ _ _
  repeat (with_reducible first | refine c_seq ?_ | refine c_block ?_ | refine c_skip ?_ | refine x_then ?_ | refine x_block ?_)
  refine c_reg ?_
  refine l_pure rfl (s_move  rfl ?_)
  refine l_pure rfl (s_lss  rfl rfl ?_)
  refine l_pure rfl (s_move  rfl ?_)
  refine l_pure (gd_yes 16 (by kernel_rfl) rfl (decide_eq_false hneg)) (s_move  rfl ?_)
  refine l_heavy (gd_yes 16 (by kernel_rfl) rfl (decide_eq_false hneg)) (s_call Tryd.call10 rfl (hasNegative_ok v l _ (hv.below hS.below) (RB_mono hl (by omega))) ?_)
  rintro r w2 ⟨rfl, hB2⟩
  replace hS := hS.grow hB2
  refine l_pure rfl (s_pick (vb rfl (decide_eq_false hneg)) rfl ?_)
  refine l_nil ?_
  repeat (with_reducible first | refine c_seq ?_ | refine c_block ?_ | refine c_skip ?_ | refine x_then ?_ | refine x_block ?_)
  cases hn : negs l with
  | true =>
    have he : spE total l = 7 := by unfold spE; rw [if_neg (by omega), if_pos (.inr hn)]
    refine c_yes rfl (rfl) ?_
    repeat (with_reducible first | refine c_seq ?_ | refine c_block ?_ | refine c_skip ?_ | refine x_then ?_ | refine x_block ?_)
    refine c_reg ?_
    refine l_pure rfl (s_asg  rfl ?_)
    refine l_pure rfl (s_asg  rfl ?_)
    refine l_nil ?_
    repeat (with_reducible first | refine c_seq ?_ | refine c_block ?_ | refine c_skip ?_ | refine x_then ?_ | refine x_block ?_)
    refine c_ret ?_
    repeat (with_reducible first | refine x_then_ret ?_ | refine x_block_ret ?_)
    refine r_two rfl rfl rfl ?_
    refine ⟨⟨_, by rw [he]; rfl, ?_⟩, hS.below⟩
    rw [hno (by rw [he]; decide)]; exact Sl.nil _ _ _
  | false =>
  have hor : ¬ (total < 0 ∨ negs l = true) := by rw [hn]; simp; omega
  refine c_no rfl (rfl) ?_
  repeat (with_reducible first | refine c_seq ?_ | refine c_block ?_ | refine c_skip ?_ | refine x_then ?_ | refine x_block ?_)
  refine c_reg ?_
  refine l_pure rfl (s_move  rfl ?_)
  refine l_heavy rfl (s_call Tryd.call4 rfl (QInt_ok total _ h1 h2) ?_)
  rintro _ wc1 ⟨rfl, hBc1⟩
  replace hS := hS.grow hBc1
  refine l_pure rfl (s_move  rfl ?_)
  refine l_heavy rfl (s_call Tryd.call12 rfl (hsum _ (hv.below hS.below)) ?_)
  rintro _ wc2 ⟨rfl, hBc2⟩
  replace hS := hS.grow hBc2
  by_cases hs0 : sumQ (l.map toQ) = 0
  · have he : spE total l = 6 := by unfold spE; rw [if_neg (by omega), if_neg hor, if_pos hs0]
    refine l_heavy rfl (s_call Tryd.call18 rfl (QDivide0_ok (ofQ (total : Rat)) (ofQ (sumQ (l.map toQ))) _ (by rw [Lr_ofQ, Lr_ofQ]; omega) (by rw [toQ_ofQ]; exact hs0)) ?_)
    rintro r w3 ⟨rfl, hB3⟩
    replace hS := hS.grow hB3
    refine l_pure rfl (s_move  rfl ?_)
    refine l_pure rfl (s_ext  rfl rfl ?_)
    refine l_pure rfl (s_ext  rfl rfl ?_)
    refine l_heavy rfl (s_alloc  vi_25 hS ?_)
    intro b3 wz4 hS hBz4
    refine l_heavy rfl (s_sta (k := 0)  rfl rfl vi_25 hS rfl rfl rfl (Nat.le_of_ble_eq_true rfl) rfl ?_)
    intro wz5 hS
    refine l_pure rfl (s_asg  rfl ?_)
    refine l_nil ?_
    repeat (with_reducible first | refine c_seq ?_ | refine c_block ?_ | refine c_skip ?_ | refine x_then ?_ | refine x_block ?_)
    refine c_reg ?_
    refine l_pure rfl (s_move  rfl ?_)
    refine l_pure rfl (s_not  rfl ?_)
    refine l_nil ?_
    repeat (with_reducible first | refine c_seq ?_ | refine c_block ?_ | refine c_skip ?_ | refine x_then ?_ | refine x_block ?_)
    refine c_yes rfl (rfl) ?_
    repeat (with_reducible first | refine c_seq ?_ | refine c_block ?_ | refine c_skip ?_ | refine x_then ?_ | refine x_block ?_)
    refine c_reg ?_
    refine l_pure rfl (s_asg  rfl ?_)
    refine l_pure rfl (s_asg  rfl ?_)
    refine l_nil ?_
    repeat (with_reducible first | refine c_seq ?_ | refine c_block ?_ | refine c_skip ?_ | refine x_then ?_ | refine x_block ?_)
    refine c_ret ?_
    repeat (with_reducible first | refine x_then_ret ?_ | refine x_block_ret ?_)
    refine r_two rfl rfl rfl ?_
    refine ⟨⟨_, by rw [he]; rfl, ?_⟩, hS.below⟩
    rw [hno (by rw [he]; decide)]; exact Sl.nil _ _ _
  · have he : spE total l = lgE (shL total l) := by unfold spE; rw [if_neg (by omega), if_neg hor, if_neg hs0]
    have hsp : spL total l = lgL (shL total l) := by
      unfold spL
      by_cases g : spE total l = 0
      · rw [if_pos g]
      · rw [if_neg g]
        rw [he] at g
        exact (if_neg g).symm
    rw [he, hsp]
    have hdv := fun w => QDivide_ok (ofQ (total : Rat)) (ofQ (sumQ (l.map toQ))) w (by rw [Lr_ofQ, Lr_ofQ]; omega) (by rw [toQ_ofQ]; exact hs0)
    rw [toQ_ofQ, toQ_ofQ] at hdv
    obtain ⟨u, hu⟩ : ∃ u, u = (total : Rat) / sumQ (l.map toQ) := ⟨_, rfl⟩
    have hLu : L u ≤ 20 * K + 29 := by
      have := L_div (total : Rat) (sumQ (l.map toQ))
      rw [hu]; omega
    rw [← hu] at hdv
    have hsh : ∀ i, shQ total l i = u * toQ (l.getD i zRR) := fun i => by rw [hu]; rfl
    obtain ⟨n, hn'⟩ : ∃ n, n = l.length := ⟨_, rfl⟩
    have hshL : shL total l = tab n fun i => ofQ (shQ total l i) := by rw [hn']; rfl
    refine l_heavy rfl (s_call Tryd.call18 rfl (hdv _) ?_)
    rintro r w3 ⟨rfl, hB3⟩
    replace hS := hS.grow hB3
    refine l_pure rfl (s_move  rfl ?_)
    refine l_pure rfl (s_ext  rfl rfl ?_)
    refine l_pure rfl (s_ext  rfl rfl ?_)
    refine l_heavy rfl (s_alloc  vi_25 hS ?_)
    intro b6 wz6 hS hBz6
    refine l_heavy rfl (s_sta (k := 0)  rfl rfl vi_25 hS rfl rfl rfl (Nat.le_of_ble_eq_true rfl) rfl ?_)
    intro wz7 hS
    refine l_pure rfl (s_asg  rfl ?_)
    refine l_nil ?_
    repeat (with_reducible first | refine c_seq ?_ | refine c_block ?_ | refine c_skip ?_ | refine x_then ?_ | refine x_block ?_)
    replace hS : St w _ [(b6, 25, encR (ofQ u))] := hS
    repeat (with_reducible first | refine c_seq ?_ | refine c_block ?_ | refine c_skip ?_ | refine x_then ?_ | refine x_block ?_)
    refine c_reg ?_
    refine l_pure rfl (s_move  rfl ?_)
    refine l_pure rfl (s_not  rfl ?_)
    refine l_nil ?_
    repeat (with_reducible first | refine c_seq ?_ | refine c_block ?_ | refine c_skip ?_ | refine x_then ?_ | refine x_block ?_)
    refine c_no rfl (rfl) ?_
    repeat (with_reducible first | refine c_seq ?_ | refine c_block ?_ | refine c_skip ?_ | refine x_then ?_ | refine x_block ?_)
    refine c_reg ?_
    refine l_pure rfl (s_move  rfl ?_)
    refine l_pure rfl (s_lenr  rfl (hv.below hS.below) ⟨_, Tryd.underlying23⟩ ?_)
    refine l_heavy rfl (s_makeE (enc := encR) (n := n) zRR  rfl rfl si_23 rfl (by omega) (by omega) (by omega) (by omega) hS ?_)
    intro b8 wz8 hS hBz8
    refine l_pure rfl (s_asg  rfl ?_)
    refine l_nil ?_
    repeat (with_reducible first | refine c_seq ?_ | refine c_block ?_ | refine c_skip ?_ | refine x_then ?_ | refine x_block ?_)
    replace hS : St w _ [(b8, 25, (List.replicate n zRR).flatMap encR), (b6, 25, encR (ofQ u))] := hS
    repeat (with_reducible first | refine c_seq ?_ | refine c_block ?_ | refine c_skip ?_ | refine x_then ?_ | refine x_block ?_)
    refine c_forget (fun ρ' => ρ' 1 = v ∧ ρ' 6 = .pointer (some ⟨b6, 0, none⟩) ∧ ρ' 8 = .slice (some ⟨b8, 0, none⟩) n n ∧ True) ⟨rfl, rfl, rfl, trivial⟩ ?_
    rintro ρk9 ⟨hk9_1, hk9_6, hk9_8, -⟩
    repeat (with_reducible first | refine c_seq ?_ | refine c_block ?_ | refine c_skip ?_ | refine x_then ?_ | refine x_block ?_)
    refine c_reg ?_
    refine l_pure rfl (s_move  hk9_1 ?_)
    refine l_pure rfl (s_lenr  rfl (hv.below hS.below) ⟨_, Tryd.underlying23⟩ ?_)
    refine l_pure rfl (s_move  rfl ?_)
    refine l_nil ?_
    repeat (with_reducible first | refine c_seq ?_ | refine c_skip ?_ | refine x_then ?_ | refine x_block ?_)
    refine c_cut1 (fun ρ w' => ρ 8 = .slice (some ⟨b8, 0, none⟩) n n ∧ St w w' [(b8, 25, (tab n fun i => ofQ (shQ total l i)).flatMap encR), (b6, 25, encR (ofQ u))]) ?_ ?_
    · repeat (with_reducible first | refine c_seq ?_ | refine c_block ?_ | refine c_skip ?_ | refine x_then ?_ | refine x_block ?_)
      refine c_loop (σ := Nat) (fun i ρ w' => i ≤ n ∧ ρ 6 = .pointer (some ⟨b6, 0, none⟩) ∧ ρ 8 = .slice (some ⟨b8, 0, none⟩) n n ∧ ρ 33 = v ∧ ρ 34 = .int .i64 n ∧ ρ 35 = .int .i64 i ∧ St w w' [(b8, 25, (fill n i (fun j => ofQ (shQ total l j)) zRR).flatMap encR), (b6, 25, encR (ofQ u))]) (fun i => n - i) 0
        ⟨Nat.zero_le _, by assumption, by assumption, rfl, vi rfl (by omega), rfl, (by rw [← fill_zero]; exact hS)⟩ ?_
      clear hS
      rintro i ρ w4 ⟨hi, h6, h8, h33, h34, h35, hS⟩
      repeat (with_reducible first | refine c_seq ?_ | refine c_block ?_ | refine c_skip ?_ | refine x_then ?_ | refine x_block ?_)
      refine c_reg ?_
      refine l_pure rfl (s_lss  h35 h34 ?_)
      refine l_nil ?_
      repeat (with_reducible first | refine c_seq ?_ | refine c_block ?_ | refine c_skip ?_ | refine x_then ?_ | refine x_block ?_)
      by_cases hlt : i < n
      · refine c_yes rfl (decide_eq_true (by omega)) ?_
        repeat (with_reducible first | refine c_seq ?_ | refine c_block ?_ | refine c_skip ?_ | refine x_then ?_ | refine x_block ?_)
        have f1 := fill_len n i (fun j => ofQ (shQ total l j)) zRR
        have g1 := fill_set n i (fun j => ofQ (shQ total l j)) zRR
        have hLi := hl _ (getD_mem l i zRR (by omega))
        have hmu := fun w => QMultiply_ok (ofQ u) (l.getD i zRR) w (by rw [Lr_ofQ]; omega)
        rw [toQ_ofQ, ← hsh] at hmu
        repeat (with_reducible first | refine c_seq ?_ | refine c_block ?_ | refine c_skip ?_ | refine x_then ?_ | refine x_block ?_)
        refine c_reg ?_
        refine l_pure rfl (s_move  h35 ?_)
        refine l_pure rfl (s_ixr (i := i)  h33 h35 (hv.below hS.below) (by omega) (by first | omega | (simp; done) | (simp; omega)) si_23 ?_)
        refine l_read rfl (s_lde (i := i) zRR  rfl vi_25 (hv.below hS.below) (by first | omega | (simp; done) | (simp; omega)) rfl rfl (.inl rfl) ?_)
        refine l_heavy rfl (s_alloc  vi_25 hS ?_)
        intro b10 wz10 hS hBz10
        refine l_pure rfl (s_asg  rfl ?_)
        refine l_heavy rfl (s_sta (k := 0)  rfl rfl vi_25 hS rfl rfl rfl (Nat.le_of_ble_eq_true rfl) rfl ?_)
        intro wz11 hS
        refine l_nil ?_
        repeat (with_reducible first | refine c_seq ?_ | refine c_block ?_ | refine c_skip ?_ | refine x_then ?_ | refine x_block ?_)
        replace hS : St w _ [(b10, 25, encR (l.getD i zRR)), (b8, 25, (fill n i (fun j => ofQ (shQ total l j)) zRR).flatMap encR), (b6, 25, encR (ofQ u))] := hS
        repeat (with_reducible first | refine c_seq ?_ | refine c_block ?_ | refine c_skip ?_ | refine x_then ?_ | refine x_block ?_)
        refine c_reg ?_
        refine l_pure rfl (s_move  h8 ?_)
        refine l_pure rfl (s_move  rfl ?_)
        refine l_read rfl (s_ldo (k := 2)  h6 vi_25 hS rfl rfl rfl (.inl rfl) ?_)
        refine l_read rfl (s_ldo (k := 0)  rfl vi_25 hS rfl rfl rfl (.inl rfl) ?_)
        refine l_heavy rfl (s_call Tryd.call19 rfl (hmu _) ?_)
        rintro _ wc12 ⟨rfl, hBc12⟩
        replace hS := hS.grow hBc12
        refine l_pure rfl (s_ixo (i := i)  rfl rfl (by omega) (by first | omega | (simp; done) | (simp; omega)) si_23 ?_)
        refine l_heavy rfl (s_stE (k := 1) (i := i) (enc := encR) (ofQ (shQ total l i)) (fun _ => rfl)  rfl rfl vi_25 hS rfl (by first | omega | simp) (by first | omega | (simp; done) | (simp; omega)) rfl rfl ?_)
        intro wz13 hS
        refine l_nil ?_
        repeat (with_reducible first | refine c_seq ?_ | refine c_block ?_ | refine c_skip ?_ | refine x_then ?_ | refine x_block ?_)
        replace hS : St w _ [(b10, 25, encR (l.getD i zRR)), (b8, 25, ((fill n i (fun j => ofQ (shQ total l j)) zRR).set i (ofQ (shQ total l i))).flatMap encR), (b6, 25, encR (ofQ u))] := hS
        rw [g1] at hS
        repeat (with_reducible first | refine c_seq ?_ | refine c_block ?_ | refine c_skip ?_ | refine x_then ?_ | refine x_block ?_)
        refine c_reg ?_
        refine l_pure rfl (s_add  h35 rfl (IntWalk.i64_in _ (by omega)) ?_)
        refine l_pure rfl (s_move  rfl ?_)
        refine l_nil ?_
        repeat (with_reducible first | refine c_seq ?_ | refine c_block ?_ | refine c_skip ?_ | refine x_then ?_ | refine x_block ?_)
        exact ⟨i + 1, _, rfl, ⟨hlt, by assumption, by assumption, by assumption, by assumption, vi rfl (by omega), hS.drop (List.sublist_cons_self _ _)⟩, by omega⟩
      · refine c_no rfl (decide_eq_false (by omega)) ?_
        repeat (with_reducible first | refine c_seq ?_ | refine c_block ?_ | refine c_skip ?_ | refine x_then ?_ | refine x_block ?_)
        refine c_exit ?_
        repeat (with_reducible first | refine x_then_exit ?_ | refine x_block_exit ?_ | refine x_block_pass rfl ?_)
        repeat (with_reducible first | refine c_seq ?_ | refine c_block ?_ | refine c_skip ?_ | refine x_then ?_ | refine x_block ?_)
        obtain rfl : i = n := by omega
        rw [fill_all] at hS
        exact ⟨_, rfl, h8, hS⟩
    clear hS
    rintro ρ w4 ⟨h8, hS⟩
    have hslF := hS.sle (k := 0) (n := n) (cap := n) rfl encR_len (by rw [tab_len]; omega) (Nat.le_refl _) (by omega)
    rw [List.take_of_length_le (by rw [tab_len]; omega), ← hshL] at hslF
    repeat (with_reducible first | refine c_seq ?_ | refine c_block ?_ | refine c_skip ?_ | refine x_then ?_ | refine x_block ?_)
    refine c_reg ?_
    refine l_pure rfl (s_move  h8 ?_)
    refine l_heavy rfl (s_call Tryd.call5 rfl (Largest_ok _ (shL total l) (21 * K + 29) _ hslF (shL_RB h1 h2 hl h20) (by rw [shL_len]; exact h20) (by omega)) ?_)
    rintro r w5 ⟨⟨v', rfl, hv'⟩, hB5⟩
    replace hS := hS.grow hB5
    refine l_pure rfl (s_ext  rfl rfl ?_)
    refine l_pure rfl (s_ext  rfl rfl ?_)
    refine l_pure rfl (s_asg  rfl ?_)
    refine l_pure rfl (s_asg  rfl ?_)
    refine l_nil ?_
    repeat (with_reducible first | refine c_seq ?_ | refine c_block ?_ | refine c_skip ?_ | refine x_then ?_ | refine x_block ?_)
    refine c_ret ?_
    repeat (with_reducible first | refine x_then_ret ?_ | refine x_block_ret ?_)
    refine r_two rfl rfl rfl ?_
    exact ⟨⟨_, rfl, hv'⟩, hS.below⟩
end Go.Proofs.YtblfipdfklpmmabDoor
