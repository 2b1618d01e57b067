/-
  The law that greater shares get at least as much: its walk.
-/
import Derived.Test.YtmapmdldlcfjhaaDoorLawVd
namespace Go.Proofs.YtmapmdldlcfjhaaDoor
open Go Go.RowKit Go.Sx

/-- Who gets at least as much as whom. -/
theorem order_facts {total : Int} {ws : List RR} (h0 : negs ws = false) (hs : sumQ (ws.map toQ) ≠ 0) (ht : 0 ≤ total) {i k : Nat} (hi : i < ws.length) (hk : k < ws.length) :
    (toQ (ws.getD k zRR) < toQ (ws.getD i zRR) → resA (shL total ws) k ≤ resA (shL total ws) i) ∧
    (toQ (ws.getD i zRR) = toQ (ws.getD k zRR) → i < k → resA (shL total ws) k ≤ resA (shL total ws) i ∧ resA (shL total ws) i ≤ resA (shL total ws) k + 1) := by
  have ho := ordG_ord (shL total ws)
  have hi' : i < (shL total ws).length := by rw [shL_len]; exact hi
  constructor
  · intro hlt
    by_cases htz : total = 0
    · obtain ⟨hb, _⟩ := res_facts h0 hs ht
      have b1 := hb i hi
      have b2 := hb k hk
      omega
    · refine res_mono ho hi' (.inl ?_)
      rw [shA_at hi, shA_at hk]
      have hu : 0 < (total : Rat) / sumQ (ws.map toQ) := by
        rw [Rat.div_def]
        have h1 : 0 < (total : Rat) := Rat.intCast_pos.2 (by omega)
        have h2 : 0 < (sumQ (ws.map toQ))⁻¹ := Rat.inv_pos.2 (by have := sumQ_nn h0; grind)
        exact Rat.mul_pos h1 h2
      unfold shQ
      exact Rat.mul_lt_mul_of_pos_left hlt hu
  · intro heq hik
    have hq : qA (shL total ws) i = qA (shL total ws) k := by
      rw [shA_at hi, shA_at hk]; unfold shQ; rw [heq]
    exact ⟨res_mono ho hi' (.inr ⟨hq, hik⟩), res_near ho hq⟩
set_option maxHeartbeats 2000000 in
theorem ApportionOrder_ok (t : Nat) (vl : Value) (l : List Nat) (w : World) (ht : t < 4294967296) (hl : Sl (uk .u16) 1 w vl l) (hlb : ∀ x ∈ l, x < 65536) :
    Ret Tryd.prog 4 #[.int .u32 t, vl] w fun v w' => v = .bool true ∧ Below w.heap.size w w' := by
  have hM : MX = 1099511627776 := rfl
  have hS := St.init w
  obtain ⟨ws, hws⟩ : ∃ ws, ws = amts l 12 := ⟨_, rfl⟩
  have hRB : RB 1 ws := by rw [hws]; exact amts_RB l 12
  have hwl : ws.length ≤ 12 := by rw [hws, amts_len]; omega
  have hng : negs ws = false := by rw [hws]; exact amts_negs l 12
  have hsl := sumL_le hRB
  have hsl2 : ws.length * (1 + 1) ≤ 12 * (1 + 1) := Nat.mul_le_mul_right _ hwl
  have hLs := L_sumQ ws
  obtain ⟨s, hs⟩ : ∃ s, s = sumQ (ws.map toQ) := ⟨_, rfl⟩
  obtain ⟨n, hn⟩ : ∃ n, n = ws.length := ⟨_, rfl⟩
  refine enter Tryd.func4 rfl Tryd.ntmps4 rfl ?_
  repeat (with_reducible first | refine c_seq ?_ | refine c_block ?_ | refine c_skip ?_ | refine x_then ?_ | refine x_block ?_)
  refine c_reg ?_
  refine l_pure rfl (s_asg  rfl ?_)
  refine l_nil ?_
  repeat (with_reducible first | refine c_seq ?_ | refine c_block ?_ | refine c_skip ?_ | refine x_then ?_ | refine x_block ?_)
  refine c_reg ?_
  refine l_pure rfl (s_move  rfl ?_)
  refine l_heavy rfl (s_call Tryd.call7 rfl (Amounts_ok vl l 12 _ (hl.below hS.below) hlb (by decide)) ?_)
  rintro x w1 ⟨hvx, hB1⟩
  rw [← hws] at hvx
  replace hS := hS.grow hB1
  refine l_pure rfl (s_asg  rfl ?_)
  refine l_nil ?_
  repeat (with_reducible first | refine c_seq ?_ | refine c_block ?_ | refine c_skip ?_ | refine x_then ?_ | refine x_block ?_)
  refine c_reg ?_
  refine l_pure rfl (s_move  rfl ?_)
  refine l_pure rfl (s_conv  rfl Tryd.underlying2 ⟨_, Tryd.underlying22⟩ (r := (t : Int)) (by exact wr_i64 _ ⟨rfl, by omega, by omega⟩) ?_)
  refine l_pure rfl (s_move  rfl ?_)
  refine l_heavy rfl (s_call Tryd.call8 rfl (Split_ok (t : Int) x ws 1 _ (by omega) (by omega) hvx hRB (by omega) (by omega)) ?_)
  rintro r w2 ⟨⟨va, rfl, hva⟩, hB2⟩
  replace hS := hS.grow hB2
  replace hvx := hvx.below hB2
  have hW := hS.below
  clear hS
  have hS := St.init w2
  refine l_pure rfl (s_move  rfl ?_)
  refine l_pure rfl (s_ext  rfl rfl ?_)
  refine l_pure rfl (s_ext  rfl rfl ?_)
  refine l_pure rfl (s_asg  rfl ?_)
  refine l_pure rfl (s_asg  rfl ?_)
  refine l_nil ?_
  repeat (with_reducible first | refine c_seq ?_ | refine c_block ?_ | refine c_skip ?_ | refine x_then ?_ | refine x_block ?_)
  refine c_reg ?_
  refine l_pure rfl (s_move  rfl ?_)
  refine l_pure rfl (s_neq  rfl rfl ?_)
  refine l_nil ?_
  repeat (with_reducible first | refine c_seq ?_ | refine c_block ?_ | refine c_skip ?_ | refine x_then ?_ | refine x_block ?_)
  by_cases hs0 : s = 0
  · have he : spE (t : Int) ws = 6 := sh_spE0 hng (by rw [← hs]; exact hs0) (by omega) (by omega)
    rw [he]
    have hsum := fun w h => QSum_ok x ws w h (by omega)
    rw [← hs] at hsum
    rw [← hs] at hLs
    have hsg := fun w => Sign_ok (ofQ s) w (by rw [Lr_ofQ]; omega)
    rw [toQ_ofQ] at hsg
    refine c_yes rfl (decide_eq_true (by decide)) ?_
    repeat (with_reducible first | refine c_seq ?_ | refine c_block ?_ | refine c_skip ?_ | refine x_then ?_ | refine x_block ?_)
    refine c_reg ?_
    refine l_heavy rfl (s_call Tryd.call11 rfl (Aawake_ok _) ?_)
    rintro r wa ⟨rfl, hBa⟩
    replace hS := hS.grow hBa
    refine l_pure rfl (s_move  rfl ?_)
    refine l_pure (gd_yes 23 (by kernel_rfl) rfl rfl) (s_move  rfl ?_)
    refine l_heavy (gd_yes 23 (by kernel_rfl) rfl rfl) (s_call Tryd.call9 rfl (hsum _ (hvx.below hS.below)) ?_)
    rintro r wb ⟨rfl, hBb⟩
    replace hS := hS.grow hBb
    refine l_heavy (gd_yes 23 (by kernel_rfl) rfl rfl) (s_call Tryd.call10 rfl (hsg _) ?_)
    rintro r wc ⟨rfl, hBc⟩
    replace hS := hS.grow hBc
    refine l_pure (gd_yes 23 (by kernel_rfl) rfl rfl) (s_eql  rfl rfl ?_)
    refine l_pure rfl (s_pick (vb rfl rfl) rfl ?_)
    refine l_pure rfl (s_asg  rfl ?_)
    refine l_nil ?_
    repeat (with_reducible first | refine c_seq ?_ | refine c_block ?_ | refine c_skip ?_ | refine x_then ?_ | refine x_block ?_)
    refine c_ret ?_
    repeat (with_reducible first | refine x_then_ret ?_ | refine x_block_ret ?_)
    refine r_one rfl rfl ?_
    exact ⟨vb rfl (decide_eq_true (sgnQ_zero.2 hs0)), bt hW hS.below⟩
  · have hsq : sumQ (ws.map toQ) ≠ 0 := by rw [← hs]; exact hs0
    have he : spE (t : Int) ws = 0 := sh_spE hng hsq (by omega) (by omega) (by omega)
    have hL0 : spL (t : Int) ws = tab ws.length (resA (shL (t : Int) ws)) := sh_spL hng hsq (by omega) (by omega) (by omega)
    obtain ⟨hrb, hrs⟩ := res_facts (total := (t : Int)) hng hsq (by omega)
    have hof := fun i k hi hk => order_facts (total := (t : Int)) hng hsq (by omega) (i := i) (k := k) hi hk
    obtain ⟨res, hre⟩ : ∃ f, f = resA (shL (t : Int) ws) := ⟨_, rfl⟩
    rw [hL0, ← hre, ← hn] at hva
    rw [← hre, ← hn] at hrb
    rw [← hre, ← hn] at hof
    rw [he]
    have htl := tab_len n res
    refine c_no rfl (decide_eq_false (by decide)) ?_
    repeat (with_reducible first | refine c_seq ?_ | refine c_block ?_ | refine c_skip ?_ | refine x_then ?_ | refine x_block ?_)
    refine c_reg ?_
    refine l_pure rfl (s_move  rfl ?_)
    refine l_pure rfl (s_lenr  rfl (hva.below hS.below) ⟨_, Tryd.underlying26⟩ ?_)
    refine l_pure rfl (s_move  rfl ?_)
    refine l_pure rfl (s_lenr  rfl (hvx.below hS.below) ⟨_, Tryd.underlying24⟩ ?_)
    refine l_pure rfl (s_neq  rfl rfl ?_)
    refine l_nil ?_
    repeat (with_reducible first | refine c_seq ?_ | refine c_block ?_ | refine c_skip ?_ | refine x_then ?_ | refine x_block ?_)
    refine c_no rfl (decide_eq_false (by omega)) ?_
    repeat (with_reducible first | refine c_seq ?_ | refine c_block ?_ | refine c_skip ?_ | refine x_then ?_ | refine x_block ?_)
    refine c_reg ?_
    refine l_pure rfl (s_move  rfl ?_)
    refine l_pure rfl (s_lenr  rfl (hva.below hS.below) ⟨_, Tryd.underlying26⟩ ?_)
    refine l_pure rfl (s_move  rfl ?_)
    refine l_nil ?_
    repeat (with_reducible first | refine c_seq ?_ | refine c_block ?_ | refine c_skip ?_ | refine x_then ?_ | refine x_block ?_)
    refine c_loop (σ := Nat) (fun i ρ w' => i ≤ n ∧ ρ 5 = x ∧ ρ 6 = va ∧ ρ 35 = .int .i64 n ∧ ρ 36 = .int .i64 i ∧ St w2 w' []) (fun i => n - i) 0
      ⟨Nat.zero_le _, rfl, rfl, vi rfl (by omega), rfl, hS⟩ ?_
    clear hS
    rintro i ρ w3 ⟨hi, h5, h6, h35, h36, hS⟩
    repeat (with_reducible first | refine c_seq ?_ | refine c_block ?_ | refine c_skip ?_ | refine x_then ?_ | refine x_block ?_)
    refine c_reg ?_
    refine l_pure rfl (s_lss  h36 h35 ?_)
    refine l_nil ?_
    repeat (with_reducible first | refine c_seq ?_ | refine c_block ?_ | refine c_skip ?_ | refine x_then ?_ | refine x_block ?_)
    by_cases hlt : i < n
    · refine c_yes rfl (decide_eq_true (by omega)) ?_
      repeat (with_reducible first | refine c_seq ?_ | refine c_block ?_ | refine c_skip ?_ | refine x_then ?_ | refine x_block ?_)
      refine c_reg ?_
      refine l_pure rfl (s_move  h36 ?_)
      refine l_pure rfl (s_asg  rfl ?_)
      refine l_nil ?_
      repeat (with_reducible first | refine c_seq ?_ | refine c_block ?_ | refine c_skip ?_ | refine x_then ?_ | refine x_block ?_)
      refine c_reg ?_
      refine l_pure rfl (s_move  h6 ?_)
      refine l_pure rfl (s_lenr  rfl (hva.below hS.below) ⟨_, Tryd.underlying26⟩ ?_)
      refine l_pure rfl (s_move  rfl ?_)
      refine l_nil ?_
      repeat (with_reducible first | refine c_seq ?_ | refine c_skip ?_ | refine x_then ?_ | refine x_block ?_)
      refine c_cut1 (fun ρ w' => ρ 5 = x ∧ ρ 6 = va ∧ ρ 35 = .int .i64 n ∧ ρ 36 = .int .i64 i ∧ St w2 w' []) ?_ ?_
      · repeat (with_reducible first | refine c_seq ?_ | refine c_block ?_ | refine c_skip ?_ | refine x_then ?_ | refine x_block ?_)
        refine c_loop (σ := Nat) (fun k ρ w' => k ≤ n ∧ ρ 5 = x ∧ ρ 6 = va ∧ ρ 35 = .int .i64 n ∧ ρ 36 = .int .i64 i ∧ ρ 8 = .int .i64 i ∧ ρ 40 = .int .i64 n ∧ ρ 41 = .int .i64 k ∧ St w2 w' []) (fun k => n - k) 0
          ⟨Nat.zero_le _, by assumption, by assumption, by assumption, by assumption, rfl, vi rfl (by omega), rfl, hS⟩ ?_
        clear hS h5 h6 h35 h36
        rintro k ρ w4 ⟨hk, h5, h6, h35, h36, h8, h40, h41, hS⟩
        repeat (with_reducible first | refine c_seq ?_ | refine c_block ?_ | refine c_skip ?_ | refine x_then ?_ | refine x_block ?_)
        refine c_reg ?_
        refine l_pure rfl (s_lss  h41 h40 ?_)
        refine l_nil ?_
        repeat (with_reducible first | refine c_seq ?_ | refine c_block ?_ | refine c_skip ?_ | refine x_then ?_ | refine x_block ?_)
        by_cases hkt : k < n
        · refine c_yes rfl (decide_eq_true (by omega)) ?_
          repeat (with_reducible first | refine c_seq ?_ | refine c_block ?_ | refine c_skip ?_ | refine x_then ?_ | refine x_block ?_)
          obtain ⟨wi, hwi⟩ : ∃ q, q = ws.getD i zRR := ⟨_, rfl⟩
          obtain ⟨wk, hwk⟩ : ∃ q, q = ws.getD k zRR := ⟨_, rfl⟩
          have hLi : Lr wi ≤ 1 := by rw [hwi]; exact hRB _ (getD_mem ws i zRR (by omega))
          have hLk : Lr wk ≤ 1 := by rw [hwk]; exact hRB _ (getD_mem ws k zRR (by omega))
          have hcm := fun w => QCompare_ok wi wk w (by omega)
          obtain ⟨f1, f2⟩ := hof i k (by omega) (by omega)
          rw [← hwi, ← hwk] at f1 f2
          have hgi : (tab n res).getD i 0 = res i := tab_get _ _ hlt
          have hgk : (tab n res).getD k 0 = res k := tab_get _ _ hkt
          have hri := hrb i (by omega)
          have hrk := hrb k (by omega)
          obtain ⟨c, hc⟩ : ∃ c, c = cmpQ (toQ wi) (toQ wk) := ⟨_, rfl⟩
          rw [← hc] at hcm
          repeat (with_reducible first | refine c_seq ?_ | refine c_block ?_ | refine c_skip ?_ | refine x_then ?_ | refine x_block ?_)
          refine c_reg ?_
          refine l_pure rfl (s_move  h41 ?_)
          refine l_pure rfl (s_asg  rfl ?_)
          refine l_nil ?_
          repeat (with_reducible first | refine c_seq ?_ | refine c_block ?_ | refine c_skip ?_ | refine x_then ?_ | refine x_block ?_)
          refine c_draw [(0, .pure), (1, .pure), (2, .pure), (3, .read), (4, .pure), (5, .pure), (6, .pure), (7, .read), (8, .grow), (9, .pure)] (by kernel_rfl) (by kernel_rfl) hS ?_
          intro wz1 hS hBz1
          refine w_pure rfl rfl (s_move  h5 ?_)
          refine w_pure rfl rfl (s_move  h8 ?_)
          refine w_pure rfl rfl (s_ixr (i := i)  rfl rfl (hvx.below hS.below) (by omega) (by first | omega | (simp; done) | (simp; omega)) si_24 ?_)
          refine w_read rfl rfl (s_lde (i := i) zRR  rfl vi_31 (hvx.below hS.below) (by first | omega | (simp; done) | (simp; omega)) rfl rfl (.inl rfl) ?_)
          refine w_pure rfl rfl (s_move  h5 ?_)
          refine w_pure rfl rfl (s_move  rfl ?_)
          refine w_pure rfl rfl (s_ixr (i := k)  rfl rfl (hvx.below hS.below) (by omega) (by first | omega | (simp; done) | (simp; omega)) si_24 ?_)
          refine w_read rfl rfl (s_lde (i := k) zRR  rfl vi_31 (hvx.below hS.below) (by first | omega | (simp; done) | (simp; omega)) rfl rfl (.inl rfl) ?_)
          rw [← hwi, ← hwk]
          refine w_grow rfl rfl (s_call Tryd.call17 rfl (hcm _) ?_)
          rintro _ wc2 ⟨rfl, hBc2⟩
          replace hS := hS.grow hBc2
          refine ⟨hBc2, ?_⟩
          refine w_pure rfl rfl (s_asg  rfl ?_)
          refine w_end ?_
          repeat (with_reducible first | refine c_seq ?_ | refine c_block ?_ | refine c_skip ?_ | refine x_then ?_ | refine x_block ?_)
          rcases cmpQ_cases (toQ wi) (toQ wk) with ⟨h, e⟩ | ⟨h, e⟩ | ⟨h, e⟩
          · have hc1 : c = -1 := by rw [hc, e]
            repeat (with_reducible first | refine c_seq ?_ | refine c_block ?_ | refine c_skip ?_ | refine x_then ?_ | refine x_block ?_)
            refine c_drawM [0, 1, 3, 7, 7, 31, 63, 7, 7, 391, 903, 2047, 4095, 8191, 16383, 32767, 65535, 131071, 131071, 524287, 1048575, 2097151, 4194303, 4194303, 16777215, 33554431, 4194303, 4194303, 205520895, 473956351, 1073741823, 2147483647, 4294967295, 4294967295, 17179869183, 34359738367, 4294967295, 4294967295, 210453397503, 485331304447, 1035087118335, 2199023255551, 4398046511103, 8796093022207, 17592186044415] [(0, .pure), (1, .pure), (2, .pure), (3, .pure), (4, .pure), (5, .pure), (6, .read), (7, .pure), (8, .pure), (9, .pure), (10, .read), (11, .pure), (12, .pure), (13, .pure), (14, .pure), (15, .pure), (16, .pure), (17, .pure), (18, .pure), (19, .pure), (20, .pure), (21, .pure), (22, .pure), (23, .pure), (24, .pure), (25, .read), (26, .pure), (27, .pure), (28, .pure), (29, .read), (30, .pure), (31, .pure), (32, .pure), (33, .pure), (34, .pure), (35, .read), (36, .pure), (37, .pure), (38, .pure), (39, .read), (40, .pure), (41, .pure), (42, .pure), (43, .pure), (44, .pure)] (by kernel_rfl) (by kernel_rfl) hS ?_
            intro wz3 hS hBz3
            refine w_pure rfl rfl (s_move  rfl ?_)
            refine w_pure rfl rfl (s_gtr  rfl rfl ?_)
            refine w_pure rfl rfl (s_move  rfl ?_)
            refine w_no rfl (gno_yes 55 (by kernel_rfl) rfl (decide_eq_false (by omega))) ?_
            refine w_no rfl (gno_yes 55 (by kernel_rfl) rfl (decide_eq_false (by omega))) ?_
            refine w_no rfl (gno_yes 55 (by kernel_rfl) rfl (decide_eq_false (by omega))) ?_
            refine w_no rfl (gno_yes 55 (by kernel_rfl) rfl (decide_eq_false (by omega))) ?_
            refine w_no rfl (gno_yes 55 (by kernel_rfl) rfl (decide_eq_false (by omega))) ?_
            refine w_no rfl (gno_yes 55 (by kernel_rfl) rfl (decide_eq_false (by omega))) ?_
            refine w_no rfl (gno_yes 55 (by kernel_rfl) rfl (decide_eq_false (by omega))) ?_
            refine w_no rfl (gno_yes 55 (by kernel_rfl) rfl (decide_eq_false (by omega))) ?_
            refine w_no rfl (gno_yes 55 (by kernel_rfl) rfl (decide_eq_false (by omega))) ?_
            refine w_pure rfl rfl (s_pick (vb rfl (decide_eq_false (by omega))) rfl ?_)
            refine w_pure rfl rfl (s_move  rfl ?_)
            refine w_pure rfl (gd_yes 66 (by kernel_rfl) rfl rfl) (s_move  rfl ?_)
            refine w_pure rfl (gd_yes 66 (by kernel_rfl) rfl rfl) (s_eql  rfl rfl ?_)
            refine w_pure rfl (gd_yes 66 (by kernel_rfl) rfl rfl) (s_move  rfl ?_)
            refine w_no rfl (gno_yes 69 (by kernel_rfl) rfl (decide_eq_false (by omega))) ?_
            refine w_no rfl (gno_yes 69 (by kernel_rfl) rfl (decide_eq_false (by omega))) ?_
            refine w_no rfl (gno_yes 69 (by kernel_rfl) rfl (decide_eq_false (by omega))) ?_
            refine w_pure rfl (gd_yes 66 (by kernel_rfl) rfl rfl) (s_pick (vb rfl (decide_eq_false (by omega))) rfl ?_)
            refine w_pure rfl (gd_yes 66 (by kernel_rfl) rfl rfl) (s_move  rfl ?_)
            refine w_no rfl (gno_yes 74 (by kernel_rfl) rfl rfl) ?_
            refine w_no rfl (gno_yes 74 (by kernel_rfl) rfl rfl) ?_
            refine w_no rfl (gno_yes 74 (by kernel_rfl) rfl rfl) ?_
            refine w_no rfl (gno_yes 74 (by kernel_rfl) rfl rfl) ?_
            refine w_no rfl (gno_yes 74 (by kernel_rfl) rfl rfl) ?_
            refine w_no rfl (gno_yes 74 (by kernel_rfl) rfl rfl) ?_
            refine w_no rfl (gno_yes 74 (by kernel_rfl) rfl rfl) ?_
            refine w_no rfl (gno_yes 74 (by kernel_rfl) rfl rfl) ?_
            refine w_no rfl (gno_yes 74 (by kernel_rfl) rfl rfl) ?_
            refine w_no rfl (gno_yes 74 (by kernel_rfl) rfl rfl) ?_
            refine w_no rfl (gno_un 84 (by kernel_rfl) rfl) ?_
            refine w_no rfl (gno_un 84 (by kernel_rfl) rfl) ?_
            refine w_no rfl (gno_un 84 (by kernel_rfl) rfl) ?_
            refine w_no rfl (gno_un 84 (by kernel_rfl) rfl) ?_
            refine w_no rfl (gno_un 84 (by kernel_rfl) rfl) ?_
            refine w_no rfl (gno_un 84 (by kernel_rfl) rfl) ?_
            refine w_no rfl (gno_un 84 (by kernel_rfl) rfl) ?_
            refine w_no rfl (gno_un 84 (by kernel_rfl) rfl) ?_
            refine w_no rfl (gno_un 84 (by kernel_rfl) rfl) ?_
            refine w_no rfl (gno_un 84 (by kernel_rfl) rfl) ?_
            refine w_no rfl (gno_yes 74 (by kernel_rfl) rfl rfl) ?_
            refine w_pure rfl (gd_yes 66 (by kernel_rfl) rfl rfl) (s_pick (vb rfl rfl) rfl ?_)
            refine w_pure rfl rfl (s_pick (vb rfl rfl) rfl ?_)
            refine w_end ?_
            repeat (with_reducible first | refine c_seq ?_ | refine c_block ?_ | refine c_skip ?_ | refine x_then ?_ | refine x_block ?_)
            refine c_no rfl (rfl) ?_
            repeat (with_reducible first | refine c_seq ?_ | refine c_block ?_ | refine c_skip ?_ | refine x_then ?_ | refine x_block ?_)
            refine c_reg ?_
            refine l_pure rfl (s_add  h41 rfl (IntWalk.i64_in _ (by omega)) ?_)
            refine l_pure rfl (s_move  rfl ?_)
            refine l_nil ?_
            repeat (with_reducible first | refine c_seq ?_ | refine c_block ?_ | refine c_skip ?_ | refine x_then ?_ | refine x_block ?_)
            exact ⟨k + 1, _, rfl, ⟨hkt, by assumption, by assumption, by assumption, by assumption, by assumption, by assumption, vi rfl (by omega), hS⟩, by omega⟩
          · have hc1 : c = 0 := by rw [hc, e]
            by_cases hik : i < k
            · obtain ⟨f3, f4⟩ := f2 h hik
              have hd1 : decide ((tab n res).getD i 0 < (tab n res).getD k 0) = false := decide_eq_false (by omega)
              repeat (with_reducible first | refine c_seq ?_ | refine c_block ?_ | refine c_skip ?_ | refine x_then ?_ | refine x_block ?_)
              refine c_drawM [0, 1, 3, 7, 7, 31, 63, 7, 7, 391, 903, 2047, 4095, 8191, 16383, 32767, 65535, 131071, 131071, 524287, 1048575, 2097151, 4194303, 4194303, 16777215, 33554431, 4194303, 4194303, 205520895, 473956351, 1073741823, 2147483647, 4294967295, 4294967295, 17179869183, 34359738367, 4294967295, 4294967295, 210453397503, 485331304447, 1035087118335, 2199023255551, 4398046511103, 8796093022207, 17592186044415] [(0, .pure), (1, .pure), (2, .pure), (3, .pure), (4, .pure), (5, .pure), (6, .read), (7, .pure), (8, .pure), (9, .pure), (10, .read), (11, .pure), (12, .pure), (13, .pure), (14, .pure), (15, .pure), (16, .pure), (17, .pure), (18, .pure), (19, .pure), (20, .pure), (21, .pure), (22, .pure), (23, .pure), (24, .pure), (25, .read), (26, .pure), (27, .pure), (28, .pure), (29, .read), (30, .pure), (31, .pure), (32, .pure), (33, .pure), (34, .pure), (35, .read), (36, .pure), (37, .pure), (38, .pure), (39, .read), (40, .pure), (41, .pure), (42, .pure), (43, .pure), (44, .pure)] (by kernel_rfl) (by kernel_rfl) hS ?_
              intro wz4 hS hBz4
              refine w_pure rfl rfl (s_move  rfl ?_)
              refine w_pure rfl rfl (s_gtr  rfl rfl ?_)
              refine w_pure rfl rfl (s_move  rfl ?_)
              refine w_no rfl (gno_yes 55 (by kernel_rfl) rfl (decide_eq_false (by omega))) ?_
              refine w_no rfl (gno_yes 55 (by kernel_rfl) rfl (decide_eq_false (by omega))) ?_
              refine w_no rfl (gno_yes 55 (by kernel_rfl) rfl (decide_eq_false (by omega))) ?_
              refine w_no rfl (gno_yes 55 (by kernel_rfl) rfl (decide_eq_false (by omega))) ?_
              refine w_no rfl (gno_yes 55 (by kernel_rfl) rfl (decide_eq_false (by omega))) ?_
              refine w_no rfl (gno_yes 55 (by kernel_rfl) rfl (decide_eq_false (by omega))) ?_
              refine w_no rfl (gno_yes 55 (by kernel_rfl) rfl (decide_eq_false (by omega))) ?_
              refine w_no rfl (gno_yes 55 (by kernel_rfl) rfl (decide_eq_false (by omega))) ?_
              refine w_no rfl (gno_yes 55 (by kernel_rfl) rfl (decide_eq_false (by omega))) ?_
              refine w_pure rfl rfl (s_pick (vb rfl (decide_eq_false (by omega))) rfl ?_)
              refine w_pure rfl rfl (s_move  rfl ?_)
              refine w_pure rfl (gd_yes 66 (by kernel_rfl) rfl rfl) (s_move  rfl ?_)
              refine w_pure rfl (gd_yes 66 (by kernel_rfl) rfl rfl) (s_eql  rfl rfl ?_)
              refine w_pure rfl (gd_yes 66 (by kernel_rfl) rfl rfl) (s_move  rfl ?_)
              refine w_pure rfl (gd_yes 69 (by kernel_rfl) rfl (decide_eq_true (by omega))) (s_move  h8 ?_)
              refine w_pure rfl (gd_yes 69 (by kernel_rfl) rfl (decide_eq_true (by omega))) (s_move  rfl ?_)
              refine w_pure rfl (gd_yes 69 (by kernel_rfl) rfl (decide_eq_true (by omega))) (s_lss  rfl rfl ?_)
              refine w_pure rfl (gd_yes 66 (by kernel_rfl) rfl rfl) (s_pick (vb rfl (decide_eq_true (by omega))) rfl ?_)
              refine w_pure rfl (gd_yes 66 (by kernel_rfl) rfl rfl) (s_move  rfl ?_)
              refine w_pure rfl (gd_yes 74 (by kernel_rfl) rfl (decide_eq_true (by omega))) (s_move  h6 ?_)
              refine w_pure rfl (gd_yes 74 (by kernel_rfl) rfl (decide_eq_true (by omega))) (s_move  h8 ?_)
              refine w_pure rfl (gd_yes 74 (by kernel_rfl) rfl (decide_eq_true (by omega))) (s_ixr (i := i)  rfl rfl (hva.below hS.below) (by omega) (by first | omega | (simp; done) | (simp; omega)) si_26 ?_)
              refine w_read rfl (gd_yes 74 (by kernel_rfl) rfl (decide_eq_true (by omega))) (s_lde (i := i) 0  rfl vi_2 (hva.below hS.below) (by first | omega | (simp; done) | (simp; omega)) rfl rfl (.inr rfl) ?_)
              refine w_pure rfl (gd_yes 74 (by kernel_rfl) rfl (decide_eq_true (by omega))) (s_move  h6 ?_)
              refine w_pure rfl (gd_yes 74 (by kernel_rfl) rfl (decide_eq_true (by omega))) (s_move  rfl ?_)
              refine w_pure rfl (gd_yes 74 (by kernel_rfl) rfl (decide_eq_true (by omega))) (s_ixr (i := k)  rfl rfl (hva.below hS.below) (by omega) (by first | omega | (simp; done) | (simp; omega)) si_26 ?_)
              refine w_read rfl (gd_yes 74 (by kernel_rfl) rfl (decide_eq_true (by omega))) (s_lde (i := k) 0  rfl vi_2 (hva.below hS.below) (by first | omega | (simp; done) | (simp; omega)) rfl rfl (.inr rfl) ?_)
              refine w_pure rfl (gd_yes 74 (by kernel_rfl) rfl (decide_eq_true (by omega))) (s_lss  rfl rfl ?_)
              refine w_pure rfl (gd_yes 74 (by kernel_rfl) rfl (decide_eq_true (by omega))) (s_move  rfl ?_)
              refine w_pure rfl (gd_yes 84 (by kernel_rfl) rfl hd1) (s_move  h6 ?_)
              refine w_pure rfl (gd_yes 84 (by kernel_rfl) rfl hd1) (s_move  h8 ?_)
              refine w_pure rfl (gd_yes 84 (by kernel_rfl) rfl hd1) (s_ixr (i := i)  rfl rfl (hva.below hS.below) (by omega) (by first | omega | (simp; done) | (simp; omega)) si_26 ?_)
              refine w_read rfl (gd_yes 84 (by kernel_rfl) rfl hd1) (s_lde (i := i) 0  rfl vi_2 (hva.below hS.below) (by first | omega | (simp; done) | (simp; omega)) rfl rfl (.inr rfl) ?_)
              refine w_pure rfl (gd_yes 84 (by kernel_rfl) rfl hd1) (s_move  h6 ?_)
              refine w_pure rfl (gd_yes 84 (by kernel_rfl) rfl hd1) (s_move  rfl ?_)
              refine w_pure rfl (gd_yes 84 (by kernel_rfl) rfl hd1) (s_ixr (i := k)  rfl rfl (hva.below hS.below) (by omega) (by first | omega | (simp; done) | (simp; omega)) si_26 ?_)
              refine w_read rfl (gd_yes 84 (by kernel_rfl) rfl hd1) (s_lde (i := k) 0  rfl vi_2 (hva.below hS.below) (by first | omega | (simp; done) | (simp; omega)) rfl rfl (.inr rfl) ?_)
              refine w_pure rfl (gd_yes 84 (by kernel_rfl) rfl hd1) (s_add  rfl rfl (IntWalk.i64_in _ (by omega)) ?_)
              refine w_pure rfl (gd_yes 84 (by kernel_rfl) rfl hd1) (s_gtr  rfl rfl ?_)
              refine w_pure rfl (gd_yes 74 (by kernel_rfl) rfl (decide_eq_true (by omega))) (s_pick (vb rfl hd1) rfl ?_)
              refine w_pure rfl (gd_yes 66 (by kernel_rfl) rfl rfl) (s_pick (vb rfl (decide_eq_true (by omega))) rfl ?_)
              refine w_pure rfl rfl (s_pick (vb rfl rfl) rfl ?_)
              refine w_end ?_
              repeat (with_reducible first | refine c_seq ?_ | refine c_block ?_ | refine c_skip ?_ | refine x_then ?_ | refine x_block ?_)
              refine c_no rfl (decide_eq_false (by omega)) ?_
              repeat (with_reducible first | refine c_seq ?_ | refine c_block ?_ | refine c_skip ?_ | refine x_then ?_ | refine x_block ?_)
              refine c_reg ?_
              refine l_pure rfl (s_add  h41 rfl (IntWalk.i64_in _ (by omega)) ?_)
              refine l_pure rfl (s_move  rfl ?_)
              refine l_nil ?_
              repeat (with_reducible first | refine c_seq ?_ | refine c_block ?_ | refine c_skip ?_ | refine x_then ?_ | refine x_block ?_)
              exact ⟨k + 1, _, rfl, ⟨hkt, by assumption, by assumption, by assumption, by assumption, by assumption, by assumption, vi rfl (by omega), hS⟩, by omega⟩
            · repeat (with_reducible first | refine c_seq ?_ | refine c_block ?_ | refine c_skip ?_ | refine x_then ?_ | refine x_block ?_)
              refine c_drawM [0, 1, 3, 7, 7, 31, 63, 7, 7, 391, 903, 2047, 4095, 8191, 16383, 32767, 65535, 131071, 131071, 524287, 1048575, 2097151, 4194303, 4194303, 16777215, 33554431, 4194303, 4194303, 205520895, 473956351, 1073741823, 2147483647, 4294967295, 4294967295, 17179869183, 34359738367, 4294967295, 4294967295, 210453397503, 485331304447, 1035087118335, 2199023255551, 4398046511103, 8796093022207, 17592186044415] [(0, .pure), (1, .pure), (2, .pure), (3, .pure), (4, .pure), (5, .pure), (6, .read), (7, .pure), (8, .pure), (9, .pure), (10, .read), (11, .pure), (12, .pure), (13, .pure), (14, .pure), (15, .pure), (16, .pure), (17, .pure), (18, .pure), (19, .pure), (20, .pure), (21, .pure), (22, .pure), (23, .pure), (24, .pure), (25, .read), (26, .pure), (27, .pure), (28, .pure), (29, .read), (30, .pure), (31, .pure), (32, .pure), (33, .pure), (34, .pure), (35, .read), (36, .pure), (37, .pure), (38, .pure), (39, .read), (40, .pure), (41, .pure), (42, .pure), (43, .pure), (44, .pure)] (by kernel_rfl) (by kernel_rfl) hS ?_
              intro wz5 hS hBz5
              refine w_pure rfl rfl (s_move  rfl ?_)
              refine w_pure rfl rfl (s_gtr  rfl rfl ?_)
              refine w_pure rfl rfl (s_move  rfl ?_)
              refine w_no rfl (gno_yes 55 (by kernel_rfl) rfl (decide_eq_false (by omega))) ?_
              refine w_no rfl (gno_yes 55 (by kernel_rfl) rfl (decide_eq_false (by omega))) ?_
              refine w_no rfl (gno_yes 55 (by kernel_rfl) rfl (decide_eq_false (by omega))) ?_
              refine w_no rfl (gno_yes 55 (by kernel_rfl) rfl (decide_eq_false (by omega))) ?_
              refine w_no rfl (gno_yes 55 (by kernel_rfl) rfl (decide_eq_false (by omega))) ?_
              refine w_no rfl (gno_yes 55 (by kernel_rfl) rfl (decide_eq_false (by omega))) ?_
              refine w_no rfl (gno_yes 55 (by kernel_rfl) rfl (decide_eq_false (by omega))) ?_
              refine w_no rfl (gno_yes 55 (by kernel_rfl) rfl (decide_eq_false (by omega))) ?_
              refine w_no rfl (gno_yes 55 (by kernel_rfl) rfl (decide_eq_false (by omega))) ?_
              refine w_pure rfl rfl (s_pick (vb rfl (decide_eq_false (by omega))) rfl ?_)
              refine w_pure rfl rfl (s_move  rfl ?_)
              refine w_pure rfl (gd_yes 66 (by kernel_rfl) rfl rfl) (s_move  rfl ?_)
              refine w_pure rfl (gd_yes 66 (by kernel_rfl) rfl rfl) (s_eql  rfl rfl ?_)
              refine w_pure rfl (gd_yes 66 (by kernel_rfl) rfl rfl) (s_move  rfl ?_)
              refine w_pure rfl (gd_yes 69 (by kernel_rfl) rfl (decide_eq_true (by omega))) (s_move  h8 ?_)
              refine w_pure rfl (gd_yes 69 (by kernel_rfl) rfl (decide_eq_true (by omega))) (s_move  rfl ?_)
              refine w_pure rfl (gd_yes 69 (by kernel_rfl) rfl (decide_eq_true (by omega))) (s_lss  rfl rfl ?_)
              refine w_pure rfl (gd_yes 66 (by kernel_rfl) rfl rfl) (s_pick (vb rfl (decide_eq_true (by omega))) rfl ?_)
              refine w_pure rfl (gd_yes 66 (by kernel_rfl) rfl rfl) (s_move  rfl ?_)
              refine w_no rfl (gno_yes 74 (by kernel_rfl) rfl (decide_eq_false (by omega))) ?_
              refine w_no rfl (gno_yes 74 (by kernel_rfl) rfl (decide_eq_false (by omega))) ?_
              refine w_no rfl (gno_yes 74 (by kernel_rfl) rfl (decide_eq_false (by omega))) ?_
              refine w_no rfl (gno_yes 74 (by kernel_rfl) rfl (decide_eq_false (by omega))) ?_
              refine w_no rfl (gno_yes 74 (by kernel_rfl) rfl (decide_eq_false (by omega))) ?_
              refine w_no rfl (gno_yes 74 (by kernel_rfl) rfl (decide_eq_false (by omega))) ?_
              refine w_no rfl (gno_yes 74 (by kernel_rfl) rfl (decide_eq_false (by omega))) ?_
              refine w_no rfl (gno_yes 74 (by kernel_rfl) rfl (decide_eq_false (by omega))) ?_
              refine w_no rfl (gno_yes 74 (by kernel_rfl) rfl (decide_eq_false (by omega))) ?_
              refine w_no rfl (gno_yes 74 (by kernel_rfl) rfl (decide_eq_false (by omega))) ?_
              refine w_no rfl (gno_un 84 (by kernel_rfl) rfl) ?_
              refine w_no rfl (gno_un 84 (by kernel_rfl) rfl) ?_
              refine w_no rfl (gno_un 84 (by kernel_rfl) rfl) ?_
              refine w_no rfl (gno_un 84 (by kernel_rfl) rfl) ?_
              refine w_no rfl (gno_un 84 (by kernel_rfl) rfl) ?_
              refine w_no rfl (gno_un 84 (by kernel_rfl) rfl) ?_
              refine w_no rfl (gno_un 84 (by kernel_rfl) rfl) ?_
              refine w_no rfl (gno_un 84 (by kernel_rfl) rfl) ?_
              refine w_no rfl (gno_un 84 (by kernel_rfl) rfl) ?_
              refine w_no rfl (gno_un 84 (by kernel_rfl) rfl) ?_
              refine w_no rfl (gno_yes 74 (by kernel_rfl) rfl (decide_eq_false (by omega))) ?_
              refine w_pure rfl (gd_yes 66 (by kernel_rfl) rfl rfl) (s_pick (vb rfl (decide_eq_false (by omega))) rfl ?_)
              refine w_pure rfl rfl (s_pick (vb rfl rfl) rfl ?_)
              refine w_end ?_
              repeat (with_reducible first | refine c_seq ?_ | refine c_block ?_ | refine c_skip ?_ | refine x_then ?_ | refine x_block ?_)
              refine c_no rfl (rfl) ?_
              repeat (with_reducible first | refine c_seq ?_ | refine c_block ?_ | refine c_skip ?_ | refine x_then ?_ | refine x_block ?_)
              refine c_reg ?_
              refine l_pure rfl (s_add  h41 rfl (IntWalk.i64_in _ (by omega)) ?_)
              refine l_pure rfl (s_move  rfl ?_)
              refine l_nil ?_
              repeat (with_reducible first | refine c_seq ?_ | refine c_block ?_ | refine c_skip ?_ | refine x_then ?_ | refine x_block ?_)
              exact ⟨k + 1, _, rfl, ⟨hkt, by assumption, by assumption, by assumption, by assumption, by assumption, by assumption, vi rfl (by omega), hS⟩, by omega⟩
          · have hc1 : c = 1 := by rw [hc, e]
            have f3 := f1 h
            have hd1 : decide ((tab n res).getD i 0 < (tab n res).getD k 0) = false := decide_eq_false (by omega)
            repeat (with_reducible first | refine c_seq ?_ | refine c_block ?_ | refine c_skip ?_ | refine x_then ?_ | refine x_block ?_)
            refine c_drawM [0, 1, 3, 7, 7, 31, 63, 7, 7, 391, 903, 2047, 4095, 8191, 16383, 32767, 65535, 131071, 131071, 524287, 1048575, 2097151, 4194303, 4194303, 16777215, 33554431, 4194303, 4194303, 205520895, 473956351, 1073741823, 2147483647, 4294967295, 4294967295, 17179869183, 34359738367, 4294967295, 4294967295, 210453397503, 485331304447, 1035087118335, 2199023255551, 4398046511103, 8796093022207, 17592186044415] [(0, .pure), (1, .pure), (2, .pure), (3, .pure), (4, .pure), (5, .pure), (6, .read), (7, .pure), (8, .pure), (9, .pure), (10, .read), (11, .pure), (12, .pure), (13, .pure), (14, .pure), (15, .pure), (16, .pure), (17, .pure), (18, .pure), (19, .pure), (20, .pure), (21, .pure), (22, .pure), (23, .pure), (24, .pure), (25, .read), (26, .pure), (27, .pure), (28, .pure), (29, .read), (30, .pure), (31, .pure), (32, .pure), (33, .pure), (34, .pure), (35, .read), (36, .pure), (37, .pure), (38, .pure), (39, .read), (40, .pure), (41, .pure), (42, .pure), (43, .pure), (44, .pure)] (by kernel_rfl) (by kernel_rfl) hS ?_
            intro wz6 hS hBz6
            refine w_pure rfl rfl (s_move  rfl ?_)
            refine w_pure rfl rfl (s_gtr  rfl rfl ?_)
            refine w_pure rfl rfl (s_move  rfl ?_)
            refine w_pure rfl (gd_yes 55 (by kernel_rfl) rfl (decide_eq_true (by omega))) (s_move  h6 ?_)
            refine w_pure rfl (gd_yes 55 (by kernel_rfl) rfl (decide_eq_true (by omega))) (s_move  h8 ?_)
            refine w_pure rfl (gd_yes 55 (by kernel_rfl) rfl (decide_eq_true (by omega))) (s_ixr (i := i)  rfl rfl (hva.below hS.below) (by omega) (by first | omega | (simp; done) | (simp; omega)) si_26 ?_)
            refine w_read rfl (gd_yes 55 (by kernel_rfl) rfl (decide_eq_true (by omega))) (s_lde (i := i) 0  rfl vi_2 (hva.below hS.below) (by first | omega | (simp; done) | (simp; omega)) rfl rfl (.inr rfl) ?_)
            refine w_pure rfl (gd_yes 55 (by kernel_rfl) rfl (decide_eq_true (by omega))) (s_move  h6 ?_)
            refine w_pure rfl (gd_yes 55 (by kernel_rfl) rfl (decide_eq_true (by omega))) (s_move  rfl ?_)
            refine w_pure rfl (gd_yes 55 (by kernel_rfl) rfl (decide_eq_true (by omega))) (s_ixr (i := k)  rfl rfl (hva.below hS.below) (by omega) (by first | omega | (simp; done) | (simp; omega)) si_26 ?_)
            refine w_read rfl (gd_yes 55 (by kernel_rfl) rfl (decide_eq_true (by omega))) (s_lde (i := k) 0  rfl vi_2 (hva.below hS.below) (by first | omega | (simp; done) | (simp; omega)) rfl rfl (.inr rfl) ?_)
            refine w_pure rfl (gd_yes 55 (by kernel_rfl) rfl (decide_eq_true (by omega))) (s_lss  rfl rfl ?_)
            refine w_pure rfl rfl (s_pick (vb rfl (decide_eq_true (by omega))) rfl ?_)
            refine w_pure rfl rfl (s_move  rfl ?_)
            refine w_pure rfl (gd_yes 66 (by kernel_rfl) rfl hd1) (s_move  rfl ?_)
            refine w_pure rfl (gd_yes 66 (by kernel_rfl) rfl hd1) (s_eql  rfl rfl ?_)
            refine w_pure rfl (gd_yes 66 (by kernel_rfl) rfl hd1) (s_move  rfl ?_)
            refine w_no rfl (gno_yes 69 (by kernel_rfl) rfl (decide_eq_false (by omega))) ?_
            refine w_no rfl (gno_yes 69 (by kernel_rfl) rfl (decide_eq_false (by omega))) ?_
            refine w_no rfl (gno_yes 69 (by kernel_rfl) rfl (decide_eq_false (by omega))) ?_
            refine w_pure rfl (gd_yes 66 (by kernel_rfl) rfl hd1) (s_pick (vb rfl (decide_eq_false (by omega))) rfl ?_)
            refine w_pure rfl (gd_yes 66 (by kernel_rfl) rfl hd1) (s_move  rfl ?_)
            refine w_no rfl (gno_yes 74 (by kernel_rfl) rfl rfl) ?_
            refine w_no rfl (gno_yes 74 (by kernel_rfl) rfl rfl) ?_
            refine w_no rfl (gno_yes 74 (by kernel_rfl) rfl rfl) ?_
            refine w_no rfl (gno_yes 74 (by kernel_rfl) rfl rfl) ?_
            refine w_no rfl (gno_yes 74 (by kernel_rfl) rfl rfl) ?_
            refine w_no rfl (gno_yes 74 (by kernel_rfl) rfl rfl) ?_
            refine w_no rfl (gno_yes 74 (by kernel_rfl) rfl rfl) ?_
            refine w_no rfl (gno_yes 74 (by kernel_rfl) rfl rfl) ?_
            refine w_no rfl (gno_yes 74 (by kernel_rfl) rfl rfl) ?_
            refine w_no rfl (gno_yes 74 (by kernel_rfl) rfl rfl) ?_
            refine w_no rfl (gno_un 84 (by kernel_rfl) rfl) ?_
            refine w_no rfl (gno_un 84 (by kernel_rfl) rfl) ?_
            refine w_no rfl (gno_un 84 (by kernel_rfl) rfl) ?_
            refine w_no rfl (gno_un 84 (by kernel_rfl) rfl) ?_
            refine w_no rfl (gno_un 84 (by kernel_rfl) rfl) ?_
            refine w_no rfl (gno_un 84 (by kernel_rfl) rfl) ?_
            refine w_no rfl (gno_un 84 (by kernel_rfl) rfl) ?_
            refine w_no rfl (gno_un 84 (by kernel_rfl) rfl) ?_
            refine w_no rfl (gno_un 84 (by kernel_rfl) rfl) ?_
            refine w_no rfl (gno_un 84 (by kernel_rfl) rfl) ?_
            refine w_no rfl (gno_yes 74 (by kernel_rfl) rfl rfl) ?_
            refine w_pure rfl (gd_yes 66 (by kernel_rfl) rfl hd1) (s_pick (vb rfl rfl) rfl ?_)
            refine w_pure rfl rfl (s_pick (vb rfl hd1) rfl ?_)
            refine w_end ?_
            repeat (with_reducible first | refine c_seq ?_ | refine c_block ?_ | refine c_skip ?_ | refine x_then ?_ | refine x_block ?_)
            refine c_no rfl (rfl) ?_
            repeat (with_reducible first | refine c_seq ?_ | refine c_block ?_ | refine c_skip ?_ | refine x_then ?_ | refine x_block ?_)
            refine c_reg ?_
            refine l_pure rfl (s_add  h41 rfl (IntWalk.i64_in _ (by omega)) ?_)
            refine l_pure rfl (s_move  rfl ?_)
            refine l_nil ?_
            repeat (with_reducible first | refine c_seq ?_ | refine c_block ?_ | refine c_skip ?_ | refine x_then ?_ | refine x_block ?_)
            exact ⟨k + 1, _, rfl, ⟨hkt, by assumption, by assumption, by assumption, by assumption, by assumption, by assumption, vi rfl (by omega), hS⟩, by omega⟩
        · refine c_no rfl (decide_eq_false (by omega)) ?_
          repeat (with_reducible first | refine c_seq ?_ | refine c_block ?_ | refine c_skip ?_ | refine x_then ?_ | refine x_block ?_)
          refine c_exit ?_
          repeat (with_reducible first | refine x_then_exit ?_ | refine x_block_exit ?_ | refine x_block_pass rfl ?_)
          repeat (with_reducible first | refine c_seq ?_ | refine c_block ?_ | refine c_skip ?_ | refine x_then ?_ | refine x_block ?_)
          exact ⟨_, rfl, h5, h6, h35, h36, hS⟩
      clear hS h5 h6 h35 h36
      rintro ρ w4 ⟨h5, h6, h35, h36, hS⟩
      repeat (with_reducible first | refine c_seq ?_ | refine c_block ?_ | refine c_skip ?_ | refine x_then ?_ | refine x_block ?_)
      refine c_reg ?_
      refine l_pure rfl (s_add  h36 rfl (IntWalk.i64_in _ (by omega)) ?_)
      refine l_pure rfl (s_move  rfl ?_)
      refine l_nil ?_
      repeat (with_reducible first | refine c_seq ?_ | refine c_block ?_ | refine c_skip ?_ | refine x_then ?_ | refine x_block ?_)
      exact ⟨i + 1, _, rfl, ⟨hlt, by assumption, by assumption, by assumption, vi rfl (by omega), hS⟩, by omega⟩
    · refine c_no rfl (decide_eq_false (by omega)) ?_
      repeat (with_reducible first | refine c_seq ?_ | refine c_block ?_ | refine c_skip ?_ | refine x_then ?_ | refine x_block ?_)
      refine c_exit ?_
      repeat (with_reducible first | refine x_then_exit ?_ | refine x_block_exit ?_ | refine x_block_pass rfl ?_)
      repeat (with_reducible first | refine c_seq ?_ | refine c_block ?_ | refine c_skip ?_ | refine x_then ?_ | refine x_block ?_)
      refine c_reg ?_
      refine l_heavy rfl (s_call Tryd.call11 rfl (Aawake_ok _) ?_)
      rintro _ wc7 ⟨rfl, hBc7⟩
      replace hS := hS.grow hBc7
      refine l_pure rfl (s_asg  rfl ?_)
      refine l_nil ?_
      repeat (with_reducible first | refine c_seq ?_ | refine c_block ?_ | refine c_skip ?_ | refine x_then ?_ | refine x_block ?_)
      refine c_ret ?_
      repeat (with_reducible first | refine x_then_ret ?_ | refine x_block_ret ?_)
      refine r_one rfl rfl ?_
      exact ⟨rfl, bt hW hS.below⟩
end Go.Proofs.YtmapmdldlcfjhaaDoor
