/-
  The law that results are exact: its walk.
-/
import Derived.Test.YtmapmdldlcfjhaaDoorLawVd
namespace Go.Proofs.YtmapmdldlcfjhaaDoor
open Go Go.RowKit Go.Sx

theorem ofQ_den1 {p : Rat} (h : (ofQ p).den = ⟨#[]⟩) : p.den = 1 := by
  rw [ofQ_den] at h
  split at h
  · next e => exact e
  · rw [natS_nil] at h; exact absurd h p.den_nz
theorem fr_of_den {q : Nat → Rat} {i : Nat} (h : (q i).den = 1) : frQ q i = 0 := by
  unfold frQ
  rw [Rat.floor_def, h, Int.natCast_one, Int.ediv_one, int_of_den' h]
  grind
set_option maxHeartbeats 2000000 in
theorem ApportionExact_ok (t : Nat) (vl : Value) (l : List Nat) (w : World) (ht : t < 4294967296) (hl : Sl (uk .u16) 1 w vl l) (hlb : ∀ x ∈ l, x < 65536) :
    Ret Tryd.prog 3 #[.int .u32 t, vl] w fun v w' => v = .bool true ∧ Below w.heap.size w w' := by
  have hM : MX = 1099511627776 := rfl
  have hS := St.init w
  obtain ⟨ws, hws⟩ : ∃ ws, ws = amts l 12 := ⟨_, rfl⟩
  have hRB : RB 1 ws := by rw [hws]; exact amts_RB l 12
  have hwl : ws.length ≤ 12 := by rw [hws, amts_len]; omega
  have hng : negs ws = false := by rw [hws]; exact amts_negs l 12
  have hsl := sumL_le hRB
  have hsl2 : ws.length * (1 + 1) ≤ 12 * (1 + 1) := Nat.mul_le_mul_right _ hwl
  have hLs := L_sumQ ws
  obtain ⟨s, hs⟩ : ∃ s, s = sumQ (ws.map toQ) := ⟨_, rfl⟩
  obtain ⟨n, hn⟩ : ∃ n, n = ws.length := ⟨_, rfl⟩
  refine enter Tryd.func3 rfl Tryd.ntmps3 rfl ?_
  repeat (with_reducible first | refine c_seq ?_ | refine c_block ?_ | refine c_skip ?_ | refine x_then ?_ | refine x_block ?_)
  refine c_reg ?_
  refine l_pure rfl (s_asg  rfl ?_)
  refine l_nil ?_
  repeat (with_reducible first | refine c_seq ?_ | refine c_block ?_ | refine c_skip ?_ | refine x_then ?_ | refine x_block ?_)
  refine c_reg ?_
  refine l_pure rfl (s_move  rfl ?_)
  refine l_heavy rfl (s_call Tryd.call7 rfl (Amounts_ok vl l 12 _ (hl.below hS.below) hlb (by decide)) ?_)
  rintro x w1 ⟨hvx, hB1⟩
  rw [← hws] at hvx
  replace hS := hS.grow hB1
  refine l_pure rfl (s_asg  rfl ?_)
  refine l_nil ?_
  repeat (with_reducible first | refine c_seq ?_ | refine c_block ?_ | refine c_skip ?_ | refine x_then ?_ | refine x_block ?_)
  refine c_reg ?_
  refine l_pure rfl (s_move  rfl ?_)
  refine l_pure rfl (s_conv  rfl Tryd.underlying2 ⟨_, Tryd.underlying22⟩ (r := (t : Int)) (by exact wr_i64 _ ⟨rfl, by omega, by omega⟩) ?_)
  refine l_pure rfl (s_move  rfl ?_)
  refine l_heavy rfl (s_call Tryd.call8 rfl (Split_ok (t : Int) x ws 1 _ (by omega) (by omega) hvx hRB (by omega) (by omega)) ?_)
  rintro r w2 ⟨⟨va, rfl, hva⟩, hB2⟩
  replace hS := hS.grow hB2
  replace hvx := hvx.below hB2
  refine l_pure rfl (s_move  rfl ?_)
  refine l_pure rfl (s_ext  rfl rfl ?_)
  refine l_pure rfl (s_ext  rfl rfl ?_)
  refine l_pure rfl (s_asg  rfl ?_)
  refine l_pure rfl (s_asg  rfl ?_)
  refine l_nil ?_
  repeat (with_reducible first | refine c_seq ?_ | refine c_block ?_ | refine c_skip ?_ | refine x_then ?_ | refine x_block ?_)
  refine c_reg ?_
  refine l_pure rfl (s_move  rfl ?_)
  refine l_heavy rfl (s_call Tryd.call9 rfl (QSum_ok x ws _ hvx (by omega)) ?_)
  rintro r w4 ⟨rfl, hB4⟩
  rw [← hs]
  rw [← hs] at hLs
  replace hS := hS.grow hB4
  replace hvx := hvx.below hB4
  replace hva := hva.below hB4
  have hW := hS.below
  clear hS
  have hS := St.init w4
  refine l_heavy rfl (s_alloc  vi_31 hS ?_)
  intro b8 wz1 hS hBz1
  refine l_heavy rfl (s_sta (k := 0)  rfl rfl vi_31 hS rfl rfl rfl (Nat.le_of_ble_eq_true rfl) rfl ?_)
  intro wz2 hS
  refine l_nil ?_
  repeat (with_reducible first | refine c_seq ?_ | refine c_block ?_ | refine c_skip ?_ | refine x_then ?_ | refine x_block ?_)
  replace hS : St w4 _ [(b8, 31, encR (ofQ s))] := hS
  have hsg := fun w => Sign_ok (ofQ s) w (by rw [Lr_ofQ]; omega)
  rw [toQ_ofQ] at hsg
  repeat (with_reducible first | refine c_seq ?_ | refine c_block ?_ | refine c_skip ?_ | refine x_then ?_ | refine x_block ?_)
  refine c_reg ?_
  refine l_read rfl (s_ldo (k := 0)  rfl vi_31 hS rfl rfl rfl (.inl rfl) ?_)
  refine l_heavy rfl (s_call Tryd.call10 rfl (hsg _) ?_)
  rintro _ wc3 ⟨rfl, hBc3⟩
  replace hS := hS.grow hBc3
  refine l_pure rfl (s_eql  rfl rfl ?_)
  refine l_nil ?_
  repeat (with_reducible first | refine c_seq ?_ | refine c_block ?_ | refine c_skip ?_ | refine x_then ?_ | refine x_block ?_)
  by_cases hs0 : s = 0
  · have he : spE (t : Int) ws = 6 := sh_spE0 hng (by rw [← hs]; exact hs0) (by omega) (by omega)
    have hL0 : spL (t : Int) ws = [] := by unfold spL; rw [if_neg (by rw [he]; decide)]
    rw [hL0] at hva
    rw [he]
    refine c_yes rfl (decide_eq_true (sgnQ_zero.2 hs0)) ?_
    repeat (with_reducible first | refine c_seq ?_ | refine c_block ?_ | refine c_skip ?_ | refine x_then ?_ | refine x_block ?_)
    refine c_reg ?_
    refine l_heavy rfl (s_call Tryd.call11 rfl (Aawake_ok _) ?_)
    rintro r wa ⟨rfl, hBa⟩
    replace hS := hS.grow hBa
    refine l_pure rfl (s_move  rfl ?_)
    refine l_pure (gd_yes 28 (by kernel_rfl) rfl rfl) (s_move  rfl ?_)
    refine l_pure (gd_yes 28 (by kernel_rfl) rfl rfl) (s_eql  rfl rfl ?_)
    refine l_pure rfl (s_pick (vb rfl rfl) rfl ?_)
    refine l_pure rfl (s_move  rfl ?_)
    refine l_pure (gd_yes 32 (by kernel_rfl) rfl (decide_eq_true rfl)) (s_move  rfl ?_)
    refine l_pure (gd_yes 32 (by kernel_rfl) rfl (decide_eq_true rfl)) (s_lenr  rfl (hva.below hS.below) ⟨_, Tryd.underlying26⟩ ?_)
    refine l_pure (gd_yes 32 (by kernel_rfl) rfl (decide_eq_true rfl)) (s_eql  rfl rfl ?_)
    refine l_pure rfl (s_pick (vb rfl (decide_eq_true rfl)) rfl ?_)
    refine l_pure rfl (s_asg  rfl ?_)
    refine l_nil ?_
    repeat (with_reducible first | refine c_seq ?_ | refine c_block ?_ | refine c_skip ?_ | refine x_then ?_ | refine x_block ?_)
    refine c_ret ?_
    repeat (with_reducible first | refine x_then_ret ?_ | refine x_block_ret ?_)
    refine r_one rfl rfl ?_
    exact ⟨vb rfl (decide_eq_true rfl), bt hW hS.below⟩
  · have hsq : sumQ (ws.map toQ) ≠ 0 := by rw [← hs]; exact hs0
    have he : spE (t : Int) ws = 0 := sh_spE hng hsq (by omega) (by omega) (by omega)
    have hL0 : spL (t : Int) ws = tab ws.length (resA (shL (t : Int) ws)) := sh_spL hng hsq (by omega) (by omega) (by omega)
    obtain ⟨hrb, hrs⟩ := res_facts (total := (t : Int)) hng hsq (by omega)
    have hclose := fun i => res_close (ordG_ord (shL (t : Int) ws)) i
    have hat : ∀ i, i < n → qA (shL (t : Int) ws) i = shQ (t : Int) ws i := fun i hi => shA_at (by omega)
    have hLsh : ∀ i, i < n → L (shQ (t : Int) ws i) ≤ 50 := fun i hi => by
      have := L_sh (total := (t : Int)) (by omega) (by omega) hRB (by omega) (i := i) (by omega)
      omega
    obtain ⟨res, hre⟩ : ∃ f, f = resA (shL (t : Int) ws) := ⟨_, rfl⟩
    have hre2 : resQ (qA (shL (t : Int) ws)) (ordG (shL (t : Int) ws)) (shL (t : Int) ws).length = res := by rw [hre]; rfl
    rw [hre2] at hclose
    rw [hL0, ← hre, ← hn] at hva
    rw [← hre, ← hn] at hrb hrs
    rw [he]
    have htl := tab_len n res
    have hrg := sumZ_range (fun i hi => (hrb i hi).1) hrs (by omega)
    refine c_no rfl (decide_eq_false (fun g => hs0 (sgnQ_zero.1 g))) ?_
    repeat (with_reducible first | refine c_seq ?_ | refine c_block ?_ | refine c_skip ?_ | refine x_then ?_ | refine x_block ?_)
    refine c_reg ?_
    refine l_pure rfl (s_move  rfl ?_)
    refine l_pure rfl (s_neq  rfl rfl ?_)
    refine l_pure rfl (s_move  rfl ?_)
    refine l_pure (gd_yes 39 (by kernel_rfl) rfl rfl) (s_move  rfl ?_)
    refine l_pure (gd_yes 39 (by kernel_rfl) rfl rfl) (s_lenr  rfl (hva.below hS.below) ⟨_, Tryd.underlying26⟩ ?_)
    refine l_pure (gd_yes 39 (by kernel_rfl) rfl rfl) (s_move  rfl ?_)
    refine l_pure (gd_yes 39 (by kernel_rfl) rfl rfl) (s_lenr  rfl (hvx.below hS.below) ⟨_, Tryd.underlying24⟩ ?_)
    refine l_pure (gd_yes 39 (by kernel_rfl) rfl rfl) (s_neq  rfl rfl ?_)
    refine l_pure rfl (s_pick (vb rfl rfl) rfl ?_)
    refine l_pure rfl (s_move  rfl ?_)
    refine l_pure (gd_yes 46 (by kernel_rfl) rfl (decide_eq_false (by omega))) (s_move  rfl ?_)
    refine l_heavy (gd_yes 46 (by kernel_rfl) rfl (decide_eq_false (by omega))) (s_call Tryd.call12 rfl (lsum_ok va res n _ (hva.below hS.below) hrg) ?_)
    rintro r w5 ⟨rfl, hq5⟩
    subst hq5
    refine l_pure (gd_yes 46 (by kernel_rfl) rfl (decide_eq_false (by omega))) (s_move  rfl ?_)
    refine l_pure (gd_yes 46 (by kernel_rfl) rfl (decide_eq_false (by omega))) (s_conv  rfl Tryd.underlying2 ⟨_, Tryd.underlying22⟩ (r := (t : Int)) (by exact wr_i64 _ ⟨rfl, by omega, by omega⟩) ?_)
    refine l_pure (gd_yes 46 (by kernel_rfl) rfl (decide_eq_false (by omega))) (s_neq  rfl rfl ?_)
    refine l_pure rfl (s_pick (vb rfl (decide_eq_false (by omega))) rfl ?_)
    refine l_nil ?_
    repeat (with_reducible first | refine c_seq ?_ | refine c_block ?_ | refine c_skip ?_ | refine x_then ?_ | refine x_block ?_)
    refine c_no rfl (decide_eq_false (by omega)) ?_
    repeat (with_reducible first | refine c_seq ?_ | refine c_block ?_ | refine c_skip ?_ | refine x_then ?_ | refine x_block ?_)
    refine c_forget (fun ρ' => ρ' 0 = .int .u32 (t : Int) ∧ ρ' 5 = x ∧ ρ' 6 = va ∧ ρ' 8 = .pointer (some ⟨b8, 0, none⟩) ∧ True) ⟨rfl, rfl, rfl, rfl, trivial⟩ ?_
    rintro ρk4 ⟨hk4_0, hk4_5, hk4_6, hk4_8, -⟩
    repeat (with_reducible first | refine c_seq ?_ | refine c_block ?_ | refine c_skip ?_ | refine x_then ?_ | refine x_block ?_)
    refine c_reg ?_
    refine l_pure rfl (s_move  hk4_6 ?_)
    refine l_pure rfl (s_lenr  rfl (hva.below hS.below) ⟨_, Tryd.underlying26⟩ ?_)
    refine l_pure rfl (s_move  rfl ?_)
    refine l_nil ?_
    repeat (with_reducible first | refine c_seq ?_ | refine c_block ?_ | refine c_skip ?_ | refine x_then ?_ | refine x_block ?_)
    refine c_loop (σ := Nat) (fun i ρ w' => i ≤ n ∧ ρ 0 = .int .u32 (t : Int) ∧ ρ 5 = x ∧ ρ 6 = va ∧ ρ 8 = .pointer (some ⟨b8, 0, none⟩) ∧ ρ 54 = .int .i64 n ∧ ρ 55 = .int .i64 i ∧ St w4 w' [(b8, 31, encR (ofQ s))]) (fun i => n - i) 0
      ⟨Nat.zero_le _, by assumption, by assumption, by assumption, by assumption, vi rfl (by omega), rfl, hS⟩ ?_
    clear hS
    rintro i ρ w6 ⟨hi, h0, h5, h6, h8, h54, h55, hS⟩
    repeat (with_reducible first | refine c_seq ?_ | refine c_block ?_ | refine c_skip ?_ | refine x_then ?_ | refine x_block ?_)
    refine c_reg ?_
    refine l_pure rfl (s_lss  h55 h54 ?_)
    refine l_nil ?_
    repeat (with_reducible first | refine c_seq ?_ | refine c_block ?_ | refine c_skip ?_ | refine x_then ?_ | refine x_block ?_)
    by_cases hlt : i < n
    · refine c_yes rfl (decide_eq_true (by omega)) ?_
      repeat (with_reducible first | refine c_seq ?_ | refine c_block ?_ | refine c_skip ?_ | refine x_then ?_ | refine x_block ?_)
      obtain ⟨ex, hex⟩ : ∃ q, q = shQ (t : Int) ws i := ⟨_, rfl⟩
      obtain ⟨wi, hwi⟩ : ∃ q, q = ws.getD i zRR := ⟨_, rfl⟩
      have hLw : Lr wi ≤ 1 := by rw [hwi]; exact hRB _ (getD_mem ws i zRR (by omega))
      have hLw2 := L_toQ wi
      have hLt := L_i64 (n := (t : Int)) (by omega) (by omega)
      have hLtw := L_mul ((t : Int) : Rat) (toQ wi)
      have hLe := hLsh i hlt
      rw [← hex] at hLe
      have hexe : ((t : Int) : Rat) * toQ wi / s = ex := by
        rw [hex, hwi, hs]
        unfold shQ
        rw [Rat.div_def, Rat.div_def, Rat.mul_assoc, Rat.mul_assoc, Rat.mul_comm (toQ _)]
      have hrbi := hrb i hlt
      obtain ⟨c1, c2, c3⟩ := hclose i
      rw [hat i hlt, ← hex] at c1 c2 c3
      have hfr0 : ex.den = 1 → frQ (qA (shL (t : Int) ws)) i = 0 := fun g => fr_of_den (by rw [hat i hlt, ← hex]; exact g)
      have hLr := L_i64 (n := res i) (by omega) (by omega)
      obtain ⟨dd, hdd⟩ : ∃ q, q = ((res i : Int) : Rat) - ex := ⟨_, rfl⟩
      have hLd := L_sub ((res i : Int) : Rat) ex
      rw [← hdd] at c1 c2 hLd
      have hi1 := fun w => QInt_ok (t : Int) w (by omega) (by omega)
      have hm1 := fun w => QMultiply_ok (ofQ ((t : Int) : Rat)) wi w (by rw [Lr_ofQ]; omega)
      rw [toQ_ofQ] at hm1
      have hd1 := fun w => QDivide_ok (ofQ (((t : Int) : Rat) * toQ wi)) (ofQ s) w (by rw [Lr_ofQ, Lr_ofQ]; omega) (by rw [toQ_ofQ]; exact hs0)
      rw [toQ_ofQ, toQ_ofQ, hexe] at hd1
      have hi2 := fun w => QInt_ok (res i) w (by omega) (by omega)
      have hs2 := fun w => QSubtract_ok (ofQ ((res i : Int) : Rat)) (ofQ ex) w (by rw [Lr_ofQ, Lr_ofQ]; omega)
      rw [toQ_ofQ, toQ_ofQ, ← hdd] at hs2
      have hone := fun w => QInt_ok 1 w (by decide) (by decide)
      have hmone := fun w => QInt_ok (-1) w (by decide) (by decide)
      have hL1 : L ((1 : Int) : Rat) ≤ 1 := L_int 1 (by decide) (by decide)
      have hL2 : L ((-1 : Int) : Rat) ≤ 1 := L_int (-1) (by decide) (by decide)
      have hc1 := fun w => QCompare_ok (ofQ dd) (ofQ ((1 : Int) : Rat)) w (by rw [Lr_ofQ, Lr_ofQ]; omega)
      have hc2 := fun w => QCompare_ok (ofQ dd) (ofQ ((-1 : Int) : Rat)) w (by rw [Lr_ofQ, Lr_ofQ]; omega)
      rw [toQ_ofQ, toQ_ofQ] at hc1 hc2
      have hlt1 : cmpQ dd ((1 : Int) : Rat) = -1 := cmpQ_lt c1
      have hgt1 : cmpQ dd ((-1 : Int) : Rat) = 1 := cmpQ_gt c2
      rw [hlt1] at hc1
      rw [hgt1] at hc2
      have hsd := fun w => Sign_ok (ofQ dd) w (by rw [Lr_ofQ]; omega)
      rw [toQ_ofQ] at hsd
      repeat (with_reducible first | refine c_seq ?_ | refine c_block ?_ | refine c_skip ?_ | refine x_then ?_ | refine x_block ?_)
      refine c_reg ?_
      refine l_pure rfl (s_move  h55 ?_)
      refine l_pure rfl (s_asg  rfl ?_)
      refine l_nil ?_
      repeat (with_reducible first | refine c_seq ?_ | refine c_block ?_ | refine c_skip ?_ | refine x_then ?_ | refine x_block ?_)
      refine c_cut1 (fun ρ w' => ρ 0 = .int .u32 (t : Int) ∧ ρ 5 = x ∧ ρ 6 = va ∧ ρ 8 = .pointer (some ⟨b8, 0, none⟩) ∧ ρ 54 = .int .i64 n ∧ ρ 55 = .int .i64 i ∧ ρ 9 = .int .i64 i ∧ ∃ b10, ρ 10 = .pointer (some ⟨b10, 0, none⟩) ∧ St w4 w' [(b10, 31, encR (ofQ ex)), (b8, 31, encR (ofQ s))]) ?_ ?_
      · repeat (with_reducible first | refine c_seq ?_ | refine c_block ?_ | refine c_skip ?_ | refine x_then ?_ | refine x_block ?_)
        refine c_float 13 [(0, .pure), (1, .pure), (3, .pure), (4, .pure), (5, .pure), (6, .read), (8, .read), (2, .grow), (7, .grow), (9, .grow), (10, .pure), (11, .pure), (12, .pure), (14, .free), (15, .pure)] (by kernel_rfl) (by kernel_rfl) hS ?_
        intro wz5 hS hBz5
        refine wx_pure (by kernel_rfl) rfl rfl (s_move  h0 ?_)
        refine wx_pure (by kernel_rfl) rfl rfl (s_conv  rfl Tryd.underlying2 ⟨_, Tryd.underlying22⟩ (r := (t : Int)) (by exact wr_i64 _ ⟨rfl, by omega, by omega⟩) ?_)
        refine wx_pure (by kernel_rfl) rfl rfl (s_move  h5 ?_)
        refine wx_pure (by kernel_rfl) rfl rfl (s_move  rfl ?_)
        refine wx_pure (by kernel_rfl) rfl rfl (s_ixr (i := i)  rfl rfl (hvx.below hS.below) (by omega) (by first | omega | (simp; done) | (simp; omega)) si_24 ?_)
        refine wx_read (by kernel_rfl) rfl rfl (s_lde (i := i) zRR  rfl vi_31 (hvx.below hS.below) (by first | omega | (simp; done) | (simp; omega)) rfl rfl (.inl rfl) ?_)
        refine wx_read (by kernel_rfl) rfl rfl (s_ldo (k := 0)  h8 vi_31 hS rfl rfl rfl (.inl rfl) ?_)
        rw [← hwi]
        refine wx_fork rfl rfl ?_ ?_
        · refine w_grow rfl rfl (s_alloc  vi_31 hS ?_)
          intro b10 wz6 hS hBz6
          refine ⟨hBz6, ?_⟩
          refine w_grow rfl rfl (s_call Tryd.call15 rfl (hi1 _) ?_)
          rintro r wf0_0 ⟨rfl, hBf0_0⟩
          refine ⟨hBf0_0, ?_⟩
          replace hS := hS.grow hBf0_0
          refine w_grow rfl rfl (s_call Tryd.call14 rfl (hm1 _) ?_)
          rintro r wf0_1 ⟨rfl, hBf0_1⟩
          refine ⟨hBf0_1, ?_⟩
          replace hS := hS.grow hBf0_1
          refine w_grow rfl rfl (s_call Tryd.call13 rfl (hd1 _) ?_)
          rintro r wf0_2 ⟨rfl, hBf0_2⟩
          refine ⟨hBf0_2, ?_⟩
          replace hS := hS.grow hBf0_2
          refine w_pure rfl rfl (s_move  rfl ?_)
          refine w_pure rfl rfl (s_ext  rfl rfl ?_)
          refine w_pure rfl rfl (s_ext  rfl rfl ?_)
          refine w_free rfl rfl (s_sta (k := 0)  rfl rfl vi_31 hS rfl rfl rfl (Nat.le_of_ble_eq_true rfl) rfl ?_)
          intro wz7 hS
          refine w_pure rfl rfl (s_asg  rfl ?_)
          refine w_end ?_
          repeat (with_reducible first | refine c_seq ?_ | refine c_block ?_ | refine c_skip ?_ | refine x_then ?_ | refine x_block ?_)
          replace hS : St w4 _ [(b10, 31, encR (ofQ ex)), (b8, 31, encR (ofQ s))] := hS
          exact ⟨_, rfl, h0, h5, h6, h8, by assumption, by assumption, rfl, b10, rfl, hS⟩
        · refine s_call Tryd.call15 rfl (hi1 _) ?_
          rintro r wf0_99 ⟨rfl, hBf0_99⟩
          refine ⟨hBf0_99, ?_⟩
          replace hS := hS.grow hBf0_99
          refine wx_fork rfl rfl ?_ ?_
          · refine w_grow rfl rfl (s_alloc  vi_31 hS ?_)
            intro b10 wz8 hS hBz8
            refine ⟨hBz8, ?_⟩
            refine w_grow rfl rfl (s_call Tryd.call14 rfl (hm1 _) ?_)
            rintro r wf1_0 ⟨rfl, hBf1_0⟩
            refine ⟨hBf1_0, ?_⟩
            replace hS := hS.grow hBf1_0
            refine w_grow rfl rfl (s_call Tryd.call13 rfl (hd1 _) ?_)
            rintro r wf1_1 ⟨rfl, hBf1_1⟩
            refine ⟨hBf1_1, ?_⟩
            replace hS := hS.grow hBf1_1
            refine w_pure rfl rfl (s_move  rfl ?_)
            refine w_pure rfl rfl (s_ext  rfl rfl ?_)
            refine w_pure rfl rfl (s_ext  rfl rfl ?_)
            refine w_free rfl rfl (s_sta (k := 0)  rfl rfl vi_31 hS rfl rfl rfl (Nat.le_of_ble_eq_true rfl) rfl ?_)
            intro wz9 hS
            refine w_pure rfl rfl (s_asg  rfl ?_)
            refine w_end ?_
            repeat (with_reducible first | refine c_seq ?_ | refine c_block ?_ | refine c_skip ?_ | refine x_then ?_ | refine x_block ?_)
            replace hS : St w4 _ [(b10, 31, encR (ofQ ex)), (b8, 31, encR (ofQ s))] := hS
            exact ⟨_, rfl, h0, h5, h6, h8, by assumption, by assumption, rfl, b10, rfl, hS⟩
          · refine s_call Tryd.call14 rfl (hm1 _) ?_
            rintro r wf1_99 ⟨rfl, hBf1_99⟩
            refine ⟨hBf1_99, ?_⟩
            replace hS := hS.grow hBf1_99
            refine wx_fork rfl rfl ?_ ?_
            · refine w_grow rfl rfl (s_alloc  vi_31 hS ?_)
              intro b10 wz10 hS hBz10
              refine ⟨hBz10, ?_⟩
              refine w_grow rfl rfl (s_call Tryd.call13 rfl (hd1 _) ?_)
              rintro r wf2_0 ⟨rfl, hBf2_0⟩
              refine ⟨hBf2_0, ?_⟩
              replace hS := hS.grow hBf2_0
              refine w_pure rfl rfl (s_move  rfl ?_)
              refine w_pure rfl rfl (s_ext  rfl rfl ?_)
              refine w_pure rfl rfl (s_ext  rfl rfl ?_)
              refine w_free rfl rfl (s_sta (k := 0)  rfl rfl vi_31 hS rfl rfl rfl (Nat.le_of_ble_eq_true rfl) rfl ?_)
              intro wz11 hS
              refine w_pure rfl rfl (s_asg  rfl ?_)
              refine w_end ?_
              repeat (with_reducible first | refine c_seq ?_ | refine c_block ?_ | refine c_skip ?_ | refine x_then ?_ | refine x_block ?_)
              replace hS : St w4 _ [(b10, 31, encR (ofQ ex)), (b8, 31, encR (ofQ s))] := hS
              exact ⟨_, rfl, h0, h5, h6, h8, by assumption, by assumption, rfl, b10, rfl, hS⟩
            · refine s_call Tryd.call13 rfl (hd1 _) ?_
              rintro r wf2_99 ⟨rfl, hBf2_99⟩
              refine ⟨hBf2_99, ?_⟩
              replace hS := hS.grow hBf2_99
              refine wx_pure (by kernel_rfl) rfl rfl (s_move  rfl ?_)
              refine wx_pure (by kernel_rfl) rfl rfl (s_ext  rfl rfl ?_)
              refine wx_pure (by kernel_rfl) rfl rfl (s_ext  rfl rfl ?_)
              refine wx_now (by kernel_rfl) ?_
              refine w_grow rfl rfl (s_alloc  vi_31 hS ?_)
              intro b10 wz12 hS hBz12
              refine ⟨hBz12, ?_⟩
              refine w_free rfl rfl (s_sta (k := 0)  rfl rfl vi_31 hS rfl rfl rfl (Nat.le_of_ble_eq_true rfl) rfl ?_)
              intro wz13 hS
              refine w_pure rfl rfl (s_asg  rfl ?_)
              refine w_end ?_
              repeat (with_reducible first | refine c_seq ?_ | refine c_block ?_ | refine c_skip ?_ | refine x_then ?_ | refine x_block ?_)
              replace hS : St w4 _ [(b10, 31, encR (ofQ ex)), (b8, 31, encR (ofQ s))] := hS
              exact ⟨_, rfl, h0, h5, h6, h8, by assumption, by assumption, rfl, b10, rfl, hS⟩
      clear hS h0 h5 h6 h8 h54 h55
      rintro ρ w7 ⟨h0, h5, h6, h8, h54, h55, h9, b10, h10, hS⟩
      repeat (with_reducible first | refine c_seq ?_ | refine c_block ?_ | refine c_skip ?_ | refine x_then ?_ | refine x_block ?_)
      have hgr : (tab n res).getD i 0 = res i := tab_get _ _ hlt
      refine c_cut1 (fun ρ w' => ρ 0 = .int .u32 (t : Int) ∧ ρ 5 = x ∧ ρ 6 = va ∧ ρ 8 = .pointer (some ⟨b8, 0, none⟩) ∧ ρ 54 = .int .i64 n ∧ ρ 55 = .int .i64 i ∧ ρ 9 = .int .i64 i ∧ ρ 10 = .pointer (some ⟨b10, 0, none⟩) ∧ ∃ b12, ρ 12 = .pointer (some ⟨b12, 0, none⟩) ∧ St w4 w' [(b12, 31, encR (ofQ dd)), (b10, 31, encR (ofQ ex)), (b8, 31, encR (ofQ s))]) ?_ ?_
      · repeat (with_reducible first | refine c_seq ?_ | refine c_block ?_ | refine c_skip ?_ | refine x_then ?_ | refine x_block ?_)
        refine c_float 7 [(0, .pure), (1, .pure), (2, .pure), (3, .read), (5, .read), (4, .grow), (6, .grow), (8, .free)] (by kernel_rfl) (by kernel_rfl) hS ?_
        intro wz14 hS hBz14
        refine wx_pure (by kernel_rfl) rfl rfl (s_move  h6 ?_)
        refine wx_pure (by kernel_rfl) rfl rfl (s_move  h9 ?_)
        refine wx_pure (by kernel_rfl) rfl rfl (s_ixr (i := i)  rfl rfl (hva.below hS.below) (by omega) (by first | omega | (simp; done) | (simp; omega)) si_26 ?_)
        refine wx_read (by kernel_rfl) rfl rfl (s_lde (i := i) 0  rfl vi_2 (hva.below hS.below) (by first | omega | (simp; done) | (simp; omega)) rfl rfl (.inr rfl) ?_)
        refine wx_read (by kernel_rfl) rfl rfl (s_ldo (k := 0)  h10 vi_31 hS rfl rfl rfl (.inl rfl) ?_)
        rw [hgr]
        refine wx_fork rfl rfl ?_ ?_
        · refine w_grow rfl rfl (s_alloc  vi_31 hS ?_)
          intro b12 wz15 hS hBz15
          refine ⟨hBz15, ?_⟩
          refine w_grow rfl rfl (s_call Tryd.call15 rfl (hi2 _) ?_)
          rintro r wf0_0 ⟨rfl, hBf0_0⟩
          refine ⟨hBf0_0, ?_⟩
          replace hS := hS.grow hBf0_0
          refine w_grow rfl rfl (s_call Tryd.call16 rfl (hs2 _) ?_)
          rintro r wf0_1 ⟨rfl, hBf0_1⟩
          refine ⟨hBf0_1, ?_⟩
          replace hS := hS.grow hBf0_1
          refine w_free rfl rfl (s_sta (k := 0)  rfl rfl vi_31 hS rfl rfl rfl (Nat.le_of_ble_eq_true rfl) rfl ?_)
          intro wz16 hS
          refine w_end ?_
          repeat (with_reducible first | refine c_seq ?_ | refine c_block ?_ | refine c_skip ?_ | refine x_then ?_ | refine x_block ?_)
          replace hS : St w4 _ [(b12, 31, encR (ofQ dd)), (b10, 31, encR (ofQ ex)), (b8, 31, encR (ofQ s))] := hS
          exact ⟨_, rfl, h0, h5, h6, h8, by assumption, by assumption, h9, by assumption, b12, rfl, hS⟩
        · refine s_call Tryd.call15 rfl (hi2 _) ?_
          rintro r wf0_99 ⟨rfl, hBf0_99⟩
          refine ⟨hBf0_99, ?_⟩
          replace hS := hS.grow hBf0_99
          refine wx_fork rfl rfl ?_ ?_
          · refine w_grow rfl rfl (s_alloc  vi_31 hS ?_)
            intro b12 wz17 hS hBz17
            refine ⟨hBz17, ?_⟩
            refine w_grow rfl rfl (s_call Tryd.call16 rfl (hs2 _) ?_)
            rintro r wf1_0 ⟨rfl, hBf1_0⟩
            refine ⟨hBf1_0, ?_⟩
            replace hS := hS.grow hBf1_0
            refine w_free rfl rfl (s_sta (k := 0)  rfl rfl vi_31 hS rfl rfl rfl (Nat.le_of_ble_eq_true rfl) rfl ?_)
            intro wz18 hS
            refine w_end ?_
            repeat (with_reducible first | refine c_seq ?_ | refine c_block ?_ | refine c_skip ?_ | refine x_then ?_ | refine x_block ?_)
            replace hS : St w4 _ [(b12, 31, encR (ofQ dd)), (b10, 31, encR (ofQ ex)), (b8, 31, encR (ofQ s))] := hS
            exact ⟨_, rfl, h0, h5, h6, h8, by assumption, by assumption, h9, by assumption, b12, rfl, hS⟩
          · refine s_call Tryd.call16 rfl (hs2 _) ?_
            rintro r wf1_99 ⟨rfl, hBf1_99⟩
            refine ⟨hBf1_99, ?_⟩
            replace hS := hS.grow hBf1_99
            refine wx_now (by kernel_rfl) ?_
            refine w_grow rfl rfl (s_alloc  vi_31 hS ?_)
            intro b12 wz19 hS hBz19
            refine ⟨hBz19, ?_⟩
            refine w_free rfl rfl (s_sta (k := 0)  rfl rfl vi_31 hS rfl rfl rfl (Nat.le_of_ble_eq_true rfl) rfl ?_)
            intro wz20 hS
            refine w_end ?_
            repeat (with_reducible first | refine c_seq ?_ | refine c_block ?_ | refine c_skip ?_ | refine x_then ?_ | refine x_block ?_)
            replace hS : St w4 _ [(b12, 31, encR (ofQ dd)), (b10, 31, encR (ofQ ex)), (b8, 31, encR (ofQ s))] := hS
            exact ⟨_, rfl, h0, h5, h6, h8, by assumption, by assumption, h9, by assumption, b12, rfl, hS⟩
      clear hS h0 h5 h6 h8 h54 h55 h9 h10
      rintro ρ w8 ⟨h0, h5, h6, h8, h54, h55, h9, h10, b12, h12, hS⟩
      repeat (with_reducible first | refine c_seq ?_ | refine c_block ?_ | refine c_skip ?_ | refine x_then ?_ | refine x_block ?_)
      have hg0 : decide ((tab n res).getD i 0 < 0) = false := by rw [hgr]; exact decide_eq_false (by omega)
      repeat (with_reducible first | refine c_seq ?_ | refine c_block ?_ | refine c_skip ?_ | refine x_then ?_ | refine x_block ?_)
      refine c_draw [(0, .pure), (1, .pure), (2, .pure), (3, .read), (4, .pure), (5, .pure), (6, .read), (7, .grow), (8, .grow), (9, .pure), (10, .pure), (11, .pure), (12, .read), (13, .grow), (14, .grow), (15, .pure), (16, .pure)] (by kernel_rfl) (by kernel_rfl) hS ?_
      intro wz21 hS hBz21
      refine w_pure rfl rfl (s_move  h6 ?_)
      refine w_pure rfl rfl (s_move  h9 ?_)
      refine w_pure rfl rfl (s_ixr (i := i)  rfl rfl (hva.below hS.below) (by omega) (by first | omega | (simp; done) | (simp; omega)) si_26 ?_)
      refine w_read rfl rfl (s_lde (i := i) 0  rfl vi_2 (hva.below hS.below) (by first | omega | (simp; done) | (simp; omega)) rfl rfl (.inr rfl) ?_)
      refine w_pure rfl rfl (s_lss  rfl rfl ?_)
      refine w_pure rfl rfl (s_move  rfl ?_)
      refine w_read rfl (gd_yes 83 (by kernel_rfl) rfl hg0) (s_ldo (k := 0)  h12 vi_31 hS rfl rfl rfl (.inl rfl) ?_)
      refine w_grow rfl (gd_yes 83 (by kernel_rfl) rfl hg0) (s_call Tryd.call15 rfl (hone _) ?_)
      rintro r w9 ⟨rfl, hB9⟩
      refine ⟨hB9, ?_⟩
      replace hS := hS.grow hB9
      refine w_grow rfl (gd_yes 83 (by kernel_rfl) rfl hg0) (s_call Tryd.call17 rfl (hc1 _) ?_)
      rintro r w10 ⟨rfl, hB10⟩
      refine ⟨hB10, ?_⟩
      replace hS := hS.grow hB10
      refine w_pure rfl (gd_yes 83 (by kernel_rfl) rfl hg0) (s_geq  rfl rfl ?_)
      refine w_pure rfl rfl (s_pick (vb rfl hg0) rfl ?_)
      refine w_pure rfl rfl (s_move  rfl ?_)
      refine w_read rfl (gd_yes 89 (by kernel_rfl) rfl rfl) (s_ldo (k := 0)  h12 vi_31 hS rfl rfl rfl (.inl rfl) ?_)
      refine w_grow rfl (gd_yes 89 (by kernel_rfl) rfl rfl) (s_call Tryd.call15 rfl (hmone _) ?_)
      rintro r w11 ⟨rfl, hB11⟩
      refine ⟨hB11, ?_⟩
      replace hS := hS.grow hB11
      refine w_grow rfl (gd_yes 89 (by kernel_rfl) rfl rfl) (s_call Tryd.call17 rfl (hc2 _) ?_)
      rintro r w12 ⟨rfl, hB12⟩
      refine ⟨hB12, ?_⟩
      replace hS := hS.grow hB12
      refine w_pure rfl (gd_yes 89 (by kernel_rfl) rfl rfl) (s_leq  rfl rfl ?_)
      refine w_pure rfl rfl (s_pick (vb rfl rfl) rfl ?_)
      refine w_end ?_
      repeat (with_reducible first | refine c_seq ?_ | refine c_block ?_ | refine c_skip ?_ | refine x_then ?_ | refine x_block ?_)
      refine c_no rfl (rfl) ?_
      repeat (with_reducible first | refine c_seq ?_ | refine c_block ?_ | refine c_skip ?_ | refine x_then ?_ | refine x_block ?_)
      by_cases hden : (ofQ ex).den = ⟨#[]⟩
      · have hd0 : dd = 0 := by
          have := c3 (hfr0 (ofQ_den1 hden))
          rw [hdd, this]; grind
        repeat (with_reducible first | refine c_seq ?_ | refine c_block ?_ | refine c_skip ?_ | refine x_then ?_ | refine x_block ?_)
        refine c_reg ?_
        refine l_pure rfl (s_fld  h10 fo_31_2 ?_)
        refine l_read rfl (s_ldo (k := 1)  rfl vi_9 hS rfl rfl rfl (.inr rfl) ?_)
        refine l_pure rfl (s_eqs  rfl rfl ?_)
        refine l_pure rfl (s_move  rfl ?_)
        refine l_read (gd_yes 98 (by kernel_rfl) rfl (decide_eq_true hden)) (s_ldo (k := 0)  h12 vi_31 hS rfl rfl rfl (.inl rfl) ?_)
        refine l_heavy (gd_yes 98 (by kernel_rfl) rfl (decide_eq_true hden)) (s_call Tryd.call10 rfl (hsd _) ?_)
        rintro r w13 ⟨rfl, hB13⟩
        replace hS := hS.grow hB13
        refine l_pure (gd_yes 98 (by kernel_rfl) rfl (decide_eq_true hden)) (s_neq  rfl rfl ?_)
        refine l_pure rfl (s_pick (vb rfl (decide_eq_true hden)) rfl ?_)
        refine l_nil ?_
        repeat (with_reducible first | refine c_seq ?_ | refine c_block ?_ | refine c_skip ?_ | refine x_then ?_ | refine x_block ?_)
        refine c_no rfl (decide_eq_false (not_not_intro (sgnQ_zero.2 hd0))) ?_
        repeat (with_reducible first | refine c_seq ?_ | refine c_block ?_ | refine c_skip ?_ | refine x_then ?_ | refine x_block ?_)
        refine c_reg ?_
        refine l_pure rfl (s_add  h55 rfl (IntWalk.i64_in _ (by omega)) ?_)
        refine l_pure rfl (s_move  rfl ?_)
        refine l_nil ?_
        repeat (with_reducible first | refine c_seq ?_ | refine c_block ?_ | refine c_skip ?_ | refine x_then ?_ | refine x_block ?_)
        exact ⟨i + 1, _, rfl, ⟨hlt, by assumption, by assumption, by assumption, by assumption, by assumption, vi rfl (by omega), hS.drop ((List.sublist_cons_self _ _).trans (List.sublist_cons_self _ _))⟩, by omega⟩
      · repeat (with_reducible first | refine c_seq ?_ | refine c_block ?_ | refine c_skip ?_ | refine x_then ?_ | refine x_block ?_)
        refine c_reg ?_
        refine l_pure rfl (s_fld  h10 fo_31_2 ?_)
        refine l_read rfl (s_ldo (k := 1)  rfl vi_9 hS rfl rfl rfl (.inr rfl) ?_)
        refine l_pure rfl (s_eqs  rfl rfl ?_)
        refine l_pure rfl (s_move  rfl ?_)
        refine l_no (gno_yes 98 (by kernel_rfl) rfl (decide_eq_false hden)) ?_
        refine l_no (gno_yes 98 (by kernel_rfl) rfl (decide_eq_false hden)) ?_
        refine l_no (gno_yes 98 (by kernel_rfl) rfl (decide_eq_false hden)) ?_
        refine l_pure rfl (s_pick (vb rfl (decide_eq_false hden)) rfl ?_)
        refine l_nil ?_
        repeat (with_reducible first | refine c_seq ?_ | refine c_block ?_ | refine c_skip ?_ | refine x_then ?_ | refine x_block ?_)
        refine c_no rfl (rfl) ?_
        repeat (with_reducible first | refine c_seq ?_ | refine c_block ?_ | refine c_skip ?_ | refine x_then ?_ | refine x_block ?_)
        refine c_reg ?_
        refine l_pure rfl (s_add  h55 rfl (IntWalk.i64_in _ (by omega)) ?_)
        refine l_pure rfl (s_move  rfl ?_)
        refine l_nil ?_
        repeat (with_reducible first | refine c_seq ?_ | refine c_block ?_ | refine c_skip ?_ | refine x_then ?_ | refine x_block ?_)
        exact ⟨i + 1, _, rfl, ⟨hlt, by assumption, by assumption, by assumption, by assumption, by assumption, vi rfl (by omega), hS.drop ((List.sublist_cons_self _ _).trans (List.sublist_cons_self _ _))⟩, by omega⟩
    · refine c_no rfl (decide_eq_false (by omega)) ?_
      repeat (with_reducible first | refine c_seq ?_ | refine c_block ?_ | refine c_skip ?_ | refine x_then ?_ | refine x_block ?_)
      refine c_exit ?_
      repeat (with_reducible first | refine x_then_exit ?_ | refine x_block_exit ?_ | refine x_block_pass rfl ?_)
      repeat (with_reducible first | refine c_seq ?_ | refine c_block ?_ | refine c_skip ?_ | refine x_then ?_ | refine x_block ?_)
      refine c_reg ?_
      refine l_heavy rfl (s_call Tryd.call11 rfl (Aawake_ok _) ?_)
      rintro _ wc22 ⟨rfl, hBc22⟩
      replace hS := hS.grow hBc22
      refine l_pure rfl (s_asg  rfl ?_)
      refine l_nil ?_
      repeat (with_reducible first | refine c_seq ?_ | refine c_block ?_ | refine c_skip ?_ | refine x_then ?_ | refine x_block ?_)
      refine c_ret ?_
      repeat (with_reducible first | refine x_then_ret ?_ | refine x_block_ret ?_)
      refine r_one rfl rfl ?_
      exact ⟨rfl, bt hW hS.below⟩
end Go.Proofs.YtmapmdldlcfjhaaDoor
