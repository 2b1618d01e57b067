/-
  The law that set-off leaves balances unchanged: its walk.
-/
import Derived.Test.YtdafaibhiobpaaaDoorLawOq
namespace Go.Proofs.YtdafaibhiobpaaaDoor
open Go Go.RowKit Go.Sx

theorem netQ_succ (l : List Ob) (q : Nat → Rat) (a b : Int) (k : Nat) : netQ l q a b (k + 1) = netQ l q a b k + (if isP l a b k = true then q k else 0) - (if isP l b a k = true then q k else 0) := by
  unfold netQ
  rw [sumIf, sumIf]
  grind
theorem L_netQ {l : List Ob} {q : Nat → Rat} {K : Nat} (a b : Int) {k : Nat} (hk : k ≤ 16) (h : ∀ i, i < k → L (q i) ≤ K) : L (netQ l q a b k) ≤ 32 * (K + 1) + 3 := by
  have h1 := L_sumIf k (isP l a b) q K h
  have h2 := L_sumIf k (isP l b a) q K h
  have h3 := L_sub (sumIf k (isP l a b) q) (sumIf k (isP l b a) q)
  have h4 : k * (K + 1) ≤ 16 * (K + 1) := Nat.mul_le_mul_right _ hk
  unfold netQ
  omega
set_option maxHeartbeats 2000000 in
theorem net_ok (vl va : Value) (l : List Ob) (q : Nat → Rat) (a b : Int) (K : Nat) (w : World) (hl : Sl encOb 8 w vl l) (ha : Sl encR 3 w va (tab l.length fun i => ofQ (q i))) (h16 : l.length ≤ 16) (hq : ∀ i, i < l.length → L (q i) ≤ K) (hK : 100 * K + 100 ≤ MX) :
    Ret Tryd.prog 21 #[vl, va, .int .i64 a, .int .i64 b] w fun r w' => r = aggR (ofQ (netQ l q a b l.length)) ∧ Below w.heap.size w w' := by
  have htl : (tab l.length fun i => ofQ (q i)).length = l.length := tab_len _ _
  have hS := St.init w
  refine enter Tryd.func21 rfl Tryd.ntmps21 rfl ?_
  repeat (with_reducible first | refine c_seq ?_ | refine c_block ?_ | refine c_skip ?_ | refine x_then ?_ | refine x_block ?_)
  refine c_reg ?_
  refine l_heavy rfl (s_alloc  vi_26 hS ?_)
  intro b8 wz1 hS hBz1
  refine l_nil ?_
  repeat (with_reducible first | refine c_seq ?_ | refine c_block ?_ | refine c_skip ?_ | refine x_then ?_ | refine x_block ?_)
  refine c_reg ?_
  refine l_pure rfl (s_build  rfl bz_26 ?_)
  refine l_heavy rfl (s_alloc  vi_26 hS ?_)
  intro b9 wz2 hS hBz2
  refine l_heavy rfl (s_sta (k := 0)  rfl rfl vi_26 hS rfl rfl rfl (Nat.le_of_ble_eq_true rfl) rfl ?_)
  intro wz3 hS
  refine l_nil ?_
  repeat (with_reducible first | refine c_seq ?_ | refine c_block ?_ | refine c_skip ?_ | refine x_then ?_ | refine x_block ?_)
  replace hS : St w _ [(b9, 26, encR zRR), (b8, 26, encR zRR)] := hS
  rw [encR_zero] at hS
  repeat (with_reducible first | refine c_seq ?_ | refine c_block ?_ | refine c_skip ?_ | refine x_then ?_ | refine x_block ?_)
  refine c_reg ?_
  refine l_pure rfl (s_move  rfl ?_)
  refine l_pure rfl (s_lenr  rfl (hl.below hS.below) ⟨_, Tryd.underlying22⟩ ?_)
  refine l_pure rfl (s_move  rfl ?_)
  refine l_nil ?_
  repeat (with_reducible first | refine c_seq ?_ | refine c_block ?_ | refine c_skip ?_ | refine x_then ?_ | refine x_block ?_)
  have e0 : (0 : Rat) = netQ l q a b 0 := by show (0 : Rat) = 0 - 0; grind
  refine c_loop (σ := Nat) (fun k ρ w' => k ≤ l.length ∧ ρ 1 = va ∧ ρ 2 = .int .i64 a ∧ ρ 3 = .int .i64 b ∧ ρ 8 = .pointer (some ⟨b8, 0, none⟩) ∧ ρ 9 = .pointer (some ⟨b9, 0, none⟩) ∧ ρ 13 = vl ∧ ρ 14 = .int .i64 l.length ∧ ρ 15 = .int .i64 k ∧
      St w w' [(b9, 26, encR (ofQ (netQ l q a b k))), (b8, 26, encR (ofQ 0))]) (fun k => l.length - k) 0
    ⟨Nat.zero_le _, rfl, rfl, rfl, rfl, rfl, rfl, rfl, rfl, by rw [← e0]; exact hS⟩ ?_
  clear hS
  rintro k ρ w2 ⟨hk, h1, h2, h3, h8, h9, h13, h14, h15, hS⟩
  repeat (with_reducible first | refine c_seq ?_ | refine c_block ?_ | refine c_skip ?_ | refine x_then ?_ | refine x_block ?_)
  refine c_reg ?_
  refine l_pure rfl (s_lss  h15 h14 ?_)
  refine l_nil ?_
  repeat (with_reducible first | refine c_seq ?_ | refine c_block ?_ | refine c_skip ?_ | refine x_then ?_ | refine x_block ?_)
  by_cases hlt : k < l.length
  · refine c_yes rfl (decide_eq_true (by omega)) ?_
    repeat (with_reducible first | refine c_seq ?_ | refine c_block ?_ | refine c_skip ?_ | refine x_then ?_ | refine x_block ?_)
    obtain ⟨o, ho⟩ : ∃ o, o = gO l k := ⟨_, rfl⟩
    have hqk : (tab l.length fun i => ofQ (q i)).getD k zRR = ofQ (q k) := tab_get _ _ hlt
    have l1 := hq k hlt
    have l2 := L_netQ (l := l) (q := q) a b (k := k) (K := K) (by omega) (fun i hi => hq i (by omega))
    have hn1 := netQ_succ l q a b k
    obtain ⟨N0, hN0⟩ : ∃ N, N = netQ l q a b k := ⟨_, rfl⟩
    rw [← hN0] at hS l2 hn1
    repeat (with_reducible first | refine c_seq ?_ | refine c_block ?_ | refine c_skip ?_ | refine x_then ?_ | refine x_block ?_)
    refine c_reg ?_
    refine l_pure rfl (s_move  h15 ?_)
    refine l_pure rfl (s_ixr (i := k)  h13 h15 (hl.below hS.below) (by omega) (by first | omega | (simp; done) | (simp; omega)) si_22 ?_)
    refine l_read rfl (s_lde (i := k) zOb  rfl vi_28 (hl.below hS.below) (by first | omega | (simp; done) | (simp; omega)) rfl rfl (.inl rfl) ?_)
    refine l_heavy rfl (s_alloc  vi_28 hS ?_)
    intro b11 wz4 hS hBz4
    refine l_pure rfl (s_asg  rfl ?_)
    refine l_heavy rfl (s_sta (k := 0)  rfl rfl vi_28 hS rfl rfl rfl (Nat.le_of_ble_eq_true rfl) rfl ?_)
    intro wz5 hS
    refine l_nil ?_
    repeat (with_reducible first | refine c_seq ?_ | refine c_block ?_ | refine c_skip ?_ | refine x_then ?_ | refine x_block ?_)
    replace hS : St w _ [(b11, 28, encOb (gO l k)), (b9, 26, encR (ofQ N0)), (b8, 26, encR (ofQ 0))] := hS
    rw [← ho] at hS
    repeat (with_reducible first | refine c_seq ?_ | refine c_block ?_ | refine c_skip ?_ | refine x_then ?_ | refine x_block ?_)
    refine c_forget (fun ρ' => ρ' 1 = va ∧ ρ' 2 = .int .i64 a ∧ ρ' 3 = .int .i64 b ∧ ρ' 8 = .pointer (some ⟨b8, 0, none⟩) ∧ ρ' 9 = .pointer (some ⟨b9, 0, none⟩) ∧ ρ' 13 = vl ∧ ρ' 14 = .int .i64 l.length ∧ ρ' 15 = .int .i64 k ∧ ρ' 10 = .int .i64 k ∧ ρ' 11 = .pointer (some ⟨b11, 0, none⟩) ∧ True) ⟨h1, h2, h3, h8, h9, h13, h14, h15, rfl, rfl, trivial⟩ ?_
    rintro ρk6 ⟨hk6_1, hk6_2, hk6_3, hk6_8, hk6_9, hk6_13, hk6_14, hk6_15, hk6_10, hk6_11, -⟩
    have hp1 : isP l a b k = (decide (o.deb = a) && decide (o.cre = b)) := by rw [ho]; rfl
    have hp2 : isP l b a k = (decide (o.deb = b) && decide (o.cre = a)) := by rw [ho]; rfl
    obtain ⟨N1, hN1⟩ : ∃ N, N = N0 + (if isP l a b k = true then q k else 0) := ⟨_, rfl⟩
    rw [← hN1] at hn1
    refine c_cut1 (fun ρ w' => ρ 1 = va ∧ ρ 2 = .int .i64 a ∧ ρ 3 = .int .i64 b ∧ ρ 8 = .pointer (some ⟨b8, 0, none⟩) ∧ ρ 9 = .pointer (some ⟨b9, 0, none⟩) ∧ ρ 13 = vl ∧ ρ 14 = .int .i64 l.length ∧ ρ 15 = .int .i64 k ∧ ρ 10 = .int .i64 k ∧ ρ 11 = .pointer (some ⟨b11, 0, none⟩) ∧ ρ 35 = .bool (isP l a b k) ∧
        St w w' [(b11, 28, encOb o), (b9, 26, encR (ofQ N0)), (b8, 26, encR (ofQ 0))]) ?_ ?_
    · rw [hp1]
      by_cases g1 : o.deb = a
      · repeat (with_reducible first | refine c_seq ?_ | refine c_block ?_ | refine c_skip ?_ | refine x_then ?_ | refine x_block ?_)
        refine c_reg ?_
        refine l_pure rfl (s_move  hk6_10 ?_)
        refine l_pure rfl (s_move  hk6_1 ?_)
        refine l_pure rfl (s_lenr  rfl (ha.below hS.below) ⟨_, Tryd.underlying37⟩ ?_)
        refine l_pure rfl (s_lss  rfl rfl ?_)
        refine l_pure rfl (s_move  rfl ?_)
        refine l_pure (gd_yes 24 (by kernel_rfl) rfl (decide_eq_true (by omega))) (s_fld  hk6_11 fo_28_0 ?_)
        refine l_read (gd_yes 24 (by kernel_rfl) rfl (decide_eq_true (by omega))) (s_ldo (k := 0)  rfl vi_3 hS rfl rfl rfl (.inr rfl) ?_)
        refine l_pure (gd_yes 24 (by kernel_rfl) rfl (decide_eq_true (by omega))) (s_move  hk6_2 ?_)
        refine l_pure (gd_yes 24 (by kernel_rfl) rfl (decide_eq_true (by omega))) (s_eql  rfl rfl ?_)
        refine l_pure rfl (s_pick (vb rfl (decide_eq_true (by omega))) rfl ?_)
        refine l_pure rfl (s_move  rfl ?_)
        refine l_pure (gd_yes 30 (by kernel_rfl) rfl (decide_eq_true g1)) (s_fld  hk6_11 fo_28_1 ?_)
        refine l_read (gd_yes 30 (by kernel_rfl) rfl (decide_eq_true g1)) (s_ldo (k := 0)  rfl vi_3 hS rfl rfl rfl (.inr rfl) ?_)
        refine l_pure (gd_yes 30 (by kernel_rfl) rfl (decide_eq_true g1)) (s_move  hk6_3 ?_)
        refine l_pure (gd_yes 30 (by kernel_rfl) rfl (decide_eq_true g1)) (s_eql  rfl rfl ?_)
        refine l_pure rfl (s_pick (vb rfl (decide_eq_true g1)) rfl ?_)
        refine l_nil ?_
        repeat (with_reducible first | refine c_seq ?_ | refine c_block ?_ | refine c_skip ?_ | refine x_then ?_ | refine x_block ?_)
        exact ⟨_, rfl, by assumption, by assumption, by assumption, by assumption, by assumption, by assumption, by assumption, by assumption, by assumption, by assumption, vb rfl (by simp [g1]), hS⟩
      · repeat (with_reducible first | refine c_seq ?_ | refine c_block ?_ | refine c_skip ?_ | refine x_then ?_ | refine x_block ?_)
        refine c_reg ?_
        refine l_pure rfl (s_move  hk6_10 ?_)
        refine l_pure rfl (s_move  hk6_1 ?_)
        refine l_pure rfl (s_lenr  rfl (ha.below hS.below) ⟨_, Tryd.underlying37⟩ ?_)
        refine l_pure rfl (s_lss  rfl rfl ?_)
        refine l_pure rfl (s_move  rfl ?_)
        refine l_pure (gd_yes 24 (by kernel_rfl) rfl (decide_eq_true (by omega))) (s_fld  hk6_11 fo_28_0 ?_)
        refine l_read (gd_yes 24 (by kernel_rfl) rfl (decide_eq_true (by omega))) (s_ldo (k := 0)  rfl vi_3 hS rfl rfl rfl (.inr rfl) ?_)
        refine l_pure (gd_yes 24 (by kernel_rfl) rfl (decide_eq_true (by omega))) (s_move  hk6_2 ?_)
        refine l_pure (gd_yes 24 (by kernel_rfl) rfl (decide_eq_true (by omega))) (s_eql  rfl rfl ?_)
        refine l_pure rfl (s_pick (vb rfl (decide_eq_true (by omega))) rfl ?_)
        refine l_pure rfl (s_move  rfl ?_)
        refine l_no (gno_yes 30 (by kernel_rfl) rfl (decide_eq_false g1)) ?_
        refine l_no (gno_yes 30 (by kernel_rfl) rfl (decide_eq_false g1)) ?_
        refine l_no (gno_yes 30 (by kernel_rfl) rfl (decide_eq_false g1)) ?_
        refine l_no (gno_yes 30 (by kernel_rfl) rfl (decide_eq_false g1)) ?_
        refine l_pure rfl (s_pick (vb rfl (decide_eq_false g1)) rfl ?_)
        refine l_nil ?_
        repeat (with_reducible first | refine c_seq ?_ | refine c_block ?_ | refine c_skip ?_ | refine x_then ?_ | refine x_block ?_)
        exact ⟨_, rfl, by assumption, by assumption, by assumption, by assumption, by assumption, by assumption, by assumption, by assumption, by assumption, by assumption, vb rfl (by simp [g1]), hS⟩
    clear hS h1 h2 h3 h8 h9 h13 h14 h15
    rintro ρ w3 ⟨h1, h2, h3, h8, h9, h13, h14, h15, h10, h11, h35, hS⟩
    refine c_cut1 (fun ρ w' => ρ 1 = va ∧ ρ 2 = .int .i64 a ∧ ρ 3 = .int .i64 b ∧ ρ 8 = .pointer (some ⟨b8, 0, none⟩) ∧ ρ 9 = .pointer (some ⟨b9, 0, none⟩) ∧ ρ 13 = vl ∧ ρ 14 = .int .i64 l.length ∧ ρ 15 = .int .i64 k ∧ ρ 10 = .int .i64 k ∧ ρ 11 = .pointer (some ⟨b11, 0, none⟩) ∧
        St w w' [(b11, 28, encOb o), (b9, 26, encR (ofQ N1)), (b8, 26, encR (ofQ 0))]) ?_ ?_
    · repeat (with_reducible first | refine c_seq ?_ | refine c_block ?_ | refine c_skip ?_ | refine x_then ?_ | refine x_block ?_)
      cases hg : isP l a b k with
      | true =>
        rw [hg, if_pos rfl] at hN1
        refine c_yes h35 hg ?_
        repeat (with_reducible first | refine c_seq ?_ | refine c_block ?_ | refine c_skip ?_ | refine x_then ?_ | refine x_block ?_)
        refine c_draw [(0, .read), (1, .pure), (2, .pure), (3, .pure), (4, .read), (5, .grow), (6, .free)] (by kernel_rfl) (by kernel_rfl) hS ?_
        intro wz7 hS hBz7
        refine w_read rfl rfl (s_ldo (k := 1)  h9 vi_26 hS rfl rfl rfl (.inl rfl) ?_)
        refine w_pure rfl rfl (s_move  h1 ?_)
        refine w_pure rfl rfl (s_move  h10 ?_)
        refine w_pure rfl rfl (s_ixr (i := k)  rfl rfl (ha.below hS.below) (by omega) (by first | omega | (simp; done) | (simp; omega)) si_37 ?_)
        refine w_read rfl rfl (s_lde (i := k) zRR  rfl vi_26 (ha.below hS.below) (by first | omega | (simp; done) | (simp; omega)) rfl rfl (.inl rfl) ?_)
        rw [hqk]
        refine w_grow rfl rfl (s_call Tryd.call24 rfl (QAdd_ok (ofQ N0) (ofQ (q k)) _ (by rw [Lr_ofQ, Lr_ofQ]; omega)) ?_)
        rintro r w4 ⟨rfl, hB4⟩
        refine ⟨hB4, ?_⟩
        rw [toQ_ofQ, toQ_ofQ, ← hN1]
        replace hS := hS.grow hB4
        refine w_free rfl rfl (s_sta (k := 1)  h9 rfl vi_26 hS rfl rfl rfl (Nat.le_of_ble_eq_true rfl) rfl ?_)
        intro wz8 hS
        refine w_end ?_
        repeat (with_reducible first | refine c_seq ?_ | refine c_block ?_ | refine c_skip ?_ | refine x_then ?_ | refine x_block ?_)
        exact ⟨_, rfl, by assumption, by assumption, by assumption, by assumption, by assumption, by assumption, by assumption, by assumption, by assumption, by assumption, hS⟩
      | false =>
        rw [hg, if_neg (by decide)] at hN1
        have e : N1 = N0 := by rw [hN1]; grind
        refine c_no h35 hg ?_
        repeat (with_reducible first | refine c_seq ?_ | refine c_block ?_ | refine c_skip ?_ | refine x_then ?_ | refine x_block ?_)
        exact ⟨_, rfl, by assumption, by assumption, by assumption, by assumption, by assumption, by assumption, by assumption, by assumption, by assumption, by assumption, by rw [e]; exact hS⟩
    clear hS h1 h2 h3 h8 h9 h13 h14 h15 h10 h11 h35
    rintro ρ w4 ⟨h1, h2, h3, h8, h9, h13, h14, h15, h10, h11, hS⟩
    have l3 : L N1 ≤ 33 * (K + 1) + 5 := by
      rw [hN1]
      split
      · have := L_add N0 (q k)
        omega
      · rw [Rat.add_zero]; omega
    repeat (with_reducible first | refine c_seq ?_ | refine c_block ?_ | refine c_skip ?_ | refine x_then ?_ | refine x_block ?_)
    refine c_cut1 (fun ρ w' => ρ 1 = va ∧ ρ 2 = .int .i64 a ∧ ρ 3 = .int .i64 b ∧ ρ 8 = .pointer (some ⟨b8, 0, none⟩) ∧ ρ 9 = .pointer (some ⟨b9, 0, none⟩) ∧ ρ 13 = vl ∧ ρ 14 = .int .i64 l.length ∧ ρ 15 = .int .i64 k ∧ ρ 10 = .int .i64 k ∧ ρ 11 = .pointer (some ⟨b11, 0, none⟩) ∧ ρ 57 = .bool (isP l b a k) ∧
        St w w' [(b11, 28, encOb o), (b9, 26, encR (ofQ N1)), (b8, 26, encR (ofQ 0))]) ?_ ?_
    · rw [hp2]
      by_cases g1 : o.deb = b
      · repeat (with_reducible first | refine c_seq ?_ | refine c_block ?_ | refine c_skip ?_ | refine x_then ?_ | refine x_block ?_)
        refine c_reg ?_
        refine l_pure rfl (s_move  h10 ?_)
        refine l_pure rfl (s_move  h1 ?_)
        refine l_pure rfl (s_lenr  rfl (ha.below hS.below) ⟨_, Tryd.underlying37⟩ ?_)
        refine l_pure rfl (s_lss  rfl rfl ?_)
        refine l_pure rfl (s_move  rfl ?_)
        refine l_pure (gd_yes 46 (by kernel_rfl) rfl (decide_eq_true (by omega))) (s_fld  h11 fo_28_0 ?_)
        refine l_read (gd_yes 46 (by kernel_rfl) rfl (decide_eq_true (by omega))) (s_ldo (k := 0)  rfl vi_3 hS rfl rfl rfl (.inr rfl) ?_)
        refine l_pure (gd_yes 46 (by kernel_rfl) rfl (decide_eq_true (by omega))) (s_move  h3 ?_)
        refine l_pure (gd_yes 46 (by kernel_rfl) rfl (decide_eq_true (by omega))) (s_eql  rfl rfl ?_)
        refine l_pure rfl (s_pick (vb rfl (decide_eq_true (by omega))) rfl ?_)
        refine l_pure rfl (s_move  rfl ?_)
        refine l_pure (gd_yes 52 (by kernel_rfl) rfl (decide_eq_true g1)) (s_fld  h11 fo_28_1 ?_)
        refine l_read (gd_yes 52 (by kernel_rfl) rfl (decide_eq_true g1)) (s_ldo (k := 0)  rfl vi_3 hS rfl rfl rfl (.inr rfl) ?_)
        refine l_pure (gd_yes 52 (by kernel_rfl) rfl (decide_eq_true g1)) (s_move  h2 ?_)
        refine l_pure (gd_yes 52 (by kernel_rfl) rfl (decide_eq_true g1)) (s_eql  rfl rfl ?_)
        refine l_pure rfl (s_pick (vb rfl (decide_eq_true g1)) rfl ?_)
        refine l_nil ?_
        repeat (with_reducible first | refine c_seq ?_ | refine c_block ?_ | refine c_skip ?_ | refine x_then ?_ | refine x_block ?_)
        exact ⟨_, rfl, by assumption, by assumption, by assumption, by assumption, by assumption, by assumption, by assumption, by assumption, by assumption, by assumption, vb rfl (by simp [g1]), hS⟩
      · repeat (with_reducible first | refine c_seq ?_ | refine c_block ?_ | refine c_skip ?_ | refine x_then ?_ | refine x_block ?_)
        refine c_reg ?_
        refine l_pure rfl (s_move  h10 ?_)
        refine l_pure rfl (s_move  h1 ?_)
        refine l_pure rfl (s_lenr  rfl (ha.below hS.below) ⟨_, Tryd.underlying37⟩ ?_)
        refine l_pure rfl (s_lss  rfl rfl ?_)
        refine l_pure rfl (s_move  rfl ?_)
        refine l_pure (gd_yes 46 (by kernel_rfl) rfl (decide_eq_true (by omega))) (s_fld  h11 fo_28_0 ?_)
        refine l_read (gd_yes 46 (by kernel_rfl) rfl (decide_eq_true (by omega))) (s_ldo (k := 0)  rfl vi_3 hS rfl rfl rfl (.inr rfl) ?_)
        refine l_pure (gd_yes 46 (by kernel_rfl) rfl (decide_eq_true (by omega))) (s_move  h3 ?_)
        refine l_pure (gd_yes 46 (by kernel_rfl) rfl (decide_eq_true (by omega))) (s_eql  rfl rfl ?_)
        refine l_pure rfl (s_pick (vb rfl (decide_eq_true (by omega))) rfl ?_)
        refine l_pure rfl (s_move  rfl ?_)
        refine l_no (gno_yes 52 (by kernel_rfl) rfl (decide_eq_false g1)) ?_
        refine l_no (gno_yes 52 (by kernel_rfl) rfl (decide_eq_false g1)) ?_
        refine l_no (gno_yes 52 (by kernel_rfl) rfl (decide_eq_false g1)) ?_
        refine l_no (gno_yes 52 (by kernel_rfl) rfl (decide_eq_false g1)) ?_
        refine l_pure rfl (s_pick (vb rfl (decide_eq_false g1)) rfl ?_)
        refine l_nil ?_
        repeat (with_reducible first | refine c_seq ?_ | refine c_block ?_ | refine c_skip ?_ | refine x_then ?_ | refine x_block ?_)
        exact ⟨_, rfl, by assumption, by assumption, by assumption, by assumption, by assumption, by assumption, by assumption, by assumption, by assumption, by assumption, vb rfl (by simp [g1]), hS⟩
    clear hS h1 h2 h3 h8 h9 h13 h14 h15 h10 h11
    rintro ρ w5 ⟨h1, h2, h3, h8, h9, h13, h14, h15, h10, h11, h57, hS⟩
    refine c_cut1 (fun ρ w' => ρ 1 = va ∧ ρ 2 = .int .i64 a ∧ ρ 3 = .int .i64 b ∧ ρ 8 = .pointer (some ⟨b8, 0, none⟩) ∧ ρ 9 = .pointer (some ⟨b9, 0, none⟩) ∧ ρ 13 = vl ∧ ρ 14 = .int .i64 l.length ∧ ρ 15 = .int .i64 k ∧
        St w w' [(b11, 28, encOb o), (b9, 26, encR (ofQ (netQ l q a b (k + 1)))), (b8, 26, encR (ofQ 0))]) ?_ ?_
    · repeat (with_reducible first | refine c_seq ?_ | refine c_block ?_ | refine c_skip ?_ | refine x_then ?_ | refine x_block ?_)
      cases hg : isP l b a k with
      | true =>
        rw [hg, if_pos rfl] at hn1
        refine c_yes h57 hg ?_
        repeat (with_reducible first | refine c_seq ?_ | refine c_block ?_ | refine c_skip ?_ | refine x_then ?_ | refine x_block ?_)
        refine c_draw [(0, .read), (1, .pure), (2, .pure), (3, .pure), (4, .read), (5, .grow), (6, .free)] (by kernel_rfl) (by kernel_rfl) hS ?_
        intro wz9 hS hBz9
        refine w_read rfl rfl (s_ldo (k := 1)  h9 vi_26 hS rfl rfl rfl (.inl rfl) ?_)
        refine w_pure rfl rfl (s_move  h1 ?_)
        refine w_pure rfl rfl (s_move  h10 ?_)
        refine w_pure rfl rfl (s_ixr (i := k)  rfl rfl (ha.below hS.below) (by omega) (by first | omega | (simp; done) | (simp; omega)) si_37 ?_)
        refine w_read rfl rfl (s_lde (i := k) zRR  rfl vi_26 (ha.below hS.below) (by first | omega | (simp; done) | (simp; omega)) rfl rfl (.inl rfl) ?_)
        rw [hqk]
        refine w_grow rfl rfl (s_call Tryd.call25 rfl (QSubtract_ok (ofQ N1) (ofQ (q k)) _ (by rw [Lr_ofQ, Lr_ofQ]; omega)) ?_)
        rintro r w6 ⟨rfl, hB6⟩
        refine ⟨hB6, ?_⟩
        rw [toQ_ofQ, toQ_ofQ, ← hn1]
        replace hS := hS.grow hB6
        refine w_free rfl rfl (s_sta (k := 1)  h9 rfl vi_26 hS rfl rfl rfl (Nat.le_of_ble_eq_true rfl) rfl ?_)
        intro wz10 hS
        refine w_end ?_
        repeat (with_reducible first | refine c_seq ?_ | refine c_block ?_ | refine c_skip ?_ | refine x_then ?_ | refine x_block ?_)
        exact ⟨_, rfl, by assumption, by assumption, by assumption, by assumption, by assumption, by assumption, by assumption, by assumption, hS⟩
      | false =>
        rw [hg, if_neg (by decide)] at hn1
        have e : N1 = netQ l q a b (k + 1) := by rw [hn1]; grind
        refine c_no h57 hg ?_
        repeat (with_reducible first | refine c_seq ?_ | refine c_block ?_ | refine c_skip ?_ | refine x_then ?_ | refine x_block ?_)
        exact ⟨_, rfl, by assumption, by assumption, by assumption, by assumption, by assumption, by assumption, by assumption, by assumption, by rw [← e]; exact hS⟩
    clear hS h1 h2 h3 h8 h9 h13 h14 h15 h10 h11 h57
    rintro ρ w6 ⟨h1, h2, h3, h8, h9, h13, h14, h15, hS⟩
    repeat (with_reducible first | refine c_seq ?_ | refine c_block ?_ | refine c_skip ?_ | refine x_then ?_ | refine x_block ?_)
    refine c_reg ?_
    refine l_pure rfl (s_add  h15 rfl (IntWalk.i64_in _ (by omega)) ?_)
    refine l_pure rfl (s_move  rfl ?_)
    refine l_nil ?_
    repeat (with_reducible first | refine c_seq ?_ | refine c_block ?_ | refine c_skip ?_ | refine x_then ?_ | refine x_block ?_)
    exact ⟨k + 1, _, rfl, ⟨hlt, by assumption, by assumption, by assumption, by assumption, by assumption, by assumption, by assumption, vi rfl (by omega), hS.drop (List.sublist_cons_self _ _)⟩, by omega⟩
  · refine c_no rfl (decide_eq_false (by omega)) ?_
    repeat (with_reducible first | refine c_seq ?_ | refine c_block ?_ | refine c_skip ?_ | refine x_then ?_ | refine x_block ?_)
    refine c_exit ?_
    repeat (with_reducible first | refine x_then_exit ?_ | refine x_block_exit ?_ | refine x_block_pass rfl ?_)
    repeat (with_reducible first | refine c_seq ?_ | refine c_block ?_ | refine c_skip ?_ | refine x_then ?_ | refine x_block ?_)
    obtain rfl : k = l.length := by omega
    repeat (with_reducible first | refine c_seq ?_ | refine c_block ?_ | refine c_skip ?_ | refine x_then ?_ | refine x_block ?_)
    refine c_reg ?_
    refine l_read rfl (s_ldo (k := 0)  h9 vi_26 hS rfl rfl rfl (.inl rfl) ?_)
    refine l_heavy rfl (s_sta (k := 1)  h8 rfl vi_26 hS rfl rfl rfl (Nat.le_of_ble_eq_true rfl) rfl ?_)
    intro wz11 hS
    refine l_nil ?_
    repeat (with_reducible first | refine c_seq ?_ | refine c_block ?_ | refine c_skip ?_ | refine x_then ?_ | refine x_block ?_)
    refine c_ret ?_
    repeat (with_reducible first | refine x_then_ret ?_ | refine x_block_ret ?_)
    refine r_cell (k := 1) rfl h8 vi_26 hS rfl rfl ?_
    exact ⟨rfl, hS.below⟩
end Go.Proofs.YtdafaibhiobpaaaDoor
