/-
  Walk: paying charges of the same priority.
-/
import Derived.Test.YtdafaibhiobpaabGreatDoorLawCa
namespace Go.Proofs.YtdafaibhiobpaabGreatDoor
open Go Go.RowKit Go.Sx

theorem tab_setQ {n : Nat} (f : Nat → Rat) (i : Nat) (q : Rat) : (tab n fun j => ofQ (f j)).set i (ofQ q) = tab n fun j => ofQ (if j = i then q else f j) := by
  rw [tab_set]
  refine tab_congr fun j _ => ?_
  split <;> rfl
set_option maxHeartbeats 2000000 in
theorem pay_ok (b n K : Nat) (vc vg : Value) (o cp : Nat → Rat) (m : Rat) (G : List Nat) (w0 w : World) (H : List Blk) (hS : St w0 w ((b, 29, (tab n fun i => ofQ (o i)).flatMap encR) :: H))
    (hG : ∀ w', St w0 w' H → Sl enI 1 w' vg (zI G)) (hC : ∀ w', St w0 w' H → Sl encR 3 w' vc (tab n fun i => ofQ (cp i)))
    (hGn : ∀ i ∈ G, i < n) (hG8 : G.length ≤ 8) (hcp : ∀ i ∈ G, 0 ≤ cp i ∧ L (cp i) ≤ K) (hm0 : 0 ≤ m) (hm : L m ≤ K) (hK : 200 * K + 200 ≤ MX) :
    Ret Tryz.prog 50 #[.slice (some ⟨b, 0, none⟩) n n, vc, vg, aggR (ofQ m)] w fun r w' => r = aggR (ofQ (m - totS cp G * quoQ m (totS cp G))) ∧
      St w0 w' ((b, 29, (tab n fun i => ofQ (if i ∈ G then cp i * quoQ m (totS cp G) else o i)).flatMap encR) :: H) := by
  have hM : MX = 1099511627776 := rfl
  have hzl := zI_len G
  have hG3 : ∀ (x y z u : Blk) w', St w0 w' (x :: y :: z :: u :: H) → Sl enI 1 w' vg (zI G) := fun x y z u w' h => hG w' (h.drop ((((List.sublist_cons_self _ _).trans (List.sublist_cons_self _ _)).trans (List.sublist_cons_self _ _)).trans (List.sublist_cons_self _ _)))
  have hC3 : ∀ (x y z u : Blk) w', St w0 w' (x :: y :: z :: u :: H) → Sl encR 3 w' vc (tab n fun i => ofQ (cp i)) := fun x y z u w' h => hC w' (h.drop ((((List.sublist_cons_self _ _).trans (List.sublist_cons_self _ _)).trans (List.sublist_cons_self _ _)).trans (List.sublist_cons_self _ _)))
  obtain ⟨T, hT⟩ : ∃ T, T = totS cp G := ⟨_, rfl⟩
  have hT0 : 0 ≤ T := by rw [hT]; exact totS_nonneg fun i hi => (hcp i hi).1
  have lsum : ∀ k, k ≤ G.length → L (totS cp (G.take k)) ≤ 8 * (K + 1) + 1 := fun k hk => by
    have h1 := L_totS (q := cp) (J := G.take k) (K := K) fun i hi => (hcp i (List.mem_of_mem_take hi)).2
    have h2 : (G.take k).length * (K + 1) ≤ 8 * (K + 1) := Nat.mul_le_mul_right _ (by rw [List.length_take]; omega)
    omega
  have lT : L T ≤ 8 * (K + 1) + 1 := by
    have := lsum G.length (Nat.le_refl _)
    rwa [List.take_of_length_le (Nat.le_refl _), ← hT] at this
  obtain ⟨q, hq⟩ : ∃ q, q = quoQ m T := ⟨_, rfl⟩
  have lq : L q ≤ K + (8 * (K + 1) + 1) := by rw [hq]; exact quo_L hm lT
  have lo : ∀ i ∈ G, L (cp i * q) ≤ 10 * K + 9 := fun i hi => by
    have := L_mul (cp i) q
    have := (hcp i hi).2
    omega
  obtain ⟨mon, hmon⟩ : ∃ f : Nat → Rat, f = fun k => m - totS (fun i => cp i * q) (G.take k) := ⟨_, rfl⟩
  have hmon0 : mon 0 = m := by rw [hmon]; show m - 0 = m; grind
  have lmon : ∀ k, k ≤ G.length → L (mon k) ≤ 90 * K + 90 := fun k hk => by
    rw [hmon]
    have h1 := L_totS (q := fun i => cp i * q) (J := G.take k) (K := 10 * K + 9) fun i hi => lo i (List.mem_of_mem_take hi)
    have h2 : (G.take k).length * (10 * K + 9 + 1) ≤ 8 * (10 * K + 9 + 1) := Nat.mul_le_mul_right _ (by rw [List.length_take]; omega)
    have h3 := L_sub m (totS (fun i => cp i * q) (G.take k))
    show L (m - _) ≤ _
    omega
  have hmonE : mon G.length = m - totS cp G * quoQ m (totS cp G) := by
    rw [hmon, ← hT, ← hq]
    show m - totS _ (G.take G.length) = _
    rw [List.take_of_length_le (Nat.le_refl _), totS_mul, ← hT]
  obtain ⟨ou, hou⟩ : ∃ f : Nat → Nat → Rat, f = fun k i => if i ∈ G.take k then cp i * q else o i := ⟨_, rfl⟩
  have hou0 : ou 0 = o := by rw [hou]; funext i; show (if i ∈ G.take 0 then _ else _) = _; rw [List.take_zero, if_neg (fun h => nomatch h)]
  have houE : (tab n fun i => ofQ (if i ∈ G then cp i * quoQ m (totS cp G) else o i)) = tab n fun i => ofQ (ou G.length i) := by
    rw [hou, ← hT, ← hq]
    refine tab_congr fun i _ => ?_
    show _ = ofQ (if i ∈ G.take G.length then _ else _)
    rw [List.take_of_length_le (Nat.le_refl _)]
  rw [← hmonE, houE]
  rw [← hou0] at hS
  rw [← hmon0]
  have hmax := hC w (hS.drop (List.sublist_cons_self _ _)) |>.maxLen
  refine enter Tryz.func50 rfl Tryz.ntmps50 rfl ?_
  repeat (with_reducible first | refine c_seq ?_ | refine c_block ?_ | refine c_skip ?_ | refine x_then ?_ | refine x_block ?_)
  refine c_reg ?_
  refine l_heavy rfl (s_box  rfl rfl hS ?_)
  intro b7 wz1 hS hBz1
  refine l_heavy rfl (s_alloc  vi_29 hS ?_)
  intro b8 wz2 hS hBz2
  refine l_nil ?_
  repeat (with_reducible first | refine c_seq ?_ | refine c_block ?_ | refine c_skip ?_ | refine x_then ?_ | refine x_block ?_)
  refine c_reg ?_
  refine l_pure rfl (s_build  rfl bz_29 ?_)
  refine l_heavy rfl (s_alloc  vi_29 hS ?_)
  intro b9 wz3 hS hBz3
  refine l_heavy rfl (s_sta (k := 0)  rfl rfl vi_29 hS rfl rfl rfl (Nat.le_of_ble_eq_true rfl) rfl ?_)
  intro wz4 hS
  refine l_nil ?_
  repeat (with_reducible first | refine c_seq ?_ | refine c_block ?_ | refine c_skip ?_ | refine x_then ?_ | refine x_block ?_)
  replace hS : St w0 _ ((b9, 29, encR zRR) :: (b8, 29, encR zRR) :: (b7, 29, encR (ofQ (mon 0))) :: (b, 29, (tab n fun i => ofQ (ou 0 i)).flatMap encR) :: H) := hS
  rw [encR_zero] at hS
  repeat (with_reducible first | refine c_seq ?_ | refine c_block ?_ | refine c_skip ?_ | refine x_then ?_ | refine x_block ?_)
  refine c_reg ?_
  refine l_pure rfl (s_move  rfl ?_)
  refine l_pure rfl (s_lenr  rfl (hG3 _ _ _ _ _ hS) ⟨_, Tryz.underlying72⟩ ?_)
  refine l_pure rfl (s_move  rfl ?_)
  refine l_nil ?_
  repeat (with_reducible first | refine c_seq ?_ | refine c_skip ?_ | refine x_then ?_ | refine x_block ?_)
  refine c_cut1 (fun ρ w' => ρ 0 = .slice (some ⟨b, 0, none⟩) n n ∧ ρ 1 = vc ∧ ρ 2 = vg ∧ ρ 7 = .pointer (some ⟨b7, 0, none⟩) ∧ ρ 8 = .pointer (some ⟨b8, 0, none⟩) ∧ ρ 9 = .pointer (some ⟨b9, 0, none⟩) ∧
      St w0 w' ((b9, 29, encR (ofQ T)) :: (b8, 29, encR (ofQ 0)) :: (b7, 29, encR (ofQ (mon 0))) :: (b, 29, (tab n fun i => ofQ (ou 0 i)).flatMap encR) :: H)) ?_ ?_
  · repeat (with_reducible first | refine c_seq ?_ | refine c_block ?_ | refine c_skip ?_ | refine x_then ?_ | refine x_block ?_)
    refine c_loop (σ := Nat) (fun k ρ w' => k ≤ G.length ∧ ρ 0 = .slice (some ⟨b, 0, none⟩) n n ∧ ρ 1 = vc ∧ ρ 2 = vg ∧ ρ 7 = .pointer (some ⟨b7, 0, none⟩) ∧ ρ 8 = .pointer (some ⟨b8, 0, none⟩) ∧ ρ 9 = .pointer (some ⟨b9, 0, none⟩) ∧ ρ 16 = vg ∧ ρ 17 = .int .i64 G.length ∧ ρ 18 = .int .i64 k ∧
        St w0 w' ((b9, 29, encR (ofQ (totS cp (G.take k)))) :: (b8, 29, encR (ofQ 0)) :: (b7, 29, encR (ofQ (mon 0))) :: (b, 29, (tab n fun i => ofQ (ou 0 i)).flatMap encR) :: H)) (fun k => G.length - k) 0
      ⟨Nat.zero_le _, rfl, rfl, rfl, rfl, rfl, rfl, rfl, vi rfl (by rw [hzl]), rfl, hS⟩ ?_
    clear hS
    rintro k ρ w2 ⟨hk, h0, h1, h2, h7, h8, h9, h16, h17, h18, hS⟩
    repeat (with_reducible first | refine c_seq ?_ | refine c_block ?_ | refine c_skip ?_ | refine x_then ?_ | refine x_block ?_)
    refine c_reg ?_
    refine l_pure rfl (s_lss  h18 h17 ?_)
    refine l_nil ?_
    repeat (with_reducible first | refine c_seq ?_ | refine c_block ?_ | refine c_skip ?_ | refine x_then ?_ | refine x_block ?_)
    by_cases hlt : k < G.length
    · refine c_yes rfl (decide_eq_true (by omega)) ?_
      repeat (with_reducible first | refine c_seq ?_ | refine c_block ?_ | refine c_skip ?_ | refine x_then ?_ | refine x_block ?_)
      have hzg := zI_get G hlt
      obtain ⟨i, hi⟩ : ∃ i, i = G.getD k 0 := ⟨_, rfl⟩
      have hiG : i ∈ G := by rw [hi]; exact getD_mem G k 0 hlt
      have hin := hGn i hiG
      rw [← hi] at hzg
      have e1 : (tab n fun i => ofQ (cp i)).getD i zRR = ofQ (cp i) := tab_get _ _ hin
      have htl : (tab n fun i => ofQ (cp i)).length = n := tab_len _ _
      have e2 : totS cp (G.take (k + 1)) = totS cp (G.take k) + cp i := by rw [take_succ' G k 0 hlt, totS_snoc, ← hi]
      have l1 := lsum k (by omega)
      have l2 := (hcp i hiG).2
      repeat (with_reducible first | refine c_seq ?_ | refine c_block ?_ | refine c_skip ?_ | refine x_then ?_ | refine x_block ?_)
      refine c_reg ?_
      refine l_pure rfl (s_ixr (i := k)  h16 h18 (hG3 _ _ _ _ _ hS) (by omega) (by first | omega | (simp; done) | (simp; omega)) si_72 ?_)
      refine l_read rfl (s_lde (i := k) 0  rfl vi_3 (hG3 _ _ _ _ _ hS) (by first | omega | (simp; done) | (simp; omega)) rfl rfl (.inr rfl) ?_)
      refine l_pure rfl (s_asg  rfl ?_)
      refine l_nil ?_
      repeat (with_reducible first | refine c_seq ?_ | refine c_block ?_ | refine c_skip ?_ | refine x_then ?_ | refine x_block ?_)
      rw [hzg]
      repeat (with_reducible first | refine c_seq ?_ | refine c_block ?_ | refine c_skip ?_ | refine x_then ?_ | refine x_block ?_)
      refine c_draw [(0, .read), (1, .pure), (2, .pure), (3, .pure), (4, .read), (5, .grow), (6, .free)] (by kernel_rfl) (by kernel_rfl) hS ?_
      intro wz5 hS hBz5
      refine w_read rfl rfl (s_ldo (k := 0)  h9 vi_29 hS rfl rfl rfl (.inl rfl) ?_)
      refine w_pure rfl rfl (s_move  h1 ?_)
      refine w_pure rfl rfl (s_move  rfl ?_)
      refine w_pure rfl rfl (s_ixr (i := i)  rfl rfl (hC3 _ _ _ _ _ hS) (by omega) (by first | omega | (simp; done) | (simp; omega)) si_24 ?_)
      refine w_read rfl rfl (s_lde (i := i) zRR  rfl vi_29 (hC3 _ _ _ _ _ hS) (by first | omega | (simp; done) | (simp; omega)) rfl rfl (.inl rfl) ?_)
      rw [e1]
      refine w_grow rfl rfl (s_call Tryz.call12 rfl (QAdd_ok (ofQ (totS cp (G.take k))) (ofQ (cp i)) _ (by rw [Lr_ofQ, Lr_ofQ]; omega)) ?_)
      rintro r w3 ⟨rfl, hB3⟩
      refine ⟨hB3, ?_⟩
      rw [toQ_ofQ, toQ_ofQ, ← e2]
      replace hS := hS.grow hB3
      refine w_free rfl rfl (s_sta (k := 0)  h9 rfl vi_29 hS rfl rfl rfl (Nat.le_of_ble_eq_true rfl) rfl ?_)
      intro wz6 hS
      refine w_end ?_
      repeat (with_reducible first | refine c_seq ?_ | refine c_block ?_ | refine c_skip ?_ | refine x_then ?_ | refine x_block ?_)
      refine c_reg ?_
      refine l_pure rfl (s_add  h18 rfl (IntWalk.i64_in _ (by omega)) ?_)
      refine l_pure rfl (s_move  rfl ?_)
      refine l_nil ?_
      repeat (with_reducible first | refine c_seq ?_ | refine c_block ?_ | refine c_skip ?_ | refine x_then ?_ | refine x_block ?_)
      exact ⟨k + 1, _, rfl, ⟨hlt, h0, h1, h2, h7, h8, h9, h16, h17, vi rfl (by omega), hS⟩, by omega⟩
    · refine c_no rfl (decide_eq_false (by omega)) ?_
      repeat (with_reducible first | refine c_seq ?_ | refine c_block ?_ | refine c_skip ?_ | refine x_then ?_ | refine x_block ?_)
      refine c_exit ?_
      repeat (with_reducible first | refine x_then_exit ?_ | refine x_block_exit ?_ | refine x_block_pass rfl ?_)
      repeat (with_reducible first | refine c_seq ?_ | refine c_block ?_ | refine c_skip ?_ | refine x_then ?_ | refine x_block ?_)
      have e : G.take k = G := List.take_of_length_le (by omega)
      rw [e, ← hT] at hS
      exact ⟨_, rfl, h0, h1, h2, h7, h8, h9, hS⟩
  clear hS
  rintro ρ w2 ⟨h0, h1, h2, h7, h8, h9, hS⟩
  repeat (with_reducible first | refine c_seq ?_ | refine c_block ?_ | refine c_skip ?_ | refine x_then ?_ | refine x_block ?_)
  refine c_reg ?_
  refine l_heavy rfl (s_call Tryz.call33 rfl (QInt_ok 1 _ (by decide) (by decide)) ?_)
  rintro r w3 ⟨rfl, hB3⟩
  replace hS := hS.grow hB3
  refine l_heavy rfl (s_alloc  vi_29 hS ?_)
  intro b12 wz7 hS hBz7
  refine l_heavy rfl (s_sta (k := 0)  rfl rfl vi_29 hS rfl rfl rfl (Nat.le_of_ble_eq_true rfl) rfl ?_)
  intro wz8 hS
  refine l_nil ?_
  repeat (with_reducible first | refine c_seq ?_ | refine c_block ?_ | refine c_skip ?_ | refine x_then ?_ | refine x_block ?_)
  replace hS : St w0 _ ((b12, 29, encR (ofQ 1)) :: (b9, 29, encR (ofQ T)) :: (b8, 29, encR (ofQ 0)) :: (b7, 29, encR (ofQ (mon 0))) :: (b, 29, (tab n fun i => ofQ (ou 0 i)).flatMap encR) :: H) := hS
  repeat (with_reducible first | refine c_seq ?_ | refine c_block ?_ | refine c_skip ?_ | refine x_then ?_ | refine x_block ?_)
  refine c_forget (fun ρ' => ρ' 0 = .slice (some ⟨b, 0, none⟩) n n ∧ ρ' 1 = vc ∧ ρ' 2 = vg ∧ ρ' 7 = .pointer (some ⟨b7, 0, none⟩) ∧ ρ' 8 = .pointer (some ⟨b8, 0, none⟩) ∧ ρ' 9 = .pointer (some ⟨b9, 0, none⟩) ∧ ρ' 12 = .pointer (some ⟨b12, 0, none⟩) ∧ True) ⟨h0, h1, h2, h7, h8, h9, rfl, trivial⟩ ?_
  rintro ρk9 ⟨hk9_0, hk9_1, hk9_2, hk9_7, hk9_8, hk9_9, hk9_12, -⟩
  have hlm0 : L (mon 0) ≤ K := by rw [hmon0]; exact hm
  repeat (with_reducible first | refine c_seq ?_ | refine c_block ?_ | refine c_skip ?_ | refine x_then ?_ | refine x_block ?_)
  refine c_reg ?_
  refine l_read rfl (s_ldo (k := 3)  hk9_7 vi_29 hS rfl rfl rfl (.inl rfl) ?_)
  refine l_read rfl (s_ldo (k := 1)  hk9_9 vi_29 hS rfl rfl rfl (.inl rfl) ?_)
  refine l_heavy rfl (s_call Tryz.call11 rfl (QCompare_ok (ofQ (mon 0)) (ofQ T) _ (by rw [Lr_ofQ, Lr_ofQ]; omega)) ?_)
  rintro r w4 ⟨rfl, hB4⟩
  rw [toQ_ofQ, toQ_ofQ, hmon0]
  replace hS := hS.grow hB4
  refine l_pure rfl (s_lss  rfl rfl ?_)
  refine l_nil ?_
  repeat (with_reducible first | refine c_seq ?_ | refine c_block ?_ | refine c_skip ?_ | refine x_then ?_ | refine x_block ?_)
  refine c_cut1 (fun ρ w' => ρ 0 = .slice (some ⟨b, 0, none⟩) n n ∧ ρ 1 = vc ∧ ρ 2 = vg ∧ ρ 7 = .pointer (some ⟨b7, 0, none⟩) ∧ ρ 8 = .pointer (some ⟨b8, 0, none⟩) ∧ ρ 12 = .pointer (some ⟨b12, 0, none⟩) ∧
      St w0 w' ((b12, 29, encR (ofQ q)) :: (b8, 29, encR (ofQ 0)) :: (b7, 29, encR (ofQ (mon 0))) :: (b, 29, (tab n fun i => ofQ (ou 0 i)).flatMap encR) :: H)) ?_ ?_
  · repeat (with_reducible first | refine c_seq ?_ | refine c_block ?_ | refine c_skip ?_ | refine x_then ?_ | refine x_block ?_)
    by_cases hlt : m < T
    · have hqe : q = m / T := by rw [hq]; exact if_pos hlt
      have hTne : toQ (ofQ T) ≠ 0 := by rw [toQ_ofQ]; grind
      refine c_yes rfl (decide_eq_true (by unfold cmpQ; rw [if_pos hlt]; decide)) ?_
      repeat (with_reducible first | refine c_seq ?_ | refine c_block ?_ | refine c_skip ?_ | refine x_then ?_ | refine x_block ?_)
      refine c_reg ?_
      refine l_read rfl (s_ldo (k := 3)  hk9_7 vi_29 hS rfl rfl rfl (.inl rfl) ?_)
      refine l_read rfl (s_ldo (k := 1)  hk9_9 vi_29 hS rfl rfl rfl (.inl rfl) ?_)
      refine l_heavy rfl (s_call Tryz.call76 rfl (QDivide_ok (ofQ (mon 0)) (ofQ T) _ (by rw [Lr_ofQ, Lr_ofQ]; omega) hTne) ?_)
      rintro r w5 ⟨rfl, hB5⟩
      rw [toQ_ofQ, toQ_ofQ, hmon0, ← hqe]
      replace hS := hS.grow hB5
      refine l_pure rfl (s_move  rfl ?_)
      refine l_pure rfl (s_ext  rfl rfl ?_)
      refine l_pure rfl (s_ext  rfl rfl ?_)
      refine l_heavy rfl (s_sta (k := 0)  hk9_12 rfl vi_29 hS rfl rfl rfl (Nat.le_of_ble_eq_true rfl) rfl ?_)
      intro wz10 hS
      refine l_nil ?_
      repeat (with_reducible first | refine c_seq ?_ | refine c_block ?_ | refine c_skip ?_ | refine x_then ?_ | refine x_block ?_)
      replace hS : St w0 _ ((b12, 29, encR (ofQ q)) :: (b9, 29, encR (ofQ T)) :: (b8, 29, encR (ofQ 0)) :: (b7, 29, encR (ofQ (mon 0))) :: (b, 29, (tab n fun i => ofQ (ou 0 i)).flatMap encR) :: H) := hS
      rw [hmon0] at hS
      exact ⟨_, rfl, by assumption, by assumption, by assumption, by assumption, by assumption, by assumption, hS.drop ((List.sublist_cons_self _ _).cons_cons _)⟩
    · have hqe : q = 1 := by rw [hq]; exact if_neg hlt
      refine c_no rfl (decide_eq_false (by unfold cmpQ; rw [if_neg hlt]; split <;> decide)) ?_
      repeat (with_reducible first | refine c_seq ?_ | refine c_block ?_ | refine c_skip ?_ | refine x_then ?_ | refine x_block ?_)
      rw [← hqe] at hS
      exact ⟨_, rfl, by assumption, by assumption, by assumption, by assumption, by assumption, by assumption, hS.drop ((List.sublist_cons_self _ _).cons_cons _)⟩
  clear hS h0 h1 h2 h7 h8 h9
  rintro ρ w4 ⟨h0, h1, h2, h7, h8, h12, hS⟩
  repeat (with_reducible first | refine c_seq ?_ | refine c_block ?_ | refine c_skip ?_ | refine x_then ?_ | refine x_block ?_)
  refine c_reg ?_
  refine l_pure rfl (s_move  h2 ?_)
  refine l_pure rfl (s_lenr  rfl (hG3 _ _ _ _ _ hS) ⟨_, Tryz.underlying72⟩ ?_)
  refine l_pure rfl (s_move  rfl ?_)
  refine l_nil ?_
  repeat (with_reducible first | refine c_seq ?_ | refine c_skip ?_ | refine x_then ?_ | refine x_block ?_)
  refine c_cut1 (fun ρ w' => ρ 7 = .pointer (some ⟨b7, 0, none⟩) ∧ ρ 8 = .pointer (some ⟨b8, 0, none⟩) ∧
      St w0 w' ((b12, 29, encR (ofQ q)) :: (b8, 29, encR (ofQ 0)) :: (b7, 29, encR (ofQ (mon G.length))) :: (b, 29, (tab n fun i => ofQ (ou G.length i)).flatMap encR) :: H)) ?_ ?_
  · repeat (with_reducible first | refine c_seq ?_ | refine c_block ?_ | refine c_skip ?_ | refine x_then ?_ | refine x_block ?_)
    refine c_loop (σ := Nat) (fun k ρ w' => k ≤ G.length ∧ ρ 0 = .slice (some ⟨b, 0, none⟩) n n ∧ ρ 1 = vc ∧ ρ 7 = .pointer (some ⟨b7, 0, none⟩) ∧ ρ 8 = .pointer (some ⟨b8, 0, none⟩) ∧ ρ 12 = .pointer (some ⟨b12, 0, none⟩) ∧ ρ 40 = vg ∧ ρ 41 = .int .i64 G.length ∧ ρ 42 = .int .i64 k ∧
        St w0 w' ((b12, 29, encR (ofQ q)) :: (b8, 29, encR (ofQ 0)) :: (b7, 29, encR (ofQ (mon k))) :: (b, 29, (tab n fun i => ofQ (ou k i)).flatMap encR) :: H)) (fun k => G.length - k) 0
      ⟨Nat.zero_le _, by assumption, by assumption, by assumption, by assumption, by assumption, rfl, vi rfl (by rw [hzl]), rfl, hS⟩ ?_
    clear hS h0 h1 h2 h7 h8 h12
    rintro k ρ w5 ⟨hk, h0, h1, h7, h8, h12, h40, h41, h42, hS⟩
    repeat (with_reducible first | refine c_seq ?_ | refine c_block ?_ | refine c_skip ?_ | refine x_then ?_ | refine x_block ?_)
    refine c_reg ?_
    refine l_pure rfl (s_lss  h42 h41 ?_)
    refine l_nil ?_
    repeat (with_reducible first | refine c_seq ?_ | refine c_block ?_ | refine c_skip ?_ | refine x_then ?_ | refine x_block ?_)
    by_cases hlt : k < G.length
    · refine c_yes rfl (decide_eq_true (by omega)) ?_
      repeat (with_reducible first | refine c_seq ?_ | refine c_block ?_ | refine c_skip ?_ | refine x_then ?_ | refine x_block ?_)
      have hzg := zI_get G hlt
      obtain ⟨i, hi⟩ : ∃ i, i = G.getD k 0 := ⟨_, rfl⟩
      have hiG : i ∈ G := by rw [hi]; exact getD_mem G k 0 hlt
      have hin := hGn i hiG
      have htk := take_succ' G k 0 hlt
      rw [← hi] at hzg htk
      have e1 : (tab n fun i => ofQ (cp i)).getD i zRR = ofQ (cp i) := tab_get _ _ hin
      have htl : (tab n fun i => ofQ (cp i)).length = n := tab_len _ _
      have htl2 : (tab n fun i => ofQ (ou k i)).length = n := tab_len _ _
      have htl3 : (tab n fun i => ofQ (ou (k + 1) i)).length = n := tab_len _ _
      have e2 : mon (k + 1) = mon k - cp i * q := by rw [hmon]; show m - totS _ (G.take (k + 1)) = _; rw [htk, totS_snoc]; grind
      have hset : (tab n fun j => ofQ (ou k j)).set i (ofQ (cp i * q)) = tab n fun j => ofQ (ou (k + 1) j) := by
        rw [tab_setQ]
        refine tab_congr fun j _ => ?_
        rw [hou]
        show ofQ (if j = i then _ else if j ∈ G.take k then _ else _) = ofQ (if j ∈ G.take (k + 1) then _ else _)
        rw [htk]
        by_cases g : j = i
        · subst g; simp
        · simp [g]
      have e3 : (tab n fun j => ofQ (ou (k + 1) j)).getD i zRR = ofQ (cp i * q) := by
        rw [tab_get _ _ hin, hou]
        show ofQ (if i ∈ G.take (k + 1) then _ else _) = _
        rw [htk, if_pos (by simp)]
      have l1 := lmon k (by omega)
      have l2 := (hcp i hiG).2
      have l3 := lo i hiG
      repeat (with_reducible first | refine c_seq ?_ | refine c_block ?_ | refine c_skip ?_ | refine x_then ?_ | refine x_block ?_)
      refine c_reg ?_
      refine l_pure rfl (s_ixr (i := k)  h40 h42 (hG3 _ _ _ _ _ hS) (by omega) (by first | omega | (simp; done) | (simp; omega)) si_72 ?_)
      refine l_read rfl (s_lde (i := k) 0  rfl vi_3 (hG3 _ _ _ _ _ hS) (by first | omega | (simp; done) | (simp; omega)) rfl rfl (.inr rfl) ?_)
      refine l_pure rfl (s_asg  rfl ?_)
      refine l_nil ?_
      repeat (with_reducible first | refine c_seq ?_ | refine c_block ?_ | refine c_skip ?_ | refine x_then ?_ | refine x_block ?_)
      rw [hzg]
      repeat (with_reducible first | refine c_seq ?_ | refine c_block ?_ | refine c_skip ?_ | refine x_then ?_ | refine x_block ?_)
      refine c_forget (fun ρ' => ρ' 0 = .slice (some ⟨b, 0, none⟩) n n ∧ ρ' 1 = vc ∧ ρ' 7 = .pointer (some ⟨b7, 0, none⟩) ∧ ρ' 8 = .pointer (some ⟨b8, 0, none⟩) ∧ ρ' 12 = .pointer (some ⟨b12, 0, none⟩) ∧ ρ' 40 = vg ∧ ρ' 41 = .int .i64 G.length ∧ ρ' 42 = .int .i64 k ∧ ρ' 14 = .int .i64 i ∧ True) ⟨h0, h1, h7, h8, h12, h40, h41, h42, rfl, trivial⟩ ?_
      rintro ρk11 ⟨hk11_0, hk11_1, hk11_7, hk11_8, hk11_12, hk11_40, hk11_41, hk11_42, hk11_14, -⟩
      repeat (with_reducible first | refine c_seq ?_ | refine c_block ?_ | refine c_skip ?_ | refine x_then ?_ | refine x_block ?_)
      refine c_draw [(0, .pure), (1, .pure), (2, .pure), (3, .pure), (4, .pure), (5, .read), (6, .read), (7, .grow), (8, .pure), (9, .free)] (by kernel_rfl) (by kernel_rfl) hS ?_
      intro wz12 hS hBz12
      refine w_pure rfl rfl (s_move  hk11_0 ?_)
      refine w_pure rfl rfl (s_move  hk11_14 ?_)
      refine w_pure rfl rfl (s_move  hk11_1 ?_)
      refine w_pure rfl rfl (s_move  hk11_14 ?_)
      refine w_pure rfl rfl (s_ixr (i := i)  rfl rfl (hC3 _ _ _ _ _ hS) (by omega) (by first | omega | (simp; done) | (simp; omega)) si_24 ?_)
      refine w_read rfl rfl (s_lde (i := i) zRR  rfl vi_29 (hC3 _ _ _ _ _ hS) (by first | omega | (simp; done) | (simp; omega)) rfl rfl (.inl rfl) ?_)
      refine w_read rfl rfl (s_ldo (k := 0)  hk11_12 vi_29 hS rfl rfl rfl (.inl rfl) ?_)
      rw [e1]
      refine w_grow rfl rfl (s_call Tryz.call77 rfl (QMultiply_ok (ofQ (cp i)) (ofQ q) _ (by rw [Lr_ofQ, Lr_ofQ]; omega)) ?_)
      rintro r w6 ⟨rfl, hB6⟩
      refine ⟨hB6, ?_⟩
      rw [toQ_ofQ, toQ_ofQ]
      replace hS := hS.grow hB6
      refine w_pure rfl rfl (s_ixo (i := i)  rfl rfl (by omega) (by first | omega | (simp; done) | (simp; omega)) si_24 ?_)
      refine w_free rfl rfl (s_stE (k := 3) (i := i) (enc := encR) (ofQ (cp i * q)) (fun _ => rfl)  rfl rfl vi_29 hS rfl (by first | omega | simp) (by first | omega | (simp; done) | (simp; omega)) rfl rfl ?_)
      intro wz13 hS
      refine w_end ?_
      repeat (with_reducible first | refine c_seq ?_ | refine c_block ?_ | refine c_skip ?_ | refine x_then ?_ | refine x_block ?_)
      replace hS : St w0 _ ((b12, 29, encR (ofQ q)) :: (b8, 29, encR (ofQ 0)) :: (b7, 29, encR (ofQ (mon k))) :: (b, 29, ((tab n fun i => ofQ (ou k i)).set i (ofQ (cp i * q))).flatMap encR) :: H) := hS
      rw [hset] at hS
      repeat (with_reducible first | refine c_seq ?_ | refine c_block ?_ | refine c_skip ?_ | refine x_then ?_ | refine x_block ?_)
      refine c_draw [(0, .read), (1, .pure), (2, .pure), (3, .pure), (4, .read), (5, .grow), (6, .free)] (by kernel_rfl) (by kernel_rfl) hS ?_
      intro wz14 hS hBz14
      refine w_read rfl rfl (s_ldo (k := 2)  hk11_7 vi_29 hS rfl rfl rfl (.inl rfl) ?_)
      refine w_pure rfl rfl (s_move  hk11_0 ?_)
      refine w_pure rfl rfl (s_move  hk11_14 ?_)
      refine w_pure rfl rfl (s_ixo (i := i)  rfl rfl (by omega) (by first | omega | (simp; done) | (simp; omega)) si_24 ?_)
      refine w_read rfl rfl (s_ldE (k := 3) (i := i) (enc := encR) zRR (fun _ => rfl)  rfl vi_29 hS rfl (by first | omega | simp) (by first | omega | (simp; done) | (simp; omega)) rfl (.inl rfl) ?_)
      rw [e3]
      refine w_grow rfl rfl (s_call Tryz.call21 rfl (QSubtract_ok (ofQ (mon k)) (ofQ (cp i * q)) _ (by rw [Lr_ofQ, Lr_ofQ]; omega)) ?_)
      rintro r w7 ⟨rfl, hB7⟩
      refine ⟨hB7, ?_⟩
      rw [toQ_ofQ, toQ_ofQ, ← e2]
      replace hS := hS.grow hB7
      refine w_free rfl rfl (s_sta (k := 2)  hk11_7 rfl vi_29 hS rfl rfl rfl (Nat.le_of_ble_eq_true rfl) rfl ?_)
      intro wz15 hS
      refine w_end ?_
      repeat (with_reducible first | refine c_seq ?_ | refine c_block ?_ | refine c_skip ?_ | refine x_then ?_ | refine x_block ?_)
      refine c_reg ?_
      refine l_pure rfl (s_add  hk11_42 rfl (IntWalk.i64_in _ (by omega)) ?_)
      refine l_pure rfl (s_move  rfl ?_)
      refine l_nil ?_
      repeat (with_reducible first | refine c_seq ?_ | refine c_block ?_ | refine c_skip ?_ | refine x_then ?_ | refine x_block ?_)
      exact ⟨k + 1, _, rfl, ⟨hlt, by assumption, by assumption, by assumption, by assumption, by assumption, by assumption, by assumption, vi rfl (by omega), hS⟩, by omega⟩
    · refine c_no rfl (decide_eq_false (by omega)) ?_
      repeat (with_reducible first | refine c_seq ?_ | refine c_block ?_ | refine c_skip ?_ | refine x_then ?_ | refine x_block ?_)
      refine c_exit ?_
      repeat (with_reducible first | refine x_then_exit ?_ | refine x_block_exit ?_ | refine x_block_pass rfl ?_)
      repeat (with_reducible first | refine c_seq ?_ | refine c_block ?_ | refine c_skip ?_ | refine x_then ?_ | refine x_block ?_)
      obtain rfl : k = G.length := by omega
      exact ⟨_, rfl, h7, h8, hS⟩
  clear hS h0 h1 h2 h7 h8 h12
  rintro ρ w5 ⟨h7, h8, hS⟩
  repeat (with_reducible first | refine c_seq ?_ | refine c_block ?_ | refine c_skip ?_ | refine x_then ?_ | refine x_block ?_)
  refine c_reg ?_
  refine l_read rfl (s_ldo (k := 2)  h7 vi_29 hS rfl rfl rfl (.inl rfl) ?_)
  refine l_heavy rfl (s_sta (k := 1)  h8 rfl vi_29 hS rfl rfl rfl (Nat.le_of_ble_eq_true rfl) rfl ?_)
  intro wz16 hS
  refine l_nil ?_
  repeat (with_reducible first | refine c_seq ?_ | refine c_block ?_ | refine c_skip ?_ | refine x_then ?_ | refine x_block ?_)
  refine c_ret ?_
  repeat (with_reducible first | refine x_then_ret ?_ | refine x_block_ret ?_)
  refine r_cell (k := 1) rfl h8 vi_29 hS rfl rfl ?_
  exact ⟨rfl, hS.drop ((((List.sublist_cons_self _ _)).trans (List.sublist_cons_self _ _)).trans (List.sublist_cons_self _ _))⟩
end Go.Proofs.YtdafaibhiobpaabGreatDoor
