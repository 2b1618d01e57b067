/-
  Walk: sharing an item out.
-/
import Derived.Test.YtdafaibhiobpaabGreatDoorLawCd
namespace Go.Proofs.YtdafaibhiobpaabGreatDoor
open Go Go.RowKit Go.Sx

theorem sl_ord {w0 w : World} {H : List Blk} {k b : Nat} {t : TypeId} {J : List Nat} {n : Nat} (hS : St w0 w H) (hk : H[k]? = some (b, t, (zI J).flatMap enI)) (hn : J.length = n) (h : n ≤ 1000000) : Sl enI 1 w (.slice (some ⟨b, 0, none⟩) n n) (zI J) := by
  have h1 := hS.sle (k := k) (L := zI J) (n := n) (cap := n) hk enI_len (by rw [zI_len]; omega) (Nat.le_refl _) (by omega)
  rwa [List.take_of_length_le (by rw [zI_len]; omega)] at h1
theorem rd_sub {b n : Nat} {J : List Nat} {vo : Value} {t : Nat} (h : ∀ w', Sl enI 1 w' (.slice (some ⟨b, 0, none⟩) n n) (zI J) → Sl enI 1 w' vo (zI (J.drop t))) {g : Nat} (hg : t + g ≤ J.length) :
    (∀ w', Sl enI 1 w' (.slice (some ⟨b, 0, none⟩) n n) (zI J) → Sl enI 1 w' (slsub vo 1 0 g) (zI ((J.drop t).take g))) ∧
    (∀ w', Sl enI 1 w' (.slice (some ⟨b, 0, none⟩) n n) (zI J) → Sl enI 1 w' (slsub vo 1 g (zI (J.drop t)).length) (zI (J.drop (t + g)))) := by
  constructor
  · intro w' hw
    have h1 := (h w' hw).sub enI_len (by decide) (lo := 0) (hi := g) (Nat.zero_le _) (by rw [zI_len, List.length_drop]; omega)
    rwa [List.drop_zero, Nat.sub_zero, zI_take] at h1
  · intro w' hw
    have h1 := (h w' hw).sub enI_len (by decide) (lo := g) (hi := (zI (J.drop t)).length) (by rw [zI_len, List.length_drop]; omega) (Nat.le_refl _)
    rw [zI_drop, zI_take, List.drop_drop, List.take_of_length_le (by rw [List.length_drop, zI_len, List.length_drop]; omega)] at h1
    exact h1
theorem mem_drop_get {J : List Nat} {s i : Nat} (h : i ∈ J.drop s) : ∃ b, s ≤ b ∧ b < J.length ∧ J.getD b 0 = i := by
  obtain ⟨b, hb, e⟩ := List.getElem_of_mem h
  rw [List.length_drop] at hb
  rw [List.getElem_drop] at e
  exact ⟨s + b, by omega, by omega, by rw [List.getD_eq_getElem?_getD, List.getElem?_eq_getElem (by omega)]; exact e⟩
theorem ord_mono {cs : List Ch} {J : List Nat} (h : J.Pairwise (aheadC cs)) {a b : Nat} (hab : a ≤ b) (hb : b < J.length) : pr cs (J.getD a 0) ≤ pr cs (J.getD b 0) := by
  by_cases e : a = b
  · subst e; omega
  · have := List.pairwise_iff_getElem.1 h a b (by omega) hb (by omega)
    rw [List.getD_eq_getElem?_getD, List.getD_eq_getElem?_getD, List.getElem?_eq_getElem hb, List.getElem?_eq_getElem (show a < J.length by omega)]
    show pr cs J[a] ≤ pr cs J[b]
    unfold aheadC at this
    omega
theorem getD_drop {α : Type} (l : List α) (t g : Nat) (d : α) : (l.drop t).getD g d = l.getD (t + g) d := by
  rw [List.getD_eq_getElem?_getD, List.getElem?_drop, List.getD_eq_getElem?_getD]
/-- Sizes of what is in the hand while an item is shared out. -/
theorem mon_L {cs : List Ch} {ow : Nat → Rat} {m K : Nat} (h : ChOk cs ow m K) {P : Rat} (hP : L P ≤ 2 * K + 1) {J : List Nat} (hJ : J.length ≤ 8) : L (maxQ (P - totS (kapQ cs ow) J) 0) ≤ 75 * K + 85 := by
  have h1 := L_totS (q := kapQ cs ow) (J := J) (K := 9 * K + 9) fun i _ => (kap_bound h i).2
  have h2 : J.length * (9 * K + 9 + 1) ≤ 8 * (9 * K + 9 + 1) := Nat.mul_le_mul_right _ hJ
  have h3 := L_max0 (P - totS (kapQ cs ow) J)
  have h4 := L_sub P (totS (kapQ cs ow) J)
  omega

set_option maxHeartbeats 8000000 in
theorem share_ok (x : It) (vc vo : Value) (owed : List RR) (K : Nat) (w : World) (hch : Sl encCh 6 w vc x.charges) (ho : Sl encR 3 w vo owed) (hok : ChOk x.charges (owF owed) owed.length K)
    (hp1 : Lr x.price ≤ K) (hp2 : Lr x.costs ≤ K) (hm : owed.length ≤ 1000000) (hoB : RB K owed) (hK : 20000 * K + 20000 ≤ MX) :
    Ret Tryz.prog 25 #[aggIt x vc, vo] w fun r w' => ∃ b, r = .tuple #[.slice (some ⟨b, 0, none⟩) x.charges.length x.charges.length, aggR (ofQ (lefQ x.charges (kapQ x.charges (owF owed)) (procQ x)))] ∧
      St w w' [(b, 29, (tab x.charges.length fun i => ofQ (shQ x.charges (kapQ x.charges (owF owed)) (procQ x) i)).flatMap encR)] := by
  have hM : MX = 1099511627776 := rfl
  obtain ⟨cs, hcs⟩ : ∃ cs, cs = x.charges := ⟨_, rfl⟩
  obtain ⟨P, hP⟩ : ∃ P, P = procQ x := ⟨_, rfl⟩
  have lP : L P ≤ 2 * K + 1 := by have := L_proc x; rw [hP]; omega
  have hproc := fun a n c w => Proceeds_ok x a n c w (by omega)
  rw [← hP] at hproc
  have hP0 : 0 ≤ P := by rw [hP]; unfold procQ maxQ; split <;> grind
  rw [← hcs, ← hP]
  rw [← hcs] at hch hok
  have hn8 := hok.n8
  obtain ⟨J, hJ⟩ : ∃ J, J = ordC cs := ⟨_, rfl⟩
  have hJl : J.length = cs.length := by rw [hJ]; exact ordC_len cs
  have hJm : ∀ i, i ∈ J ↔ i < cs.length := fun i => by rw [hJ]; exact ordC_mem
  have hJs : J.Pairwise (aheadC cs) := by rw [hJ]; exact ordC_sorted cs
  obtain ⟨kp, hkp⟩ : ∃ f, f = kapQ cs (owF owed) := ⟨_, rfl⟩
  have hkb := fun i => kap_bound hok i
  have hml := fun (M : List Nat) h => mon_L hok lP (J := M) h
  rw [← hkp] at hkb hml ⊢
  obtain ⟨ac, cc, hvc, _, _, _⟩ := hch.form
  have hone : vc.oneCell' = true := by rw [hvc]; rfl
  have hproc2 : ∀ w, Ret Tryz.prog 14 #[aggIt x vc] w fun v w' => v = aggR (ofQ P) ∧ Below w.heap.size w w' := fun w => by rw [hvc]; exact hproc _ _ _ w
  have hcb := fun k hk => kapS_bound hok (J := J) (fun i hi => (hJm i).1 hi) k hk
  have hS := St.init w
  have hW := hS.below
  refine enter Tryz.func25 rfl Tryz.ntmps25 rfl ?_
  repeat (with_reducible first | refine c_seq ?_ | refine c_block ?_ | refine c_skip ?_ | refine x_then ?_ | refine x_block ?_)
  refine c_reg ?_
  refine l_heavy rfl (s_box  rfl rfl hS ?_)
  intro b2 wz1 hS hBz1
  refine l_pure rfl (s_asg  rfl ?_)
  refine l_heavy rfl (s_alloc  vi_29 hS ?_)
  intro b5 wz2 hS hBz2
  refine l_nil ?_
  repeat (with_reducible first | refine c_seq ?_ | refine c_block ?_ | refine c_skip ?_ | refine x_then ?_ | refine x_block ?_)
  replace hS : St w _ [(b5, 29, encR zRR), (b2, 32, encIt (x, vc))] := hS
  repeat (with_reducible first | refine c_seq ?_ | refine c_block ?_ | refine c_skip ?_ | refine x_then ?_ | refine x_block ?_)
  refine c_reg ?_
  refine l_pure rfl (s_fld  rfl fo_32_2 ?_)
  refine l_read rfl (s_ldo (k := 1)  rfl vi_30 hS rfl rfl rfl (.inr rfl) ?_)
  refine l_heavy rfl (s_alloc  vi_30 hS ?_)
  intro b6 wz3 hS hBz3
  refine l_heavy rfl (s_stc (k := 0)  rfl rfl vi_30 hS rfl (Nat.le_of_ble_eq_true rfl) hone ?_)
  intro wz4 hS
  refine l_nil ?_
  repeat (with_reducible first | refine c_seq ?_ | refine c_block ?_ | refine c_skip ?_ | refine x_then ?_ | refine x_block ?_)
  replace hS : St w _ [(b6, 30, [vc]), (b5, 29, encR zRR), (b2, 32, encIt (x, vc))] := hS
  repeat (with_reducible first | refine c_seq ?_ | refine c_block ?_ | refine c_skip ?_ | refine x_then ?_ | refine x_block ?_)
  refine c_reg ?_
  refine l_read rfl (s_ldo (k := 0)  rfl vi_30 hS rfl rfl rfl (.inr rfl) ?_)
  refine l_pure rfl (s_lenr  rfl (hch.below hS.below) ⟨_, Tryz.underlying30⟩ ?_)
  refine l_heavy rfl (s_makeE (enc := enI) (n := cs.length) 0  rfl rfl si_72 rfl (by omega) (by omega) (by omega) (by omega) hS ?_)
  intro b7 wz5 hS hBz5
  refine l_pure rfl (s_asg  rfl ?_)
  refine l_nil ?_
  repeat (with_reducible first | refine c_seq ?_ | refine c_block ?_ | refine c_skip ?_ | refine x_then ?_ | refine x_block ?_)
  rw [tab_rep] at hS
  repeat (with_reducible first | refine c_seq ?_ | refine c_block ?_ | refine c_skip ?_ | refine x_then ?_ | refine x_block ?_)
  refine c_reg ?_
  refine l_pure rfl (s_move  rfl ?_)
  refine l_pure rfl (s_leno  rfl ⟨_, Tryz.underlying72⟩ ?_)
  refine l_pure rfl (s_move  rfl ?_)
  refine l_nil ?_
  repeat (with_reducible first | refine c_seq ?_ | refine c_skip ?_ | refine x_then ?_ | refine x_block ?_)
  refine c_cut1 (fun ρ w' => ρ 1 = vo ∧ ρ 2 = .pointer (some ⟨b2, 0, none⟩) ∧ ρ 5 = .pointer (some ⟨b5, 0, none⟩) ∧ ρ 6 = .pointer (some ⟨b6, 0, none⟩) ∧ ρ 7 = .slice (some ⟨b7, 0, none⟩) cs.length cs.length ∧
      St w w' [(b7, 3, (zI (List.range cs.length)).flatMap enI), (b6, 30, [vc]), (b5, 29, encR zRR), (b2, 32, encIt (x, vc))]) ?_ ?_
  · repeat (with_reducible first | refine c_seq ?_ | refine c_block ?_ | refine c_skip ?_ | refine x_then ?_ | refine x_block ?_)
    refine c_loop (σ := Nat) (fun i ρ w' => i ≤ cs.length ∧ ρ 1 = vo ∧ ρ 2 = .pointer (some ⟨b2, 0, none⟩) ∧ ρ 5 = .pointer (some ⟨b5, 0, none⟩) ∧ ρ 6 = .pointer (some ⟨b6, 0, none⟩) ∧ ρ 7 = .slice (some ⟨b7, 0, none⟩) cs.length cs.length ∧ ρ 23 = .int .i64 cs.length ∧ ρ 24 = .int .i64 i ∧
        St w w' [(b7, 3, (tab cs.length fun j => if j < i then (j : Int) else 0).flatMap enI), (b6, 30, [vc]), (b5, 29, encR zRR), (b2, 32, encIt (x, vc))]) (fun i => cs.length - i) 0
      ⟨Nat.zero_le _, rfl, rfl, rfl, rfl, rfl, rfl, rfl, hS⟩ ?_
    clear hS
    rintro i ρ w2 ⟨hi, h1, h2, h5, h6, h7, h23, h24, hS⟩
    repeat (with_reducible first | refine c_seq ?_ | refine c_block ?_ | refine c_skip ?_ | refine x_then ?_ | refine x_block ?_)
    refine c_reg ?_
    refine l_pure rfl (s_lss  h24 h23 ?_)
    refine l_nil ?_
    repeat (with_reducible first | refine c_seq ?_ | refine c_block ?_ | refine c_skip ?_ | refine x_then ?_ | refine x_block ?_)
    by_cases hlt : i < cs.length
    · refine c_yes rfl (decide_eq_true (by omega)) ?_
      repeat (with_reducible first | refine c_seq ?_ | refine c_block ?_ | refine c_skip ?_ | refine x_then ?_ | refine x_block ?_)
      have htl : (tab cs.length fun j => if j < i then (j : Int) else 0).length = cs.length := tab_len _ _
      have hset : (tab cs.length fun j => if j < i then (j : Int) else 0).set i (i : Int) = tab cs.length fun j => if j < i + 1 then (j : Int) else 0 := by
        rw [tab_set]
        refine tab_congr fun j _ => ?_
        by_cases e : j = i
        · subst e; rw [if_pos rfl, if_pos (by omega)]
        · rw [if_neg e]
          by_cases e2 : j < i
          · rw [if_pos e2, if_pos (by omega)]
          · rw [if_neg e2, if_neg (by omega)]
      repeat (with_reducible first | refine c_seq ?_ | refine c_block ?_ | refine c_skip ?_ | refine x_then ?_ | refine x_block ?_)
      refine c_reg ?_
      refine l_pure rfl (s_move  h24 ?_)
      refine l_pure rfl (s_asg  rfl ?_)
      refine l_nil ?_
      repeat (with_reducible first | refine c_seq ?_ | refine c_block ?_ | refine c_skip ?_ | refine x_then ?_ | refine x_block ?_)
      refine c_reg ?_
      refine l_pure rfl (s_move  h7 ?_)
      refine l_pure rfl (s_move  rfl ?_)
      refine l_pure rfl (s_move  rfl ?_)
      refine l_pure rfl (s_ixo (i := i)  rfl rfl (by omega) (by first | omega | (simp; done) | (simp; omega)) si_72 ?_)
      refine l_heavy rfl (s_stE (k := 0) (i := i) (enc := enI) (i : Int) (fun _ => rfl)  rfl rfl vi_3 hS rfl (by first | omega | simp) (by first | omega | (simp; done) | (simp; omega)) rfl rfl ?_)
      intro wz6 hS
      refine l_nil ?_
      repeat (with_reducible first | refine c_seq ?_ | refine c_block ?_ | refine c_skip ?_ | refine x_then ?_ | refine x_block ?_)
      replace hS : St w _ [(b7, 3, ((tab cs.length fun j => if j < i then (j : Int) else 0).set i (i : Int)).flatMap enI), (b6, 30, [vc]), (b5, 29, encR zRR), (b2, 32, encIt (x, vc))] := hS
      rw [hset] at hS
      repeat (with_reducible first | refine c_seq ?_ | refine c_block ?_ | refine c_skip ?_ | refine x_then ?_ | refine x_block ?_)
      refine c_reg ?_
      refine l_pure rfl (s_add  h24 rfl (IntWalk.i64_in _ (by omega)) ?_)
      refine l_pure rfl (s_move  rfl ?_)
      refine l_nil ?_
      repeat (with_reducible first | refine c_seq ?_ | refine c_block ?_ | refine c_skip ?_ | refine x_then ?_ | refine x_block ?_)
      exact ⟨i + 1, _, rfl, ⟨hlt, h1, h2, h5, h6, h7, h23, vi rfl (by omega), hS⟩, by omega⟩
    · refine c_no rfl (decide_eq_false (by omega)) ?_
      repeat (with_reducible first | refine c_seq ?_ | refine c_block ?_ | refine c_skip ?_ | refine x_then ?_ | refine x_block ?_)
      refine c_exit ?_
      repeat (with_reducible first | refine x_then_exit ?_ | refine x_block_exit ?_ | refine x_block_pass rfl ?_)
      repeat (with_reducible first | refine c_seq ?_ | refine c_block ?_ | refine c_skip ?_ | refine x_then ?_ | refine x_block ?_)
      obtain rfl : i = cs.length := by omega
      have e : (tab cs.length fun j => if j < cs.length then (j : Int) else 0) = zI (List.range cs.length) := by
        unfold zI tab
        exact List.map_congr_left fun j hj => if_pos (List.mem_range.1 hj)
      rw [e] at hS
      exact ⟨_, rfl, h1, h2, h5, h6, h7, hS⟩
  clear hS
  rintro ρ w2 ⟨h1, h2, h5, h6, h7, hS⟩
  repeat (with_reducible first | refine c_seq ?_ | refine c_block ?_ | refine c_skip ?_ | refine x_then ?_ | refine x_block ?_)
  have hc : CmpOk 46 [.pointer (some ⟨b6, 0, none⟩)] (cmpC cs) (zI (List.range cs.length)) w b7 3 [(b6, 30, [vc]), (b5, 29, encR zRR), (b2, 32, encIt (x, vc))] := by
    refine ⟨Tryz.call46, fun cs' u v w' hS' hx hy => ?_⟩
    obtain ⟨i, hi, rfl⟩ := List.mem_map.1 hx
    obtain ⟨k, hk, rfl⟩ := List.mem_map.1 hy
    exact share1_ok b6 i k vc cs w' (hS'.at (k := 1) rfl 0 1) (hch.below hS'.below) (List.mem_range.1 hi) (List.mem_range.1 hk)
  have hsort := SortStable_ok (zI (List.range cs.length)) hc [] cs.length cs.length (by rw [zI_len, List.length_range]) (by omega) w2 (by rw [List.append_nil]; exact hS)
  rw [sort_zC, List.append_nil, show isort (lower cs) (List.range cs.length) = J from hJ.symm] at hsort
  repeat (with_reducible first | refine c_seq ?_ | refine c_block ?_ | refine c_skip ?_ | refine x_then ?_ | refine x_block ?_)
  refine c_reg ?_
  refine l_pure rfl (s_move  h7 ?_)
  refine l_pure rfl (s_mkf1  h6 ?_)
  refine l_heavy rfl (s_call Tryz.call45 rfl (hsort) ?_)
  rintro r w3 ⟨rfl, hS3⟩
  clear hS
  have hS := hS3
  refine l_nil ?_
  repeat (with_reducible first | refine c_seq ?_ | refine c_block ?_ | refine c_skip ?_ | refine x_then ?_ | refine x_block ?_)
  refine c_forget (fun ρ' => ρ' 1 = vo ∧ ρ' 2 = .pointer (some ⟨b2, 0, none⟩) ∧ ρ' 5 = .pointer (some ⟨b5, 0, none⟩) ∧ ρ' 6 = .pointer (some ⟨b6, 0, none⟩) ∧ ρ' 7 = .slice (some ⟨b7, 0, none⟩) cs.length cs.length ∧ True) ⟨h1, h2, h5, h6, h7, trivial⟩ ?_
  rintro ρk7 ⟨hk7_1, hk7_2, hk7_5, hk7_6, hk7_7, -⟩
  repeat (with_reducible first | refine c_seq ?_ | refine c_block ?_ | refine c_skip ?_ | refine x_then ?_ | refine x_block ?_)
  refine c_reg ?_
  refine l_pure rfl (s_move  hk7_1 ?_)
  refine l_heavy rfl (s_call Tryz.call47 rfl (Clone_ok vo owed _ (ho.below hS.below) hm) ?_)
  rintro r w4 ⟨LO, hG, hSO⟩
  replace hS : St w w4 ([(b7, 3, (zI J).flatMap enI), (b6, 30, [vc]), (b5, 29, encR zRR), (b2, 32, encIt (x, vc))] ++ LO) := (hS.join hSO).perm List.perm_append_comm
  refine l_pure rfl (s_asg  rfl ?_)
  refine l_nil ?_
  repeat (with_reducible first | refine c_seq ?_ | refine c_block ?_ | refine c_skip ?_ | refine x_then ?_ | refine x_block ?_)
  refine c_forget (fun ρ' => ρ' 2 = .pointer (some ⟨b2, 0, none⟩) ∧ ρ' 5 = .pointer (some ⟨b5, 0, none⟩) ∧ ρ' 6 = .pointer (some ⟨b6, 0, none⟩) ∧ ρ' 7 = .slice (some ⟨b7, 0, none⟩) cs.length cs.length ∧ ρ' 9 = r ∧ True) ⟨hk7_2, hk7_5, hk7_6, hk7_7, rfl, trivial⟩ ?_
  rintro ρk8 ⟨hk8_2, hk8_5, hk8_6, hk8_7, hk8_9, -⟩
  repeat (with_reducible first | refine c_seq ?_ | refine c_block ?_ | refine c_skip ?_ | refine x_then ?_ | refine x_block ?_)
  refine c_reg ?_
  refine l_read rfl (s_ldo (k := 1)  hk8_6 vi_30 hS rfl rfl rfl (.inr rfl) ?_)
  refine l_pure rfl (s_lenr  rfl (hch.below hS.below) ⟨_, Tryz.underlying30⟩ ?_)
  refine l_heavy rfl (s_makeE (enc := encR) (n := cs.length) zRR  rfl rfl si_24 rfl (by omega) (by omega) (by omega) (by omega) hS ?_)
  intro b10 wz9 hS hBz9
  refine l_pure rfl (s_asg  rfl ?_)
  refine l_nil ?_
  repeat (with_reducible first | refine c_seq ?_ | refine c_block ?_ | refine c_skip ?_ | refine x_then ?_ | refine x_block ?_)
  rw [tab_rep] at hS
  have e0 : (tab cs.length fun _ => zRR) = tab cs.length fun i => ofQ ((kapS cs (owF owed) (J.take 0)).cap i) := tab_congr fun i _ => ofQ_zero.symm
  rw [e0] at hS
  repeat (with_reducible first | refine c_seq ?_ | refine c_block ?_ | refine c_skip ?_ | refine x_then ?_ | refine x_block ?_)
  refine c_forget (fun ρ' => ρ' 2 = .pointer (some ⟨b2, 0, none⟩) ∧ ρ' 5 = .pointer (some ⟨b5, 0, none⟩) ∧ ρ' 6 = .pointer (some ⟨b6, 0, none⟩) ∧ ρ' 7 = .slice (some ⟨b7, 0, none⟩) cs.length cs.length ∧ ρ' 9 = r ∧ ρ' 10 = .slice (some ⟨b10, 0, none⟩) cs.length cs.length ∧ True) ⟨hk8_2, hk8_5, hk8_6, hk8_7, hk8_9, rfl, trivial⟩ ?_
  rintro ρk10 ⟨hk10_2, hk10_5, hk10_6, hk10_7, hk10_9, hk10_10, -⟩
  repeat (with_reducible first | refine c_seq ?_ | refine c_block ?_ | refine c_skip ?_ | refine x_then ?_ | refine x_block ?_)
  refine c_reg ?_
  refine l_pure rfl (s_move  hk10_7 ?_)
  refine l_pure rfl (s_leno  rfl ⟨_, Tryz.underlying72⟩ ?_)
  refine l_pure rfl (s_move  rfl ?_)
  refine l_nil ?_
  repeat (with_reducible first | refine c_seq ?_ | refine c_skip ?_ | refine x_then ?_ | refine x_block ?_)
  refine c_cut1 (fun ρ w' => ρ 2 = .pointer (some ⟨b2, 0, none⟩) ∧ ρ 5 = .pointer (some ⟨b5, 0, none⟩) ∧ ρ 6 = .pointer (some ⟨b6, 0, none⟩) ∧ ρ 7 = .slice (some ⟨b7, 0, none⟩) cs.length cs.length ∧ ρ 10 = .slice (some ⟨b10, 0, none⟩) cs.length cs.length ∧
      St w w' [(b10, 29, (tab cs.length fun i => ofQ (kp i)).flatMap encR), (b7, 3, (zI J).flatMap enI), (b6, 30, [vc]), (b5, 29, encR zRR), (b2, 32, encIt (x, vc))]) ?_ ?_
  · repeat (with_reducible first | refine c_seq ?_ | refine c_block ?_ | refine c_skip ?_ | refine x_then ?_ | refine x_block ?_)
    refine c_loop (σ := Nat) (fun t ρ w' => t ≤ J.length ∧ ρ 2 = .pointer (some ⟨b2, 0, none⟩) ∧ ρ 5 = .pointer (some ⟨b5, 0, none⟩) ∧ ρ 6 = .pointer (some ⟨b6, 0, none⟩) ∧ ρ 7 = .slice (some ⟨b7, 0, none⟩) cs.length cs.length ∧ ρ 9 = r ∧ ρ 10 = .slice (some ⟨b10, 0, none⟩) cs.length cs.length ∧ ρ 40 = .slice (some ⟨b7, 0, none⟩) cs.length cs.length ∧ ρ 41 = .int .i64 cs.length ∧ ρ 42 = .int .i64 t ∧
        ∃ O LO, O.length = owed.length ∧ (∀ c, c < owed.length → toQ (O.getD c zRR) = (kapS cs (owF owed) (J.take t)).op c ∧ Lr (O.getD c zRR) ≤ 9 * K + 9) ∧ Gl encR 29 3 r O LO ∧
        St w w' ([(b10, 29, (tab cs.length fun i => ofQ ((kapS cs (owF owed) (J.take t)).cap i)).flatMap encR), (b7, 3, (zI J).flatMap enI), (b6, 30, [vc]), (b5, 29, encR zRR), (b2, 32, encIt (x, vc))] ++ LO)) (fun t => J.length - t) 0
      ⟨Nat.zero_le _, by assumption, by assumption, by assumption, by assumption, by assumption, by assumption, rfl, rfl, rfl, owed, LO, rfl, fun c hc => ⟨rfl, Nat.le_trans (hoB _ (getD_mem owed c zRR hc)) (by omega)⟩, hG, hS⟩ ?_
    clear hS hG h1 h2 h5 h6 h7
    rintro t ρ w5 ⟨ht, h2, h5, h6, h7, h9, h10, h40, h41, h42, O, LO, hOl, hO, hG, hS⟩
    repeat (with_reducible first | refine c_seq ?_ | refine c_block ?_ | refine c_skip ?_ | refine x_then ?_ | refine x_block ?_)
    refine c_reg ?_
    refine l_pure rfl (s_lss  h42 h41 ?_)
    refine l_nil ?_
    repeat (with_reducible first | refine c_seq ?_ | refine c_block ?_ | refine c_skip ?_ | refine x_then ?_ | refine x_block ?_)
    by_cases hlt : t < J.length
    · refine c_yes rfl (decide_eq_true (by omega)) ?_
      repeat (with_reducible first | refine c_seq ?_ | refine c_block ?_ | refine c_skip ?_ | refine x_then ?_ | refine x_block ?_)
      have hzg := zI_get J hlt
      obtain ⟨i, hi⟩ : ∃ i, i = J.getD t 0 := ⟨_, rfl⟩
      have hiJ : i ∈ J := by rw [hi]; exact getD_mem J t 0 hlt
      have hin := (hJm i).1 hiJ
      have htk := take_succ' J t 0 hlt
      rw [← hi] at hzg htk
      obtain ⟨c, hc0⟩ : ∃ c, c = cs.getD i zCh := ⟨_, rfl⟩
      obtain ⟨k, hk0⟩ : ∃ k, k = clm cs i := ⟨_, rfl⟩
      obtain ⟨hkm, hck⟩ := hok.cl hin
      rw [← hk0] at hkm hck
      replace hck : c.claim = (k : Int) := by rw [hc0]; exact hck
      have hcl := hok.lB i hin
      replace hcl : Lr c.limit ≤ K := by rw [hc0]; exact hcl
      obtain ⟨S, hSe⟩ : ∃ S, S = kapS cs (owF owed) (J.take t) := ⟨_, rfl⟩
      obtain ⟨cb1, cb2⟩ := hcb t (by omega)
      obtain ⟨db1, db2⟩ := hcb (t + 1) (by omega)
      have bt : t * (K + 1) ≤ 7 * (K + 1) := Nat.mul_le_mul_right _ (by omega)
      have bt1 : (t + 1) * (K + 1) ≤ 8 * (K + 1) := Nat.mul_le_mul_right _ (by omega)
      rw [htk, kapS_snoc] at db1 db2
      rw [← hSe] at hO hS cb1 cb2 db1 db2
      obtain ⟨c1, c2, c3⟩ := cb1 k hkm
      obtain ⟨hO1, hO2⟩ := hO k hkm
      obtain ⟨rm, hrm⟩ : ∃ q, q = roomQ c (S.op k) := ⟨_, rfl⟩
      have hrm2 : roomQ (gC cs i) (S.op (clm cs i)) = rm := by rw [hrm, hc0, hk0]; rfl
      have hop : ∀ j, (cstp cs S i).op j = if j = k then S.op k - rm else S.op j := fun j => by
        show (if j = clm cs i then _ else _) = _
        rw [hrm2, ← hk0]
        split
        · next e => rw [e]
        · rfl
      have hcap : ∀ j, (cstp cs S i).cap j = if j = i then rm else S.cap j := fun j => by
        show (if j = i then _ else _) = _
        rw [hrm2]
      have hmx : maxQ (S.op k) 0 = S.op k := maxQ_pos c1
      have hrm3 : rm = if c.lim = true then minQ (S.op k) (toQ c.limit) else S.op k := by rw [hrm, roomQ_of c1]
      have lrm : L rm ≤ 9 * K + 9 := by
        have := (db2 i).2
        rw [hcap, if_pos rfl] at this
        omega
      have hzn : (zI J).length = J.length := zI_len J
      have htl : (tab cs.length fun j => ofQ (S.cap j)).length = cs.length := tab_len _ _
      repeat (with_reducible first | refine c_seq ?_ | refine c_block ?_ | refine c_skip ?_ | refine x_then ?_ | refine x_block ?_)
      refine c_reg ?_
      refine l_pure rfl (s_ixo (i := t)  h40 h42 (by omega) (by first | omega | (simp; done) | (simp; omega)) si_72 ?_)
      refine l_read rfl (s_ldE (k := 1) (i := t) (enc := enI) 0 (fun _ => rfl)  rfl vi_3 hS rfl (by first | omega | simp) (by first | omega | (simp; done) | (simp; omega)) rfl (.inr rfl) ?_)
      refine l_pure rfl (s_asg  rfl ?_)
      refine l_nil ?_
      repeat (with_reducible first | refine c_seq ?_ | refine c_block ?_ | refine c_skip ?_ | refine x_then ?_ | refine x_block ?_)
      rw [hzg]
      repeat (with_reducible first | refine c_seq ?_ | refine c_block ?_ | refine c_skip ?_ | refine x_then ?_ | refine x_block ?_)
      refine c_forget (fun ρ' => ρ' 2 = .pointer (some ⟨b2, 0, none⟩) ∧ ρ' 5 = .pointer (some ⟨b5, 0, none⟩) ∧ ρ' 6 = .pointer (some ⟨b6, 0, none⟩) ∧ ρ' 7 = .slice (some ⟨b7, 0, none⟩) cs.length cs.length ∧ ρ' 9 = r ∧ ρ' 10 = .slice (some ⟨b10, 0, none⟩) cs.length cs.length ∧ ρ' 40 = .slice (some ⟨b7, 0, none⟩) cs.length cs.length ∧ ρ' 41 = .int .i64 cs.length ∧ ρ' 42 = .int .i64 t ∧ ρ' 12 = .int .i64 i ∧ True) ⟨h2, h5, h6, h7, h9, h10, h40, h41, h42, rfl, trivial⟩ ?_
      rintro ρk11 ⟨hk11_2, hk11_5, hk11_6, hk11_7, hk11_9, hk11_10, hk11_40, hk11_41, hk11_42, hk11_12, -⟩
      repeat (with_reducible first | refine c_seq ?_ | refine c_block ?_ | refine c_skip ?_ | refine x_then ?_ | refine x_block ?_)
      refine c_reg ?_
      refine l_read rfl (s_ldo (k := 2)  hk11_6 vi_30 hS rfl rfl rfl (.inr rfl) ?_)
      refine l_pure rfl (s_move  hk11_12 ?_)
      refine l_pure rfl (s_ixr (i := i)  rfl rfl (hch.below hS.below) (by omega) (by first | omega | (simp; done) | (simp; omega)) si_30 ?_)
      refine l_read rfl (s_lde (i := i) zCh  rfl vi_38 (hch.below hS.below) (by first | omega | (simp; done) | (simp; omega)) rfl rfl (.inl rfl) ?_)
      refine l_heavy rfl (s_alloc  vi_38 hS ?_)
      intro b13 wz12 hS hBz12
      refine l_heavy rfl (s_sta (k := 0)  rfl rfl vi_38 hS rfl rfl rfl (Nat.le_of_ble_eq_true rfl) rfl ?_)
      intro wz13 hS
      refine l_nil ?_
      repeat (with_reducible first | refine c_seq ?_ | refine c_block ?_ | refine c_skip ?_ | refine x_then ?_ | refine x_block ?_)
      replace hS : St w _ ((b13, 38, encCh (cs.getD i zCh)) :: (b10, 29, (tab cs.length fun i => ofQ (S.cap i)).flatMap encR) :: (b7, 3, (zI J).flatMap enI) :: (b6, 30, [vc]) :: (b5, 29, encR zRR) :: (b2, 32, encIt (x, vc)) :: LO) := hS
      rw [← hc0] at hS
      repeat (with_reducible first | refine c_seq ?_ | refine c_block ?_ | refine c_skip ?_ | refine x_then ?_ | refine x_block ?_)
      refine c_forget (fun ρ' => ρ' 2 = .pointer (some ⟨b2, 0, none⟩) ∧ ρ' 5 = .pointer (some ⟨b5, 0, none⟩) ∧ ρ' 6 = .pointer (some ⟨b6, 0, none⟩) ∧ ρ' 7 = .slice (some ⟨b7, 0, none⟩) cs.length cs.length ∧ ρ' 9 = r ∧ ρ' 10 = .slice (some ⟨b10, 0, none⟩) cs.length cs.length ∧ ρ' 40 = .slice (some ⟨b7, 0, none⟩) cs.length cs.length ∧ ρ' 41 = .int .i64 cs.length ∧ ρ' 42 = .int .i64 t ∧ ρ' 12 = .int .i64 i ∧ ρ' 13 = .pointer (some ⟨b13, 0, none⟩) ∧ True) ⟨hk11_2, hk11_5, hk11_6, hk11_7, hk11_9, hk11_10, hk11_40, hk11_41, hk11_42, hk11_12, rfl, trivial⟩ ?_
      rintro ρk14 ⟨hk14_2, hk14_5, hk14_6, hk14_7, hk14_9, hk14_10, hk14_40, hk14_41, hk14_42, hk14_12, hk14_13, -⟩
      have hL0 : Lr zRR = 1 := Lr_zRR
      repeat (with_reducible first | refine c_seq ?_ | refine c_block ?_ | refine c_skip ?_ | refine x_then ?_ | refine x_block ?_)
      refine c_reg ?_
      refine l_pure rfl (s_move  hk14_10 ?_)
      refine l_pure rfl (s_move  hk14_12 ?_)
      refine l_pure rfl (s_move  hk14_9 ?_)
      refine l_pure rfl (s_fld  hk14_13 fo_38_0 ?_)
      refine l_read rfl (s_ldo (k := 0)  rfl vi_3 hS rfl rfl rfl (.inr rfl) ?_)
      refine l_pure rfl (s_ixr (i := k)  rfl rfl (hG.sl (H := [(b13, 38, encCh c), (b10, 29, (tab cs.length fun i => ofQ (S.cap i)).flatMap encR), (b7, 3, (zI J).flatMap enI), (b6, 30, [vc]), (b5, 29, encR zRR), (b2, 32, encIt (x, vc))]) hS encR_len) (by omega) (by first | omega | (simp; done) | (simp; omega)) si_24 ?_)
      refine l_read rfl (s_lde (i := k) zRR  rfl vi_29 (hG.sl (H := [(b13, 38, encCh c), (b10, 29, (tab cs.length fun i => ofQ (S.cap i)).flatMap encR), (b7, 3, (zI J).flatMap enI), (b6, 30, [vc]), (b5, 29, encR zRR), (b2, 32, encIt (x, vc))]) hS encR_len) (by first | omega | (simp; done) | (simp; omega)) rfl rfl (.inl rfl) ?_)
      refine l_pure rfl (s_build  rfl bz_29 ?_)
      refine l_heavy rfl (s_call Tryz.call48 rfl (QMax_ok (O.getD k zRR) zRR _ (by omega)) ?_)
      rintro r' w6 ⟨rfl, hB6⟩
      rw [toQ_zRR, hO1, hmx]
      replace hS := hS.grow hB6
      refine l_pure rfl (s_ixo (i := i)  rfl rfl (by omega) (by first | omega | (simp; done) | (simp; omega)) si_24 ?_)
      refine l_heavy rfl (s_stE (k := 1) (i := i) (enc := encR) (ofQ (S.op k)) (fun _ => rfl)  rfl rfl vi_29 hS rfl (by first | omega | simp) (by first | omega | (simp; done) | (simp; omega)) rfl rfl ?_)
      intro wz15 hS
      refine l_nil ?_
      repeat (with_reducible first | refine c_seq ?_ | refine c_block ?_ | refine c_skip ?_ | refine x_then ?_ | refine x_block ?_)
      replace hS : St w _ ((b13, 38, encCh c) :: (b10, 29, ((tab cs.length fun i => ofQ (S.cap i)).set i (ofQ (S.op k))).flatMap encR) :: (b7, 3, (zI J).flatMap enI) :: (b6, 30, [vc]) :: (b5, 29, encR zRR) :: (b2, 32, encIt (x, vc)) :: LO) := hS
      rw [tab_setQ] at hS
      have htl2 : (tab cs.length fun j => ofQ (if j = i then S.op k else S.cap j)).length = cs.length := tab_len _ _
      have hg2 : (tab cs.length fun j => ofQ (if j = i then S.op k else S.cap j)).getD i zRR = ofQ (S.op k) := by rw [tab_get _ _ hin, if_pos rfl]
      repeat (with_reducible first | refine c_seq ?_ | refine c_block ?_ | refine c_skip ?_ | refine x_then ?_ | refine x_block ?_)
      refine c_forget (fun ρ' => ρ' 2 = .pointer (some ⟨b2, 0, none⟩) ∧ ρ' 5 = .pointer (some ⟨b5, 0, none⟩) ∧ ρ' 6 = .pointer (some ⟨b6, 0, none⟩) ∧ ρ' 7 = .slice (some ⟨b7, 0, none⟩) cs.length cs.length ∧ ρ' 9 = r ∧ ρ' 10 = .slice (some ⟨b10, 0, none⟩) cs.length cs.length ∧ ρ' 40 = .slice (some ⟨b7, 0, none⟩) cs.length cs.length ∧ ρ' 41 = .int .i64 cs.length ∧ ρ' 42 = .int .i64 t ∧ ρ' 12 = .int .i64 i ∧ ρ' 13 = .pointer (some ⟨b13, 0, none⟩) ∧ True) ⟨hk14_2, hk14_5, hk14_6, hk14_7, hk14_9, hk14_10, hk14_40, hk14_41, hk14_42, hk14_12, hk14_13, trivial⟩ ?_
      rintro ρk16 ⟨hk16_2, hk16_5, hk16_6, hk16_7, hk16_9, hk16_10, hk16_40, hk16_41, hk16_42, hk16_12, hk16_13, -⟩
      repeat (with_reducible first | refine c_seq ?_ | refine c_block ?_ | refine c_skip ?_ | refine x_then ?_ | refine x_block ?_)
      refine c_reg ?_
      refine l_pure rfl (s_fld  hk16_13 fo_38_2 ?_)
      refine l_read rfl (s_ldo (k := 0)  rfl vi_4 hS rfl rfl rfl (.inr rfl) ?_)
      refine l_nil ?_
      repeat (with_reducible first | refine c_seq ?_ | refine c_skip ?_ | refine x_then ?_ | refine x_block ?_)
      refine c_cut1 (fun ρ w' => ρ 2 = .pointer (some ⟨b2, 0, none⟩) ∧ ρ 5 = .pointer (some ⟨b5, 0, none⟩) ∧ ρ 6 = .pointer (some ⟨b6, 0, none⟩) ∧ ρ 7 = .slice (some ⟨b7, 0, none⟩) cs.length cs.length ∧ ρ 9 = r ∧ ρ 10 = .slice (some ⟨b10, 0, none⟩) cs.length cs.length ∧ ρ 40 = .slice (some ⟨b7, 0, none⟩) cs.length cs.length ∧ ρ 41 = .int .i64 cs.length ∧ ρ 42 = .int .i64 t ∧ ρ 12 = .int .i64 i ∧ ρ 13 = .pointer (some ⟨b13, 0, none⟩) ∧
          St w w' ((b13, 38, encCh c) :: (b10, 29, (tab cs.length fun j => ofQ ((cstp cs S i).cap j)).flatMap encR) :: (b7, 3, (zI J).flatMap enI) :: (b6, 30, [vc]) :: (b5, 29, encR zRR) :: (b2, 32, encIt (x, vc)) :: LO)) ?_ ?_
      · repeat (with_reducible first | refine c_seq ?_ | refine c_block ?_ | refine c_skip ?_ | refine x_then ?_ | refine x_block ?_)
        cases hlm : c.lim with
        | true =>
          rw [if_pos hlm] at hrm3
          refine c_yes rfl (hlm) ?_
          repeat (with_reducible first | refine c_seq ?_ | refine c_block ?_ | refine c_skip ?_ | refine x_then ?_ | refine x_block ?_)
          refine c_draw [(0, .pure), (1, .pure), (2, .pure), (3, .pure), (4, .pure), (5, .read), (6, .pure), (7, .read), (8, .grow), (9, .pure), (10, .free)] (by kernel_rfl) (by kernel_rfl) hS ?_
          intro wz17 hS hBz17
          refine w_pure rfl rfl (s_move  hk16_10 ?_)
          refine w_pure rfl rfl (s_move  hk16_12 ?_)
          refine w_pure rfl rfl (s_move  hk16_10 ?_)
          refine w_pure rfl rfl (s_move  hk16_12 ?_)
          refine w_pure rfl rfl (s_ixo (i := i)  rfl rfl (by omega) (by first | omega | (simp; done) | (simp; omega)) si_24 ?_)
          refine w_read rfl rfl (s_ldE (k := 1) (i := i) (enc := encR) zRR (fun _ => rfl)  rfl vi_29 hS rfl (by first | omega | simp) (by first | omega | (simp; done) | (simp; omega)) rfl (.inl rfl) ?_)
          refine w_pure rfl rfl (s_fld  hk16_13 fo_38_3 ?_)
          refine w_read rfl rfl (s_ldo (k := 0)  rfl vi_29 hS rfl rfl rfl (.inl rfl) ?_)
          rw [hg2]
          refine w_grow rfl rfl (s_call Tryz.call49 rfl (QMin_ok (ofQ (S.op k)) c.limit _ (by rw [Lr_ofQ]; omega)) ?_)
          rintro r' w7 ⟨rfl, hB7⟩
          refine ⟨hB7, ?_⟩
          rw [toQ_ofQ, ← hrm3]
          replace hS := hS.grow hB7
          refine w_pure rfl rfl (s_ixo (i := i)  rfl rfl (by omega) (by first | omega | (simp; done) | (simp; omega)) si_24 ?_)
          refine w_free rfl rfl (s_stE (k := 1) (i := i) (enc := encR) (ofQ rm) (fun _ => rfl)  rfl rfl vi_29 hS rfl (by first | omega | simp) (by first | omega | (simp; done) | (simp; omega)) rfl rfl ?_)
          intro wz18 hS
          refine w_end ?_
          repeat (with_reducible first | refine c_seq ?_ | refine c_block ?_ | refine c_skip ?_ | refine x_then ?_ | refine x_block ?_)
          replace hS : St w _ ((b13, 38, encCh c) :: (b10, 29, ((tab cs.length fun j => ofQ (if j = i then S.op k else S.cap j)).set i (ofQ rm)).flatMap encR) :: (b7, 3, (zI J).flatMap enI) :: (b6, 30, [vc]) :: (b5, 29, encR zRR) :: (b2, 32, encIt (x, vc)) :: LO) := hS
          rw [tab_setQ, tab_congr (g := fun j => ofQ ((cstp cs S i).cap j)) (fun j _ => by rw [hcap]; by_cases e : j = i <;> simp [e])] at hS
          exact ⟨_, rfl, by assumption, by assumption, by assumption, by assumption, by assumption, by assumption, by assumption, by assumption, by assumption, by assumption, by assumption, hS⟩
        | false =>
          rw [if_neg (by rw [hlm]; decide)] at hrm3
          refine c_no rfl (hlm) ?_
          repeat (with_reducible first | refine c_seq ?_ | refine c_block ?_ | refine c_skip ?_ | refine x_then ?_ | refine x_block ?_)
          rw [tab_congr (g := fun j => ofQ ((cstp cs S i).cap j)) (fun j _ => by rw [hcap, hrm3])] at hS
          exact ⟨_, rfl, by assumption, by assumption, by assumption, by assumption, by assumption, by assumption, by assumption, by assumption, by assumption, by assumption, by assumption, hS⟩
      clear hS h2 h5 h6 h7 h9 h10 h40 h41 h42
      rintro ρ w7 ⟨h2, h5, h6, h7, h9, h10, h40, h41, h42, h12, h13, hS⟩
      have htl3 : (tab cs.length fun j => ofQ ((cstp cs S i).cap j)).length = cs.length := tab_len _ _
      have hg3 : (tab cs.length fun j => ofQ ((cstp cs S i).cap j)).getD i zRR = ofQ rm := by rw [tab_get _ _ hin, hcap, if_pos rfl]
      repeat (with_reducible first | refine c_seq ?_ | refine c_block ?_ | refine c_skip ?_ | refine x_then ?_ | refine x_block ?_)
      refine c_draw [(0, .pure), (1, .pure), (2, .read), (3, .pure), (4, .pure), (5, .read), (6, .pure), (7, .read), (8, .pure), (9, .pure), (10, .pure), (11, .read), (12, .grow), (13, .pure), (14, .free)] (by kernel_rfl) (by kernel_rfl) hS ?_
      intro wz19 hS hBz19
      refine w_pure rfl rfl (s_move  h9 ?_)
      refine w_pure rfl rfl (s_fld  h13 fo_38_0 ?_)
      refine w_read rfl rfl (s_ldo (k := 0)  rfl vi_3 hS rfl rfl rfl (.inr rfl) ?_)
      refine w_pure rfl rfl (s_move  h9 ?_)
      refine w_pure rfl rfl (s_fld  h13 fo_38_0 ?_)
      refine w_read rfl rfl (s_ldo (k := 0)  rfl vi_3 hS rfl rfl rfl (.inr rfl) ?_)
      refine w_pure rfl rfl (s_ixr (i := k)  rfl rfl (hG.sl (H := [(b13, 38, encCh c), (b10, 29, (tab cs.length fun j => ofQ ((cstp cs S i).cap j)).flatMap encR), (b7, 3, (zI J).flatMap enI), (b6, 30, [vc]), (b5, 29, encR zRR), (b2, 32, encIt (x, vc))]) hS encR_len) (by omega) (by first | omega | (simp; done) | (simp; omega)) si_24 ?_)
      refine w_read rfl rfl (s_lde (i := k) zRR  rfl vi_29 (hG.sl (H := [(b13, 38, encCh c), (b10, 29, (tab cs.length fun j => ofQ ((cstp cs S i).cap j)).flatMap encR), (b7, 3, (zI J).flatMap enI), (b6, 30, [vc]), (b5, 29, encR zRR), (b2, 32, encIt (x, vc))]) hS encR_len) (by first | omega | (simp; done) | (simp; omega)) rfl rfl (.inl rfl) ?_)
      refine w_pure rfl rfl (s_move  h10 ?_)
      refine w_pure rfl rfl (s_move  h12 ?_)
      refine w_pure rfl rfl (s_ixo (i := i)  rfl rfl (by omega) (by first | omega | (simp; done) | (simp; omega)) si_24 ?_)
      refine w_read rfl rfl (s_ldE (k := 1) (i := i) (enc := encR) zRR (fun _ => rfl)  rfl vi_29 hS rfl (by first | omega | simp) (by first | omega | (simp; done) | (simp; omega)) rfl (.inl rfl) ?_)
      rw [hg3]
      refine w_grow rfl rfl (s_call Tryz.call21 rfl (QSubtract_ok (O.getD k zRR) (ofQ rm) _ (by rw [Lr_ofQ]; omega)) ?_)
      rintro r' w8 ⟨rfl, hB8⟩
      refine ⟨hB8, ?_⟩
      rw [toQ_ofQ, hO1]
      replace hS := hS.grow hB8
      refine w_pure rfl rfl (s_ixr (i := k)  rfl rfl (hG.sl (H := [(b13, 38, encCh c), (b10, 29, (tab cs.length fun j => ofQ ((cstp cs S i).cap j)).flatMap encR), (b7, 3, (zI J).flatMap enI), (b6, 30, [vc]), (b5, 29, encR zRR), (b2, 32, encIt (x, vc))]) hS encR_len) (by omega) (by first | omega | (simp; done) | (simp; omega)) si_24 ?_)
      refine w_free rfl rfl (s_stG (i := k) (ofQ (S.op k - rm)) encR_len  rfl rfl vi_29 hG (H := [(b13, 38, encCh c), (b10, 29, (tab cs.length fun j => ofQ ((cstp cs S i).cap j)).flatMap encR), (b7, 3, (zI J).flatMap enI), (b6, 30, [vc]), (b5, 29, encR zRR), (b2, 32, encIt (x, vc))]) hS (by omega) rfl rfl ?_)
      intro wz20 hS
      refine w_end ?_
      repeat (with_reducible first | refine c_seq ?_ | refine c_block ?_ | refine c_skip ?_ | refine x_then ?_ | refine x_block ?_)
      obtain ⟨LO2, hG2, hS2⟩ := hS
      repeat (with_reducible first | refine c_seq ?_ | refine c_block ?_ | refine c_skip ?_ | refine x_then ?_ | refine x_block ?_)
      refine c_reg ?_
      refine l_pure rfl (s_add  h42 rfl (IntWalk.i64_in _ (by omega)) ?_)
      refine l_pure rfl (s_move  rfl ?_)
      refine l_nil ?_
      repeat (with_reducible first | refine c_seq ?_ | refine c_block ?_ | refine c_skip ?_ | refine x_then ?_ | refine x_block ?_)
      refine ⟨t + 1, _, rfl, ⟨hlt, by assumption, by assumption, by assumption, by assumption, by assumption, by assumption, by assumption, by assumption, vi rfl (by omega), _, LO2, ?_, ?_, hG2, ?_⟩, by omega⟩
      · rw [List.length_set]; exact hOl
      · intro c' hc'
        rw [htk, kapS_snoc, ← hSe, hop]
        have hd := (db1 c' hc').2.2
        rw [hop] at hd
        by_cases e : c' = k
        · subst e
          rw [if_pos rfl] at hd ⊢
          rw [List.getD_eq_getElem?_getD, List.getElem?_set_self (by omega)]
          exact ⟨toQ_ofQ _, by show Lr (ofQ _) ≤ _; rw [Lr_ofQ]; omega⟩
        · rw [if_neg e] at hd ⊢
          rw [List.getD_eq_getElem?_getD, List.getElem?_set_ne (Ne.symm e), ← List.getD_eq_getElem?_getD]
          exact hO c' hc'
      · rw [htk, kapS_snoc, ← hSe]
        exact hS2.drop (List.sublist_cons_self _ _)
    · refine c_no rfl (decide_eq_false (by omega)) ?_
      repeat (with_reducible first | refine c_seq ?_ | refine c_block ?_ | refine c_skip ?_ | refine x_then ?_ | refine x_block ?_)
      refine c_exit ?_
      repeat (with_reducible first | refine x_then_exit ?_ | refine x_block_exit ?_ | refine x_block_pass rfl ?_)
      repeat (with_reducible first | refine c_seq ?_ | refine c_block ?_ | refine c_skip ?_ | refine x_then ?_ | refine x_block ?_)
      have e : J.take t = J := List.take_of_length_le (by omega)
      rw [e] at hS
      have e2 : (kapS cs (owF owed) J).cap = kp := by rw [hkp, hJ]; rfl
      rw [e2] at hS
      exact ⟨_, rfl, h2, h5, h6, h7, h10, hS.drop (List.sublist_append_left _ _)⟩
  clear hS hG
  rintro ρ w5 ⟨h2, h5, h6, h7, h10, hS⟩
  repeat (with_reducible first | refine c_seq ?_ | refine c_block ?_ | refine c_skip ?_ | refine x_then ?_ | refine x_block ?_)
  refine c_reg ?_
  refine l_read rfl (s_ldo (k := 2)  h6 vi_30 hS rfl rfl rfl (.inr rfl) ?_)
  refine l_pure rfl (s_lenr  rfl (hch.below hS.below) ⟨_, Tryz.underlying30⟩ ?_)
  refine l_heavy rfl (s_makeE (enc := encR) (n := cs.length) zRR  rfl rfl si_24 rfl (by omega) (by omega) (by omega) (by omega) hS ?_)
  intro b14 wz21 hS hBz21
  refine l_pure rfl (s_asg  rfl ?_)
  refine l_nil ?_
  repeat (with_reducible first | refine c_seq ?_ | refine c_block ?_ | refine c_skip ?_ | refine x_then ?_ | refine x_block ?_)
  rw [tab_rep] at hS
  repeat (with_reducible first | refine c_seq ?_ | refine c_block ?_ | refine c_skip ?_ | refine x_then ?_ | refine x_block ?_)
  refine c_forget (fun ρ' => ρ' 2 = .pointer (some ⟨b2, 0, none⟩) ∧ ρ' 5 = .pointer (some ⟨b5, 0, none⟩) ∧ ρ' 6 = .pointer (some ⟨b6, 0, none⟩) ∧ ρ' 7 = .slice (some ⟨b7, 0, none⟩) cs.length cs.length ∧ ρ' 10 = .slice (some ⟨b10, 0, none⟩) cs.length cs.length ∧ ρ' 14 = .slice (some ⟨b14, 0, none⟩) cs.length cs.length ∧ True) ⟨h2, h5, h6, h7, h10, rfl, trivial⟩ ?_
  rintro ρk22 ⟨hk22_2, hk22_5, hk22_6, hk22_7, hk22_10, hk22_14, -⟩
  repeat (with_reducible first | refine c_seq ?_ | refine c_block ?_ | refine c_skip ?_ | refine x_then ?_ | refine x_block ?_)
  refine c_reg ?_
  refine l_read rfl (s_ldo (k := 5)  hk22_2 vi_32 hS rfl rfl rfl (.inl rfl) ?_)
  refine l_heavy rfl (s_call Tryz.call14 rfl (hproc2 _) ?_)
  rintro r' w6 ⟨rfl, hB6⟩
  replace hS := hS.grow hB6
  refine l_heavy rfl (s_alloc  vi_29 hS ?_)
  intro b15 wz23 hS hBz23
  refine l_heavy rfl (s_sta (k := 0)  rfl rfl vi_29 hS rfl rfl rfl (Nat.le_of_ble_eq_true rfl) rfl ?_)
  intro wz24 hS
  refine l_nil ?_
  repeat (with_reducible first | refine c_seq ?_ | refine c_skip ?_ | refine x_then ?_ | refine x_block ?_)
  have e14 : (tab cs.length fun _ => zRR) = tab cs.length fun i => ofQ (if i ∈ J.take 0 then shQ cs kp P i else 0) := tab_congr fun i _ => by rw [List.take_zero, if_neg (fun h => nomatch h), ofQ_zero]; rfl
  have eP : P = maxQ (P - totS kp (J.take 0)) 0 := by rw [List.take_zero, totS_nil, show P - 0 = P by grind, maxQ_pos hP0]
  rw [e14] at hS
  replace hS : St w _ [(b15, 29, encR (ofQ P)), (b14, 29, (tab cs.length fun i => ofQ (if i ∈ J.take 0 then shQ cs kp P i else 0)).flatMap encR), (b10, 29, (tab cs.length fun i => ofQ (kp i)).flatMap encR), (b7, 3, (zI J).flatMap enI), (b6, 30, [vc]), (b5, 29, encR zRR)] := hS.drop (List.sublist_append_left (l₂ := [(b2, 32, encIt (x, vc))]) _)
  rw [show encR (ofQ P) = encR (ofQ (maxQ (P - totS kp (J.take 0)) 0)) by rw [← eP]] at hS
  refine c_cut1 (fun ρ w' => ρ 5 = .pointer (some ⟨b5, 0, none⟩) ∧ ρ 14 = .slice (some ⟨b14, 0, none⟩) cs.length cs.length ∧ ρ 15 = .pointer (some ⟨b15, 0, none⟩) ∧
      St w w' [(b15, 29, encR (ofQ (lefQ cs kp P))), (b14, 29, (tab cs.length fun i => ofQ (shQ cs kp P i)).flatMap encR), (b5, 29, encR zRR)]) ?_ ?_
  · repeat (with_reducible first | refine c_seq ?_ | refine c_block ?_ | refine c_skip ?_ | refine x_then ?_ | refine x_block ?_)
    refine c_loop (σ := Nat) (fun t ρ w' => t ≤ J.length ∧ ρ 5 = .pointer (some ⟨b5, 0, none⟩) ∧ ρ 6 = .pointer (some ⟨b6, 0, none⟩) ∧ ρ 10 = .slice (some ⟨b10, 0, none⟩) cs.length cs.length ∧ ρ 14 = .slice (some ⟨b14, 0, none⟩) cs.length cs.length ∧ ρ 15 = .pointer (some ⟨b15, 0, none⟩) ∧
        ∃ vq, ρ 7 = vq ∧ (∀ w', Sl enI 1 w' (.slice (some ⟨b7, 0, none⟩) cs.length cs.length) (zI J) → Sl enI 1 w' vq (zI (J.drop t))) ∧ (∀ i ∈ J.take t, ∀ k ∈ J.drop t, pr cs i < pr cs k) ∧
        St w w' [(b15, 29, encR (ofQ (maxQ (P - totS kp (J.take t)) 0))), (b14, 29, (tab cs.length fun i => ofQ (if i ∈ J.take t then shQ cs kp P i else 0)).flatMap encR), (b10, 29, (tab cs.length fun i => ofQ (kp i)).flatMap encR), (b7, 3, (zI J).flatMap enI), (b6, 30, [vc]), (b5, 29, encR zRR)]) (fun t => J.length - t) 0
      ⟨Nat.zero_le _, by assumption, by assumption, by assumption, by assumption, rfl, .slice (some ⟨b7, 0, none⟩) cs.length cs.length, by assumption, fun w' h => h, fun i hi => (by rw [List.take_zero] at hi; cases hi), hS⟩ ?_
    clear hS h2 h5 h6 h7 h10
    rintro t ρ w7 ⟨ht, h5, h6, h10, h14, h15, vq, h7, hRd, hbd, hS⟩
    have hdl : (zI (J.drop t)).length = J.length - t := by rw [zI_len, List.length_drop]
    repeat (with_reducible first | refine c_seq ?_ | refine c_block ?_ | refine c_skip ?_ | refine x_then ?_ | refine x_block ?_)
    refine c_reg ?_
    refine l_pure rfl (s_move  h7 ?_)
    refine l_pure rfl (s_lenr  rfl (hRd _ (sl_ord hS (k := 3) rfl hJl (by omega))) ⟨_, Tryz.underlying72⟩ ?_)
    refine l_pure rfl (s_gtr  rfl rfl ?_)
    refine l_nil ?_
    repeat (with_reducible first | refine c_seq ?_ | refine c_block ?_ | refine c_skip ?_ | refine x_then ?_ | refine x_block ?_)
    by_cases hlt : t < J.length
    · refine c_yes rfl (decide_eq_true (by omega)) ?_
      repeat (with_reducible first | refine c_seq ?_ | refine c_block ?_ | refine c_skip ?_ | refine x_then ?_ | refine x_block ?_)
      obtain ⟨i0, hi0⟩ : ∃ i, i = J.getD t 0 := ⟨_, rfl⟩
      have hi0n : i0 < cs.length := (hJm i0).1 (by rw [hi0]; exact getD_mem J t 0 hlt)
      obtain ⟨p, hp⟩ : ∃ p, p = pr cs i0 := ⟨_, rfl⟩
      have hz0 : (zI (J.drop t)).getD 0 0 = (i0 : Int) := by rw [zI_get _ (by rw [List.length_drop]; omega), getD_drop, Nat.add_zero, ← hi0]
      repeat (with_reducible first | refine c_seq ?_ | refine c_block ?_ | refine c_skip ?_ | refine x_then ?_ | refine x_block ?_)
      refine c_reg ?_
      refine l_pure rfl (s_asg  rfl ?_)
      refine l_nil ?_
      repeat (with_reducible first | refine c_seq ?_ | refine c_skip ?_ | refine x_then ?_ | refine x_block ?_)
      refine c_cut1 (fun ρ w' => ρ 5 = .pointer (some ⟨b5, 0, none⟩) ∧ ρ 6 = .pointer (some ⟨b6, 0, none⟩) ∧ ρ 7 = vq ∧ ρ 10 = .slice (some ⟨b10, 0, none⟩) cs.length cs.length ∧ ρ 14 = .slice (some ⟨b14, 0, none⟩) cs.length cs.length ∧ ρ 15 = .pointer (some ⟨b15, 0, none⟩) ∧
          (∃ g : Nat, ρ 16 = .int .i64 g ∧ 1 ≤ g ∧ t + g ≤ J.length ∧ (∀ i ∈ (J.drop t).take g, pr cs i = p) ∧ ∀ i ∈ J.drop (t + g), p < pr cs i) ∧
          St w w' [(b15, 29, encR (ofQ (maxQ (P - totS kp (J.take t)) 0))), (b14, 29, (tab cs.length fun i => ofQ (if i ∈ J.take t then shQ cs kp P i else 0)).flatMap encR), (b10, 29, (tab cs.length fun i => ofQ (kp i)).flatMap encR), (b7, 3, (zI J).flatMap enI), (b6, 30, [vc]), (b5, 29, encR zRR)]) ?_ ?_
      · repeat (with_reducible first | refine c_seq ?_ | refine c_block ?_ | refine c_skip ?_ | refine x_then ?_ | refine x_block ?_)
        refine c_loop (σ := Nat) (fun g ρ w' => 1 ≤ g ∧ t + g ≤ J.length ∧ (∀ i ∈ (J.drop t).take g, pr cs i = p) ∧ ρ 5 = .pointer (some ⟨b5, 0, none⟩) ∧ ρ 6 = .pointer (some ⟨b6, 0, none⟩) ∧ ρ 7 = vq ∧ ρ 10 = .slice (some ⟨b10, 0, none⟩) cs.length cs.length ∧ ρ 14 = .slice (some ⟨b14, 0, none⟩) cs.length cs.length ∧ ρ 15 = .pointer (some ⟨b15, 0, none⟩) ∧ ρ 16 = .int .i64 g ∧
            St w w' [(b15, 29, encR (ofQ (maxQ (P - totS kp (J.take t)) 0))), (b14, 29, (tab cs.length fun i => ofQ (if i ∈ J.take t then shQ cs kp P i else 0)).flatMap encR), (b10, 29, (tab cs.length fun i => ofQ (kp i)).flatMap encR), (b7, 3, (zI J).flatMap enI), (b6, 30, [vc]), (b5, 29, encR zRR)]) (fun g => J.length - g) 1
          ⟨Nat.le_refl _, by omega, fun i hi => ?_, by assumption, by assumption, by assumption, by assumption, by assumption, by assumption, rfl, hS⟩ ?_
        · rw [List.drop_eq_getElem_cons hlt, List.take_succ_cons, List.take_zero] at hi
          rw [List.mem_singleton.1 hi, hp, hi0, List.getD_eq_getElem?_getD, List.getElem?_eq_getElem hlt]; rfl
        clear hS h5 h6 h7 h10 h14 h15
        rintro g ρ w8 ⟨hg1, hg2, hgp, h5, h6, h7, h10, h14, h15, h16, hS⟩
        repeat (with_reducible first | refine c_seq ?_ | refine c_block ?_ | refine c_skip ?_ | refine x_then ?_ | refine x_block ?_)
        by_cases hgl : t + g < J.length
        · obtain ⟨i1, hi1⟩ : ∃ i, i = J.getD (t + g) 0 := ⟨_, rfl⟩
          have hi1n : i1 < cs.length := (hJm i1).1 (by rw [hi1]; exact getD_mem J (t + g) 0 hgl)
          have hz1 : (zI (J.drop t)).getD g 0 = (i1 : Int) := by rw [zI_get _ (by rw [List.length_drop]; omega), getD_drop, ← hi1]
          have ep0 : (cs.getD i0 zCh).prio = p := by rw [hp]; rfl
          have ep1 : (cs.getD i1 zCh).prio = pr cs i1 := rfl
          repeat (with_reducible first | refine c_seq ?_ | refine c_block ?_ | refine c_skip ?_ | refine x_then ?_ | refine x_block ?_)
          refine c_draw [(0, .pure), (1, .pure), (2, .pure), (3, .pure), (4, .pure), (5, .read), (6, .pure), (7, .pure), (8, .pure), (9, .read), (10, .pure), (11, .pure), (12, .read), (13, .read), (14, .pure), (15, .pure), (16, .read), (17, .pure), (18, .pure), (19, .read), (20, .pure), (21, .pure)] (by kernel_rfl) (by kernel_rfl) hS ?_
          intro wz25 hS hBz25
          refine w_pure rfl rfl (s_move  h16 ?_)
          refine w_pure rfl rfl (s_move  h7 ?_)
          refine w_pure rfl rfl (s_lenr  rfl (hRd _ (sl_ord hS (k := 3) rfl hJl (by omega))) ⟨_, Tryz.underlying72⟩ ?_)
          refine w_pure rfl rfl (s_lss  rfl rfl ?_)
          refine w_pure rfl rfl (s_move  rfl ?_)
          refine w_read rfl (gd_yes 99 (by kernel_rfl) rfl (decide_eq_true (by omega))) (s_ldo (k := 4)  h6 vi_30 hS rfl rfl rfl (.inr rfl) ?_)
          refine w_pure rfl (gd_yes 99 (by kernel_rfl) rfl (decide_eq_true (by omega))) (s_move  h7 ?_)
          refine w_pure rfl (gd_yes 99 (by kernel_rfl) rfl (decide_eq_true (by omega))) (s_move  h16 ?_)
          refine w_pure rfl (gd_yes 99 (by kernel_rfl) rfl (decide_eq_true (by omega))) (s_ixr (i := g)  rfl rfl (hRd _ (sl_ord hS (k := 3) rfl hJl (by omega))) (by omega) (by first | omega | (simp; done) | (simp; omega)) si_72 ?_)
          refine w_read rfl (gd_yes 99 (by kernel_rfl) rfl (decide_eq_true (by omega))) (s_lde (i := g) 0  rfl vi_3 (hRd _ (sl_ord hS (k := 3) rfl hJl (by omega))) (by first | omega | (simp; done) | (simp; omega)) rfl rfl (.inr rfl) ?_)
          refine w_pure rfl (gd_yes 99 (by kernel_rfl) rfl (decide_eq_true (by omega))) (s_ixr (i := i1)  rfl rfl (hch.below hS.below) hz1 (by first | omega | (simp; done) | (simp; omega)) si_30 ?_)
          refine w_pure rfl (gd_yes 99 (by kernel_rfl) rfl (decide_eq_true (by omega))) (s_fldr  rfl (spot_el (hch.below hS.below) (fun _ => rfl) (by decide) (by first | omega | (simp; done) | (simp; omega))) fo_38_1 ?_)
          refine w_read rfl (gd_yes 99 (by kernel_rfl) rfl (decide_eq_true (by omega))) (s_ldfe (i := i1) (off := 1) zCh  rfl vi_3 (hch.below hS.below) (fun _ => rfl) (by decide) (by first | omega | (simp; done) | (simp; omega)) rfl rfl (.inr rfl) ?_)
          refine w_read rfl (gd_yes 99 (by kernel_rfl) rfl (decide_eq_true (by omega))) (s_ldo (k := 4)  h6 vi_30 hS rfl rfl rfl (.inr rfl) ?_)
          refine w_pure rfl (gd_yes 99 (by kernel_rfl) rfl (decide_eq_true (by omega))) (s_move  h7 ?_)
          refine w_pure rfl (gd_yes 99 (by kernel_rfl) rfl (decide_eq_true (by omega))) (s_ixr (i := 0)  rfl rfl (hRd _ (sl_ord hS (k := 3) rfl hJl (by omega))) (by omega) (by first | omega | (simp; done) | (simp; omega)) si_72 ?_)
          refine w_read rfl (gd_yes 99 (by kernel_rfl) rfl (decide_eq_true (by omega))) (s_lde (i := 0) 0  rfl vi_3 (hRd _ (sl_ord hS (k := 3) rfl hJl (by omega))) (by first | omega | (simp; done) | (simp; omega)) rfl rfl (.inr rfl) ?_)
          refine w_pure rfl (gd_yes 99 (by kernel_rfl) rfl (decide_eq_true (by omega))) (s_ixr (i := i0)  rfl rfl (hch.below hS.below) hz0 (by first | omega | (simp; done) | (simp; omega)) si_30 ?_)
          refine w_pure rfl (gd_yes 99 (by kernel_rfl) rfl (decide_eq_true (by omega))) (s_fldr  rfl (spot_el (hch.below hS.below) (fun _ => rfl) (by decide) (by first | omega | (simp; done) | (simp; omega))) fo_38_1 ?_)
          refine w_read rfl (gd_yes 99 (by kernel_rfl) rfl (decide_eq_true (by omega))) (s_ldfe (i := i0) (off := 1) zCh  rfl vi_3 (hch.below hS.below) (fun _ => rfl) (by decide) (by first | omega | (simp; done) | (simp; omega)) rfl rfl (.inr rfl) ?_)
          refine w_pure rfl (gd_yes 99 (by kernel_rfl) rfl (decide_eq_true (by omega))) (s_eql  rfl rfl ?_)
          refine w_pure rfl rfl (s_pick (vb rfl (decide_eq_true (by omega))) rfl ?_)
          refine w_end ?_
          repeat (with_reducible first | refine c_seq ?_ | refine c_block ?_ | refine c_skip ?_ | refine x_then ?_ | refine x_block ?_)
          rw [ep0, ep1]
          by_cases hpe : pr cs i1 = p
          · refine c_yes rfl (decide_eq_true hpe) ?_
            repeat (with_reducible first | refine c_seq ?_ | refine c_block ?_ | refine c_skip ?_ | refine x_then ?_ | refine x_block ?_)
            refine c_reg ?_
            refine l_pure rfl (s_move  h16 ?_)
            refine l_pure rfl (s_add  rfl rfl (IntWalk.i64_in _ (by omega)) ?_)
            refine l_pure rfl (s_asg  rfl ?_)
            refine l_nil ?_
            repeat (with_reducible first | refine c_seq ?_ | refine c_block ?_ | refine c_skip ?_ | refine x_then ?_ | refine x_block ?_)
            refine ⟨g + 1, _, rfl, ⟨by omega, by omega, fun i hi => ?_, by assumption, by assumption, by assumption, by assumption, by assumption, by assumption, vi rfl (by omega), hS⟩, by omega⟩
            rw [take_succ' (J.drop t) g 0 (by rw [List.length_drop]; omega), getD_drop, ← hi1] at hi
            rcases List.mem_append.1 hi with h | h
            · exact hgp i h
            · rw [List.mem_singleton.1 h]; exact hpe
          · refine c_no rfl (decide_eq_false hpe) ?_
            repeat (with_reducible first | refine c_seq ?_ | refine c_block ?_ | refine c_skip ?_ | refine x_then ?_ | refine x_block ?_)
            refine c_exit ?_
            repeat (with_reducible first | refine x_then_exit ?_ | refine x_block_exit ?_ | refine x_block_pass rfl ?_)
            repeat (with_reducible first | refine c_seq ?_ | refine c_block ?_ | refine c_skip ?_ | refine x_then ?_ | refine x_block ?_)
            refine ⟨_, rfl, by assumption, by assumption, by assumption, by assumption, by assumption, by assumption, ⟨g, by assumption, hg1, hg2, hgp, fun i hi => ?_⟩, hS⟩
            obtain ⟨b, hb1, hb2, rfl⟩ := mem_drop_get hi
            have m1 := ord_mono hJs (a := t) (b := t + g) (by omega) hgl
            have m2 := ord_mono hJs hb1 hb2
            rw [← hi0, ← hi1, ← hp] at m1
            rw [← hi1] at m2
            omega
        · repeat (with_reducible first | refine c_seq ?_ | refine c_block ?_ | refine c_skip ?_ | refine x_then ?_ | refine x_block ?_)
          refine c_draw [(0, .pure), (1, .pure), (2, .pure), (3, .pure), (4, .pure), (5, .read), (6, .pure), (7, .pure), (8, .pure), (9, .read), (10, .pure), (11, .pure), (12, .read), (13, .read), (14, .pure), (15, .pure), (16, .read), (17, .pure), (18, .pure), (19, .read), (20, .pure), (21, .pure)] (by kernel_rfl) (by kernel_rfl) hS ?_
          intro wz26 hS hBz26
          refine w_pure rfl rfl (s_move  h16 ?_)
          refine w_pure rfl rfl (s_move  h7 ?_)
          refine w_pure rfl rfl (s_lenr  rfl (hRd _ (sl_ord hS (k := 3) rfl hJl (by omega))) ⟨_, Tryz.underlying72⟩ ?_)
          refine w_pure rfl rfl (s_lss  rfl rfl ?_)
          refine w_pure rfl rfl (s_move  rfl ?_)
          refine w_no rfl (gno_yes 99 (by kernel_rfl) rfl (decide_eq_false (by omega))) ?_
          refine w_no rfl (gno_yes 99 (by kernel_rfl) rfl (decide_eq_false (by omega))) ?_
          refine w_no rfl (gno_yes 99 (by kernel_rfl) rfl (decide_eq_false (by omega))) ?_
          refine w_no rfl (gno_yes 99 (by kernel_rfl) rfl (decide_eq_false (by omega))) ?_
          refine w_no rfl (gno_yes 99 (by kernel_rfl) rfl (decide_eq_false (by omega))) ?_
          refine w_no rfl (gno_yes 99 (by kernel_rfl) rfl (decide_eq_false (by omega))) ?_
          refine w_no rfl (gno_yes 99 (by kernel_rfl) rfl (decide_eq_false (by omega))) ?_
          refine w_no rfl (gno_yes 99 (by kernel_rfl) rfl (decide_eq_false (by omega))) ?_
          refine w_no rfl (gno_yes 99 (by kernel_rfl) rfl (decide_eq_false (by omega))) ?_
          refine w_no rfl (gno_yes 99 (by kernel_rfl) rfl (decide_eq_false (by omega))) ?_
          refine w_no rfl (gno_yes 99 (by kernel_rfl) rfl (decide_eq_false (by omega))) ?_
          refine w_no rfl (gno_yes 99 (by kernel_rfl) rfl (decide_eq_false (by omega))) ?_
          refine w_no rfl (gno_yes 99 (by kernel_rfl) rfl (decide_eq_false (by omega))) ?_
          refine w_no rfl (gno_yes 99 (by kernel_rfl) rfl (decide_eq_false (by omega))) ?_
          refine w_no rfl (gno_yes 99 (by kernel_rfl) rfl (decide_eq_false (by omega))) ?_
          refine w_no rfl (gno_yes 99 (by kernel_rfl) rfl (decide_eq_false (by omega))) ?_
          refine w_pure rfl rfl (s_pick (vb rfl (decide_eq_false (by omega))) rfl ?_)
          refine w_end ?_
          repeat (with_reducible first | refine c_seq ?_ | refine c_block ?_ | refine c_skip ?_ | refine x_then ?_ | refine x_block ?_)
          refine c_no rfl (rfl) ?_
          repeat (with_reducible first | refine c_seq ?_ | refine c_block ?_ | refine c_skip ?_ | refine x_then ?_ | refine x_block ?_)
          refine c_exit ?_
          repeat (with_reducible first | refine x_then_exit ?_ | refine x_block_exit ?_ | refine x_block_pass rfl ?_)
          repeat (with_reducible first | refine c_seq ?_ | refine c_block ?_ | refine c_skip ?_ | refine x_then ?_ | refine x_block ?_)
          refine ⟨_, rfl, by assumption, by assumption, by assumption, by assumption, by assumption, by assumption, ⟨g, by assumption, hg1, hg2, hgp, fun i hi => ?_⟩, hS⟩
          rw [List.drop_eq_nil_of_le (by omega)] at hi
          cases hi
      clear hS h5 h6 h7 h10 h14 h15
      rintro ρ w8 ⟨h5, h6, h7, h10, h14, h15, ⟨g, h16, hg1, hg2, hgp, hgB⟩, hS⟩
      obtain ⟨A, hA⟩ : ∃ A, A = J.take t := ⟨_, rfl⟩
      obtain ⟨G, hGe⟩ : ∃ G, G = (J.drop t).take g := ⟨_, rfl⟩
      have hAG : J.take (t + g) = A ++ G := by rw [hA, hGe, List.take_add]
      have hsplit : ordC cs = A ++ G ++ J.drop (t + g) := by rw [← hAG, List.take_append_drop, hJ]
      have hi0d : i0 ∈ J.drop t := by rw [hi0, List.drop_eq_getElem_cons hlt, List.getD_eq_getElem?_getD, List.getElem?_eq_getElem hlt]; exact List.mem_cons_self
      obtain ⟨rs1, rs2⟩ := run_split hsplit (fun i hi => by rw [hp]; exact hbd i (by rw [← hA]; exact hi) i0 hi0d) (fun i hi => hgp i (by rw [← hGe]; exact hi)) hgB kp
      obtain ⟨m, hmm⟩ : ∃ m, m = maxQ (P - totS kp A) 0 := ⟨_, rfl⟩
      have hm0 : 0 ≤ m := by rw [hmm]; unfold maxQ; split <;> grind
      have hGJ : ∀ i ∈ G, i < cs.length := fun i hi => (hJm i).1 (List.mem_of_mem_drop (List.mem_of_mem_take (by rw [← hGe]; exact hi)))
      have hA8 : A.length ≤ 8 := by rw [hA, List.length_take]; omega
      have hG8 : G.length ≤ 8 := by rw [hGe, List.length_take, List.length_drop]; omega
      have hmL : L m ≤ 75 * K + 85 := by rw [hmm]; exact hml A hA8
      have hsG : ∀ i ∈ G, shQ cs kp P i = kp i * quoQ m (totS kp G) := fun i hi => by
        unfold shQ monQ
        rw [hgp i (by rw [← hGe]; exact hi), rs1, rs2, ← hmm]
      have hT0 : 0 ≤ totS kp G := totS_nonneg fun i _ => (hkb i).1
      have hmoney : m - totS kp G * quoQ m (totS kp G) = maxQ (P - totS kp (A ++ G)) 0 := by
        rw [run_money hm0, hmm, max_step _ _ _ hT0, totS_append]
      have htab : (tab cs.length fun i => ofQ (if i ∈ G then kp i * quoQ m (totS kp G) else (if i ∈ A then shQ cs kp P i else 0))) = tab cs.length fun i => ofQ (if i ∈ A ++ G then shQ cs kp P i else 0) := tab_congr fun i _ => by
        by_cases e : i ∈ G
        · rw [if_pos e, if_pos (List.mem_append.2 (.inr e)), hsG i e]
        · rw [if_neg e]
          by_cases e2 : i ∈ A
          · rw [if_pos e2, if_pos (List.mem_append.2 (.inl e2))]
          · rw [if_neg e2, if_neg (fun h => (List.mem_append.1 h).elim e2 e)]
      rw [← hA, ← hmm] at hS
      have hGr : ∀ w', St w w' [(b15, 29, encR (ofQ m)), (b10, 29, (tab cs.length fun i => ofQ (kp i)).flatMap encR), (b7, 3, (zI J).flatMap enI), (b6, 30, [vc]), (b5, 29, encR zRR)] → Sl enI 1 w' (slsub vq 1 0 g) (zI G) := fun w' h => by
        rw [hGe]; exact (rd_sub hRd hg2).1 w' (sl_ord h (k := 2) rfl hJl (by omega))
      have hCr : ∀ w', St w w' [(b15, 29, encR (ofQ m)), (b10, 29, (tab cs.length fun i => ofQ (kp i)).flatMap encR), (b7, 3, (zI J).flatMap enI), (b6, 30, [vc]), (b5, 29, encR zRR)] → Sl encR 3 w' (.slice (some ⟨b10, 0, none⟩) cs.length cs.length) (tab cs.length fun i => ofQ (kp i)) := fun w' h => sl_tab (by omega) (h.drop (List.sublist_cons_self _ _))
      have hpay := fun w5 h => pay_ok b14 cs.length (75 * K + 85) (.slice (some ⟨b10, 0, none⟩) cs.length cs.length) (slsub vq 1 0 g) (fun i => if i ∈ A then shQ cs kp P i else 0) kp m G w w5 _ h hGr hCr hGJ hG8 (fun i _ => ⟨(hkb i).1, by have := (hkb i).2; omega⟩) hm0 hmL (by omega)
      rw [hmoney, htab] at hpay
      repeat (with_reducible first | refine c_seq ?_ | refine c_block ?_ | refine c_skip ?_ | refine x_then ?_ | refine x_block ?_)
      refine c_draw [(0, .pure), (1, .pure), (2, .pure), (3, .pure), (4, .pure), (5, .read), (6, .free), (7, .free)] (by kernel_rfl) (by kernel_rfl) hS ?_
      intro wz27 hS hBz27
      refine w_pure rfl rfl (s_move  h14 ?_)
      refine w_pure rfl rfl (s_move  h10 ?_)
      refine w_pure rfl rfl (s_move  h7 ?_)
      refine w_pure rfl rfl (s_move  h16 ?_)
      refine w_pure rfl rfl (s_subrh (hi := g)  rfl rfl (hRd _ (sl_ord hS (k := 3) rfl hJl (by omega))) rfl (by omega) si_72 ?_)
      refine w_read rfl rfl (s_ldo (k := 0)  h15 vi_29 hS rfl rfl rfl (.inl rfl) ?_)
      refine w_free rfl rfl (s_call Tryz.call50 rfl (hpay _ (hS.perm (List.Perm.swap _ _ _))) ?_)
      rintro r' w9 ⟨rfl, hS9⟩
      clear hS
      have hS := hS9.perm (List.Perm.swap _ _ _)
      refine w_free rfl rfl (s_sta (k := 0)  h15 rfl vi_29 hS rfl rfl rfl (Nat.le_of_ble_eq_true rfl) rfl ?_)
      intro wz28 hS
      refine w_end ?_
      repeat (with_reducible first | refine c_seq ?_ | refine c_block ?_ | refine c_skip ?_ | refine x_then ?_ | refine x_block ?_)
      replace hS : St w _ [(b15, 29, encR (ofQ (maxQ (P - totS kp (A ++ G)) 0))), (b14, 29, (tab cs.length fun i => ofQ (if i ∈ A ++ G then shQ cs kp P i else 0)).flatMap encR), (b10, 29, (tab cs.length fun i => ofQ (kp i)).flatMap encR), (b7, 3, (zI J).flatMap enI), (b6, 30, [vc]), (b5, 29, encR zRR)] := hS
      rw [← hAG] at hS
      repeat (with_reducible first | refine c_seq ?_ | refine c_block ?_ | refine c_skip ?_ | refine x_then ?_ | refine x_block ?_)
      refine c_reg ?_
      refine l_pure rfl (s_move  h7 ?_)
      refine l_pure rfl (s_move  h16 ?_)
      refine l_pure rfl (s_subrl (lo := g)  rfl rfl (hRd _ (sl_ord hS (k := 3) rfl hJl (by omega))) rfl (by omega) si_72 ?_)
      refine l_pure rfl (s_asg  rfl ?_)
      refine l_nil ?_
      repeat (with_reducible first | refine c_seq ?_ | refine c_block ?_ | refine c_skip ?_ | refine x_then ?_ | refine x_block ?_)
      refine ⟨t + g, _, rfl, ⟨hg2, by assumption, by assumption, by assumption, by assumption, by assumption, _, rfl, (rd_sub hRd hg2).2, fun i hi k hk => ?_, hS⟩, by omega⟩
      rw [hAG] at hi
      have hkp2 := hgB k hk
      rcases List.mem_append.1 hi with h | h
      · have := hbd i (by rw [← hA]; exact h) i0 hi0d
        omega
      · have := hgp i (by rw [← hGe]; exact h)
        omega
    · refine c_no rfl (decide_eq_false (by omega)) ?_
      repeat (with_reducible first | refine c_seq ?_ | refine c_block ?_ | refine c_skip ?_ | refine x_then ?_ | refine x_block ?_)
      refine c_exit ?_
      repeat (with_reducible first | refine x_then_exit ?_ | refine x_block_exit ?_ | refine x_block_pass rfl ?_)
      repeat (with_reducible first | refine c_seq ?_ | refine c_block ?_ | refine c_skip ?_ | refine x_then ?_ | refine x_block ?_)
      have e : J.take t = J := List.take_of_length_le (by omega)
      rw [e, tab_congr (g := fun i => ofQ (shQ cs kp P i)) (fun i hi => by rw [if_pos ((hJm i).2 hi)])] at hS
      refine ⟨_, rfl, h5, h14, h15, ?_⟩
      have e2 : lefQ cs kp P = maxQ (P - totS kp J) 0 := by rw [hJ]; rfl
      rw [e2]
      exact hS.drop (((List.nil_sublist [(b10, 29, (tab cs.length fun i => ofQ (kp i)).flatMap encR), (b7, 3, (zI J).flatMap enI), (b6, 30, [vc])]).append_right [(b5, 29, encR zRR)]).cons_cons _ |>.cons_cons _)
  clear hS
  rintro ρ w7 ⟨h5, h14, h15, hS⟩
  repeat (with_reducible first | refine c_seq ?_ | refine c_block ?_ | refine c_skip ?_ | refine x_then ?_ | refine x_block ?_)
  refine c_draw [(0, .pure), (1, .read), (2, .pure), (3, .free)] (by kernel_rfl) (by kernel_rfl) hS ?_
  intro wz29 hS hBz29
  refine w_pure rfl rfl (s_move  h14 ?_)
  refine w_read rfl rfl (s_ldo (k := 0)  h15 vi_29 hS rfl rfl rfl (.inl rfl) ?_)
  refine w_pure rfl rfl (s_asg  rfl ?_)
  refine w_free rfl rfl (s_sta (k := 2)  h5 rfl vi_29 hS rfl rfl rfl (Nat.le_of_ble_eq_true rfl) rfl ?_)
  intro wz30 hS
  refine w_end ?_
  repeat (with_reducible first | refine c_seq ?_ | refine c_block ?_ | refine c_skip ?_ | refine x_then ?_ | refine x_block ?_)
  refine c_ret ?_
  repeat (with_reducible first | refine x_then_ret ?_ | refine x_block_ret ?_)
  refine r_tmp_cell (k := 2) rfl h5 rfl vi_29 hS rfl rfl ?_
  exact ⟨b14, rfl, hS.drop ((List.sublist_append_left _ [(b5, 29, _)]).trans (List.sublist_cons_self _ _))⟩
end Go.Proofs.YtdafaibhiobpaabGreatDoor
