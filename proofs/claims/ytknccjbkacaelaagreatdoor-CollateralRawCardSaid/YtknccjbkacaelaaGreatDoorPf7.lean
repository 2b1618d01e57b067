/-
  Part 7 of the texts that the law's proof is made of: the framework and the walks.
-/
import Derived.Test.YtknccjbkacaelaaGreatDoorPf6
namespace Go.Proofs.YtknccjbkacaelaaGreatDoor
open Go Go.RowKit Go.Sx
theorem sl_ord {w0 w : World} {H : List Blk} {k b : Nat} {t : TypeId} {J : List Nat} {n : Nat} (hS : St w0 w H) (hk : H[k]? = some (b, t, (zI J).flatMap enI)) (hn : J.length = n) (h : n ≤ 1000000) : Sl enI 1 w (.slice (some ⟨b, 0, none⟩) n n) (zI J) := by
  have h1 := hS.sle (k := k) (L := zI J) (n := n) (cap := n) hk enI_len (by rw [zI_len]; omega) (Nat.le_refl _) (by omega)
  rwa [List.take_of_length_le (by rw [zI_len]; omega)] at h1
theorem rd_sub {b n : Nat} {J : List Nat} {vo : Value} {t : Nat} (h : ∀ w', Sl enI 1 w' (.slice (some ⟨b, 0, none⟩) n n) (zI J) → Sl enI 1 w' vo (zI (J.drop t))) {g : Nat} (hg : t + g ≤ J.length) :
    (∀ w', Sl enI 1 w' (.slice (some ⟨b, 0, none⟩) n n) (zI J) → Sl enI 1 w' (slsub vo 1 0 g) (zI ((J.drop t).take g))) ∧
    (∀ w', Sl enI 1 w' (.slice (some ⟨b, 0, none⟩) n n) (zI J) → Sl enI 1 w' (slsub vo 1 g (zI (J.drop t)).length) (zI (J.drop (t + g)))) := by
  constructor
  · intro w' hw
    have h1 := (h w' hw).sub enI_len (by decide) (lo := 0) (hi := g) (Nat.zero_le _) (by rw [zI_len, List.length_drop]; omega)
    rwa [List.drop_zero, Nat.sub_zero, zI_take] at h1
  · intro w' hw
    have h1 := (h w' hw).sub enI_len (by decide) (lo := g) (hi := (zI (J.drop t)).length) (by rw [zI_len, List.length_drop]; omega) (Nat.le_refl _)
    rw [zI_drop, zI_take, List.drop_drop, List.take_of_length_le (by rw [List.length_drop, zI_len, List.length_drop]; omega)] at h1
    exact h1
theorem mem_drop_get {J : List Nat} {s i : Nat} (h : i ∈ J.drop s) : ∃ b, s ≤ b ∧ b < J.length ∧ J.getD b 0 = i := by
  obtain ⟨b, hb, e⟩ := List.getElem_of_mem h
  rw [List.length_drop] at hb
  rw [List.getElem_drop] at e
  exact ⟨s + b, by omega, by omega, by rw [List.getD_eq_getElem?_getD, List.getElem?_eq_getElem (by omega)]; exact e⟩
theorem ord_mono {cs : List Ch} {J : List Nat} (h : J.Pairwise (aheadC cs)) {a b : Nat} (hab : a ≤ b) (hb : b < J.length) : pr cs (J.getD a 0) ≤ pr cs (J.getD b 0) := by
  by_cases e : a = b
  · subst e; omega
  · have := List.pairwise_iff_getElem.1 h a b (by omega) hb (by omega)
    rw [List.getD_eq_getElem?_getD, List.getD_eq_getElem?_getD, List.getElem?_eq_getElem hb, List.getElem?_eq_getElem (show a < J.length by omega)]
    show pr cs J[a] ≤ pr cs J[b]
    unfold aheadC at this
    omega
theorem getD_drop {α : Type} (l : List α) (t g : Nat) (d : α) : (l.drop t).getD g d = l.getD (t + g) d := by
  rw [List.getD_eq_getElem?_getD, List.getElem?_drop, List.getD_eq_getElem?_getD]
/-- Sizes of what is in the hand while an item is shared out. -/
theorem mon_L {cs : List Ch} {ow : Nat → Rat} {m K : Nat} (h : ChOk cs ow m K) {P : Rat} (hP : L P ≤ 2 * K + 1) {J : List Nat} (hJ : J.length ≤ 8) : L (maxQ (P - totS (kapQ cs ow) J) 0) ≤ 75 * K + 85 := by
  have h1 := L_totS (q := kapQ cs ow) (J := J) (K := 9 * K + 9) fun i _ => (kap_bound h i).2
  have h2 : J.length * (9 * K + 9 + 1) ≤ 8 * (9 * K + 9 + 1) := Nat.mul_le_mul_right _ hJ
  have h3 := L_max0 (P - totS (kapQ cs ow) J)
  have h4 := L_sub P (totS (kapQ cs ow) J)
  omega
set_option maxHeartbeats 8000000 in
theorem share_ok (x : It) (vc vo : Value) (owed : List RR) (K : Nat) (w : World) (hch : Sl encCh 6 w vc x.charges) (ho : Sl encR 3 w vo owed) (hok : ChOk x.charges (owF owed) owed.length K)
    (hp1 : Lr x.price ≤ K) (hp2 : Lr x.costs ≤ K) (hm : owed.length ≤ 1000000) (hoB : RB K owed) (hK : 20000 * K + 20000 ≤ MX) :
    Ret Tryz.prog 27 #[aggIt x vc, vo] w fun r w' => ∃ b, r = .tuple #[.slice (some ⟨b, 0, none⟩) x.charges.length x.charges.length, aggR (ofQ (lefQ x.charges (kapQ x.charges (owF owed)) (procQ x)))] ∧
      St w w' [(b, 29, (tab x.charges.length fun i => ofQ (shQ x.charges (kapQ x.charges (owF owed)) (procQ x) i)).flatMap encR)] := by
  have hM : MX = 1099511627776 := rfl
  obtain ⟨cs, hcs⟩ : ∃ cs, cs = x.charges := ⟨_, rfl⟩
  obtain ⟨P, hP⟩ : ∃ P, P = procQ x := ⟨_, rfl⟩
  have lP : L P ≤ 2 * K + 1 := by have := L_proc x; rw [hP]; omega
  have hproc := fun a n c w => Proceeds_ok x a n c w (by omega)
  rw [← hP] at hproc
  have hP0 : 0 ≤ P := by rw [hP]; unfold procQ maxQ; split <;> grind
  rw [← hcs, ← hP]
  rw [← hcs] at hch hok
  have hn8 := hok.n8
  obtain ⟨J, hJ⟩ : ∃ J, J = ordC cs := ⟨_, rfl⟩
  have hJl : J.length = cs.length := by rw [hJ]; exact ordC_len cs
  have hJm : ∀ i, i ∈ J ↔ i < cs.length := fun i => by rw [hJ]; exact ordC_mem
  have hJs : J.Pairwise (aheadC cs) := by rw [hJ]; exact ordC_sorted cs
  obtain ⟨kp, hkp⟩ : ∃ f, f = kapQ cs (owF owed) := ⟨_, rfl⟩
  have hkb := fun i => kap_bound hok i
  have hml := fun (M : List Nat) h => mon_L hok lP (J := M) h
  rw [← hkp] at hkb hml ⊢
  obtain ⟨ac, cc, hvc, _, _, _⟩ := hch.form
  have hone : vc.oneCell' = true := by rw [hvc]; rfl
  have hproc2 : ∀ w, Ret Tryz.prog 20 #[aggIt x vc] w fun v w' => v = aggR (ofQ P) ∧ Below w.heap.size w w' := fun w => by rw [hvc]; exact hproc _ _ _ w
  have hcb := fun k hk => kapS_bound hok (J := J) (fun i hi => (hJm i).1 hi) k hk
  have hS := St.init w
  have hW := hS.below
  refine enter Tryz.func27 rfl Tryz.ntmps27 rfl ?_
  repeat (with_reducible first | refine c_seq ?_ | refine c_block ?_ | refine c_skip ?_ | refine x_then ?_ | refine x_block ?_)
  refine c_reg ?_
  refine l_heavy rfl (s_box  rfl rfl hS ?_)
  intro b2 wz1 hS hBz1
  refine l_pure rfl (s_asg  rfl ?_)
  refine l_heavy rfl (s_alloc  vi_29 hS ?_)
  intro b5 wz2 hS hBz2
  refine l_nil ?_
  repeat (with_reducible first | refine c_seq ?_ | refine c_block ?_ | refine c_skip ?_ | refine x_then ?_ | refine x_block ?_)
  replace hS : St w _ [(b5, 29, encR zRR), (b2, 32, encIt (x, vc))] := hS
  repeat (with_reducible first | refine c_seq ?_ | refine c_block ?_ | refine c_skip ?_ | refine x_then ?_ | refine x_block ?_)
  refine c_reg ?_
  refine l_pure rfl (s_fld  rfl fo_32_2 ?_)
  refine l_read rfl (s_ldo (k := 1)  rfl vi_30 hS rfl rfl rfl (.inr rfl) ?_)
  refine l_heavy rfl (s_alloc  vi_30 hS ?_)
  intro b6 wz3 hS hBz3
  refine l_heavy rfl (s_stc (k := 0)  rfl rfl vi_30 hS rfl (Nat.le_of_ble_eq_true rfl) hone ?_)
  intro wz4 hS
  refine l_nil ?_
  repeat (with_reducible first | refine c_seq ?_ | refine c_block ?_ | refine c_skip ?_ | refine x_then ?_ | refine x_block ?_)
  replace hS : St w _ [(b6, 30, [vc]), (b5, 29, encR zRR), (b2, 32, encIt (x, vc))] := hS
  repeat (with_reducible first | refine c_seq ?_ | refine c_block ?_ | refine c_skip ?_ | refine x_then ?_ | refine x_block ?_)
  refine c_reg ?_
  refine l_read rfl (s_ldo (k := 0)  rfl vi_30 hS rfl rfl rfl (.inr rfl) ?_)
  refine l_pure rfl (s_lenr  rfl (hch.below hS.below) ⟨_, Tryz.underlying30⟩ ?_)
  refine l_heavy rfl (s_makeE (enc := enI) (n := cs.length) 0  rfl rfl si_63 rfl (by omega) (by omega) (by omega) (by omega) hS ?_)
  intro b7 wz5 hS hBz5
  refine l_pure rfl (s_asg  rfl ?_)
  refine l_nil ?_
  repeat (with_reducible first | refine c_seq ?_ | refine c_block ?_ | refine c_skip ?_ | refine x_then ?_ | refine x_block ?_)
  rw [tab_rep] at hS
  repeat (with_reducible first | refine c_seq ?_ | refine c_block ?_ | refine c_skip ?_ | refine x_then ?_ | refine x_block ?_)
  refine c_reg ?_
  refine l_pure rfl (s_move  rfl ?_)
  refine l_pure rfl (s_leno  rfl ⟨_, Tryz.underlying63⟩ ?_)
  refine l_pure rfl (s_move  rfl ?_)
  refine l_nil ?_
  repeat (with_reducible first | refine c_seq ?_ | refine c_skip ?_ | refine x_then ?_ | refine x_block ?_)
  refine c_cut1 (fun ρ w' => ρ 1 = vo ∧ ρ 2 = .pointer (some ⟨b2, 0, none⟩) ∧ ρ 5 = .pointer (some ⟨b5, 0, none⟩) ∧ ρ 6 = .pointer (some ⟨b6, 0, none⟩) ∧ ρ 7 = .slice (some ⟨b7, 0, none⟩) cs.length cs.length ∧
      St w w' [(b7, 3, (zI (List.range cs.length)).flatMap enI), (b6, 30, [vc]), (b5, 29, encR zRR), (b2, 32, encIt (x, vc))]) ?_ ?_
  · repeat (with_reducible first | refine c_seq ?_ | refine c_block ?_ | refine c_skip ?_ | refine x_then ?_ | refine x_block ?_)
    refine c_loop (σ := Nat) (fun i ρ w' => i ≤ cs.length ∧ ρ 1 = vo ∧ ρ 2 = .pointer (some ⟨b2, 0, none⟩) ∧ ρ 5 = .pointer (some ⟨b5, 0, none⟩) ∧ ρ 6 = .pointer (some ⟨b6, 0, none⟩) ∧ ρ 7 = .slice (some ⟨b7, 0, none⟩) cs.length cs.length ∧ ρ 23 = .int .i64 cs.length ∧ ρ 24 = .int .i64 i ∧
        St w w' [(b7, 3, (tab cs.length fun j => if j < i then (j : Int) else 0).flatMap enI), (b6, 30, [vc]), (b5, 29, encR zRR), (b2, 32, encIt (x, vc))]) (fun i => cs.length - i) 0
      ⟨Nat.zero_le _, rfl, rfl, rfl, rfl, rfl, rfl, rfl, hS⟩ ?_
    clear hS
    rintro i ρ w2 ⟨hi, h1, h2, h5, h6, h7, h23, h24, hS⟩
    repeat (with_reducible first | refine c_seq ?_ | refine c_block ?_ | refine c_skip ?_ | refine x_then ?_ | refine x_block ?_)
    refine c_reg ?_
    refine l_pure rfl (s_lss  h24 h23 ?_)
    refine l_nil ?_
    repeat (with_reducible first | refine c_seq ?_ | refine c_block ?_ | refine c_skip ?_ | refine x_then ?_ | refine x_block ?_)
    by_cases hlt : i < cs.length
    · refine c_yes rfl (decide_eq_true (by omega)) ?_
      repeat (with_reducible first | refine c_seq ?_ | refine c_block ?_ | refine c_skip ?_ | refine x_then ?_ | refine x_block ?_)
      have htl : (tab cs.length fun j => if j < i then (j : Int) else 0).length = cs.length := tab_len _ _
      have hset : (tab cs.length fun j => if j < i then (j : Int) else 0).set i (i : Int) = tab cs.length fun j => if j < i + 1 then (j : Int) else 0 := by
        rw [tab_set]
        refine tab_congr fun j _ => ?_
        by_cases e : j = i
        · subst e; rw [if_pos rfl, if_pos (by omega)]
        · rw [if_neg e]
          by_cases e2 : j < i
          · rw [if_pos e2, if_pos (by omega)]
          · rw [if_neg e2, if_neg (by omega)]
      repeat (with_reducible first | refine c_seq ?_ | refine c_block ?_ | refine c_skip ?_ | refine x_then ?_ | refine x_block ?_)
      refine c_reg ?_
      refine l_pure rfl (s_move  h24 ?_)
      refine l_pure rfl (s_asg  rfl ?_)
      refine l_nil ?_
      repeat (with_reducible first | refine c_seq ?_ | refine c_block ?_ | refine c_skip ?_ | refine x_then ?_ | refine x_block ?_)
      refine c_reg ?_
      refine l_pure rfl (s_move  h7 ?_)
      refine l_pure rfl (s_move  rfl ?_)
      refine l_pure rfl (s_move  rfl ?_)
      refine l_pure rfl (s_ixo (i := i)  rfl rfl (by omega) (by first | omega | (simp; done) | (simp; omega)) si_63 ?_)
      refine l_heavy rfl (s_stE (k := 0) (i := i) (enc := enI) (i : Int) (fun _ => rfl)  rfl rfl vi_3 hS rfl (by first | omega | simp) (by first | omega | (simp; done) | (simp; omega)) rfl rfl ?_)
      intro wz6 hS
      refine l_nil ?_
      repeat (with_reducible first | refine c_seq ?_ | refine c_block ?_ | refine c_skip ?_ | refine x_then ?_ | refine x_block ?_)
      replace hS : St w _ [(b7, 3, ((tab cs.length fun j => if j < i then (j : Int) else 0).set i (i : Int)).flatMap enI), (b6, 30, [vc]), (b5, 29, encR zRR), (b2, 32, encIt (x, vc))] := hS
      rw [hset] at hS
      repeat (with_reducible first | refine c_seq ?_ | refine c_block ?_ | refine c_skip ?_ | refine x_then ?_ | refine x_block ?_)
      refine c_reg ?_
      refine l_pure rfl (s_add  h24 rfl (IntWalk.i64_in _ (by omega)) ?_)
      refine l_pure rfl (s_move  rfl ?_)
      refine l_nil ?_
      repeat (with_reducible first | refine c_seq ?_ | refine c_block ?_ | refine c_skip ?_ | refine x_then ?_ | refine x_block ?_)
      exact ⟨i + 1, _, rfl, ⟨hlt, h1, h2, h5, h6, h7, h23, vi rfl (by omega), hS⟩, by omega⟩
    · refine c_no rfl (decide_eq_false (by omega)) ?_
      repeat (with_reducible first | refine c_seq ?_ | refine c_block ?_ | refine c_skip ?_ | refine x_then ?_ | refine x_block ?_)
      refine c_exit ?_
      repeat (with_reducible first | refine x_then_exit ?_ | refine x_block_exit ?_ | refine x_block_pass rfl ?_)
      repeat (with_reducible first | refine c_seq ?_ | refine c_block ?_ | refine c_skip ?_ | refine x_then ?_ | refine x_block ?_)
      obtain rfl : i = cs.length := by omega
      have e : (tab cs.length fun j => if j < cs.length then (j : Int) else 0) = zI (List.range cs.length) := by
        unfold zI tab
        exact List.map_congr_left fun j hj => if_pos (List.mem_range.1 hj)
      rw [e] at hS
      exact ⟨_, rfl, h1, h2, h5, h6, h7, hS⟩
  clear hS
  rintro ρ w2 ⟨h1, h2, h5, h6, h7, hS⟩
  repeat (with_reducible first | refine c_seq ?_ | refine c_block ?_ | refine c_skip ?_ | refine x_then ?_ | refine x_block ?_)
  have hc : CmpOk 52 [.pointer (some ⟨b6, 0, none⟩)] (cmpC cs) (zI (List.range cs.length)) w b7 3 [(b6, 30, [vc]), (b5, 29, encR zRR), (b2, 32, encIt (x, vc))] := by
    refine ⟨Tryz.call52, fun cs' u v w' hS' hx hy => ?_⟩
    obtain ⟨i, hi, rfl⟩ := List.mem_map.1 hx
    obtain ⟨k, hk, rfl⟩ := List.mem_map.1 hy
    exact share1_ok b6 i k vc cs w' (hS'.at (k := 1) rfl 0 1) (hch.below hS'.below) (List.mem_range.1 hi) (List.mem_range.1 hk)
  have hsort := SortStable_ok (zI (List.range cs.length)) hc [] cs.length cs.length (by rw [zI_len, List.length_range]) (by omega) w2 (by rw [List.append_nil]; exact hS)
  rw [sort_zC, List.append_nil, show isort (lower cs) (List.range cs.length) = J from hJ.symm] at hsort
  repeat (with_reducible first | refine c_seq ?_ | refine c_block ?_ | refine c_skip ?_ | refine x_then ?_ | refine x_block ?_)
  refine c_reg ?_
  refine l_pure rfl (s_move  h7 ?_)
  refine l_pure rfl (s_mkf1  h6 ?_)
  refine l_heavy rfl (s_call Tryz.call51 rfl (hsort) ?_)
  rintro r w3 ⟨rfl, hS3⟩
  clear hS
  have hS := hS3
  refine l_nil ?_
  repeat (with_reducible first | refine c_seq ?_ | refine c_block ?_ | refine c_skip ?_ | refine x_then ?_ | refine x_block ?_)
  refine c_forget (fun ρ' => ρ' 1 = vo ∧ ρ' 2 = .pointer (some ⟨b2, 0, none⟩) ∧ ρ' 5 = .pointer (some ⟨b5, 0, none⟩) ∧ ρ' 6 = .pointer (some ⟨b6, 0, none⟩) ∧ ρ' 7 = .slice (some ⟨b7, 0, none⟩) cs.length cs.length ∧ True) ⟨h1, h2, h5, h6, h7, trivial⟩ ?_
  rintro ρk7 ⟨hk7_1, hk7_2, hk7_5, hk7_6, hk7_7, -⟩
  repeat (with_reducible first | refine c_seq ?_ | refine c_block ?_ | refine c_skip ?_ | refine x_then ?_ | refine x_block ?_)
  refine c_reg ?_
  refine l_pure rfl (s_move  hk7_1 ?_)
  refine l_heavy rfl (s_call Tryz.call53 rfl (Clone_ok vo owed _ (ho.below hS.below) hm) ?_)
  rintro r w4 ⟨LO, hG, hSO⟩
  replace hS : St w w4 ([(b7, 3, (zI J).flatMap enI), (b6, 30, [vc]), (b5, 29, encR zRR), (b2, 32, encIt (x, vc))] ++ LO) := (hS.join hSO).perm List.perm_append_comm
  refine l_pure rfl (s_asg  rfl ?_)
  refine l_nil ?_
  repeat (with_reducible first | refine c_seq ?_ | refine c_block ?_ | refine c_skip ?_ | refine x_then ?_ | refine x_block ?_)
  refine c_forget (fun ρ' => ρ' 2 = .pointer (some ⟨b2, 0, none⟩) ∧ ρ' 5 = .pointer (some ⟨b5, 0, none⟩) ∧ ρ' 6 = .pointer (some ⟨b6, 0, none⟩) ∧ ρ' 7 = .slice (some ⟨b7, 0, none⟩) cs.length cs.length ∧ ρ' 9 = r ∧ True) ⟨hk7_2, hk7_5, hk7_6, hk7_7, rfl, trivial⟩ ?_
  rintro ρk8 ⟨hk8_2, hk8_5, hk8_6, hk8_7, hk8_9, -⟩
  repeat (with_reducible first | refine c_seq ?_ | refine c_block ?_ | refine c_skip ?_ | refine x_then ?_ | refine x_block ?_)
  refine c_reg ?_
  refine l_read rfl (s_ldo (k := 1)  hk8_6 vi_30 hS rfl rfl rfl (.inr rfl) ?_)
  refine l_pure rfl (s_lenr  rfl (hch.below hS.below) ⟨_, Tryz.underlying30⟩ ?_)
  refine l_heavy rfl (s_makeE (enc := encR) (n := cs.length) zRR  rfl rfl si_24 rfl (by omega) (by omega) (by omega) (by omega) hS ?_)
  intro b10 wz9 hS hBz9
  refine l_pure rfl (s_asg  rfl ?_)
  refine l_nil ?_
  repeat (with_reducible first | refine c_seq ?_ | refine c_block ?_ | refine c_skip ?_ | refine x_then ?_ | refine x_block ?_)
  rw [tab_rep] at hS
  have e0 : (tab cs.length fun _ => zRR) = tab cs.length fun i => ofQ ((kapS cs (owF owed) (J.take 0)).cap i) := tab_congr fun i _ => ofQ_zero.symm
  rw [e0] at hS
  repeat (with_reducible first | refine c_seq ?_ | refine c_block ?_ | refine c_skip ?_ | refine x_then ?_ | refine x_block ?_)
  refine c_forget (fun ρ' => ρ' 2 = .pointer (some ⟨b2, 0, none⟩) ∧ ρ' 5 = .pointer (some ⟨b5, 0, none⟩) ∧ ρ' 6 = .pointer (some ⟨b6, 0, none⟩) ∧ ρ' 7 = .slice (some ⟨b7, 0, none⟩) cs.length cs.length ∧ ρ' 9 = r ∧ ρ' 10 = .slice (some ⟨b10, 0, none⟩) cs.length cs.length ∧ True) ⟨hk8_2, hk8_5, hk8_6, hk8_7, hk8_9, rfl, trivial⟩ ?_
  rintro ρk10 ⟨hk10_2, hk10_5, hk10_6, hk10_7, hk10_9, hk10_10, -⟩
  repeat (with_reducible first | refine c_seq ?_ | refine c_block ?_ | refine c_skip ?_ | refine x_then ?_ | refine x_block ?_)
  refine c_reg ?_
  refine l_pure rfl (s_move  hk10_7 ?_)
  refine l_pure rfl (s_leno  rfl ⟨_, Tryz.underlying63⟩ ?_)
  refine l_pure rfl (s_move  rfl ?_)
  refine l_nil ?_
  repeat (with_reducible first | refine c_seq ?_ | refine c_skip ?_ | refine x_then ?_ | refine x_block ?_)
  refine c_cut1 (fun ρ w' => ρ 2 = .pointer (some ⟨b2, 0, none⟩) ∧ ρ 5 = .pointer (some ⟨b5, 0, none⟩) ∧ ρ 6 = .pointer (some ⟨b6, 0, none⟩) ∧ ρ 7 = .slice (some ⟨b7, 0, none⟩) cs.length cs.length ∧ ρ 10 = .slice (some ⟨b10, 0, none⟩) cs.length cs.length ∧
      St w w' [(b10, 29, (tab cs.length fun i => ofQ (kp i)).flatMap encR), (b7, 3, (zI J).flatMap enI), (b6, 30, [vc]), (b5, 29, encR zRR), (b2, 32, encIt (x, vc))]) ?_ ?_
  · repeat (with_reducible first | refine c_seq ?_ | refine c_block ?_ | refine c_skip ?_ | refine x_then ?_ | refine x_block ?_)
    refine c_loop (σ := Nat) (fun t ρ w' => t ≤ J.length ∧ ρ 2 = .pointer (some ⟨b2, 0, none⟩) ∧ ρ 5 = .pointer (some ⟨b5, 0, none⟩) ∧ ρ 6 = .pointer (some ⟨b6, 0, none⟩) ∧ ρ 7 = .slice (some ⟨b7, 0, none⟩) cs.length cs.length ∧ ρ 9 = r ∧ ρ 10 = .slice (some ⟨b10, 0, none⟩) cs.length cs.length ∧ ρ 40 = .slice (some ⟨b7, 0, none⟩) cs.length cs.length ∧ ρ 41 = .int .i64 cs.length ∧ ρ 42 = .int .i64 t ∧
        ∃ O LO, O.length = owed.length ∧ (∀ c, c < owed.length → toQ (O.getD c zRR) = (kapS cs (owF owed) (J.take t)).op c ∧ Lr (O.getD c zRR) ≤ 9 * K + 9) ∧ Gl encR 29 3 r O LO ∧
        St w w' ([(b10, 29, (tab cs.length fun i => ofQ ((kapS cs (owF owed) (J.take t)).cap i)).flatMap encR), (b7, 3, (zI J).flatMap enI), (b6, 30, [vc]), (b5, 29, encR zRR), (b2, 32, encIt (x, vc))] ++ LO)) (fun t => J.length - t) 0
      ⟨Nat.zero_le _, by assumption, by assumption, by assumption, by assumption, by assumption, by assumption, rfl, rfl, rfl, owed, LO, rfl, fun c hc => ⟨rfl, Nat.le_trans (hoB _ (getD_mem owed c zRR hc)) (by omega)⟩, hG, hS⟩ ?_
    clear hS hG h1 h2 h5 h6 h7
    rintro t ρ w5 ⟨ht, h2, h5, h6, h7, h9, h10, h40, h41, h42, O, LO, hOl, hO, hG, hS⟩
    repeat (with_reducible first | refine c_seq ?_ | refine c_block ?_ | refine c_skip ?_ | refine x_then ?_ | refine x_block ?_)
    refine c_reg ?_
    refine l_pure rfl (s_lss  h42 h41 ?_)
    refine l_nil ?_
    repeat (with_reducible first | refine c_seq ?_ | refine c_block ?_ | refine c_skip ?_ | refine x_then ?_ | refine x_block ?_)
    by_cases hlt : t < J.length
    · refine c_yes rfl (decide_eq_true (by omega)) ?_
      repeat (with_reducible first | refine c_seq ?_ | refine c_block ?_ | refine c_skip ?_ | refine x_then ?_ | refine x_block ?_)
      have hzg := zI_get J hlt
      obtain ⟨i, hi⟩ : ∃ i, i = J.getD t 0 := ⟨_, rfl⟩
      have hiJ : i ∈ J := by rw [hi]; exact getD_mem J t 0 hlt
      have hin := (hJm i).1 hiJ
      have htk := take_succ' J t 0 hlt
      rw [← hi] at hzg htk
      obtain ⟨c, hc0⟩ : ∃ c, c = cs.getD i zCh := ⟨_, rfl⟩
      obtain ⟨k, hk0⟩ : ∃ k, k = clm cs i := ⟨_, rfl⟩
      obtain ⟨hkm, hck⟩ := hok.cl hin
      rw [← hk0] at hkm hck
      replace hck : c.claim = (k : Int) := by rw [hc0]; exact hck
      have hcl := hok.lB i hin
      replace hcl : Lr c.limit ≤ K := by rw [hc0]; exact hcl
      obtain ⟨S, hSe⟩ : ∃ S, S = kapS cs (owF owed) (J.take t) := ⟨_, rfl⟩
      obtain ⟨cb1, cb2⟩ := hcb t (by omega)
      obtain ⟨db1, db2⟩ := hcb (t + 1) (by omega)
      have bt : t * (K + 1) ≤ 7 * (K + 1) := Nat.mul_le_mul_right _ (by omega)
      have bt1 : (t + 1) * (K + 1) ≤ 8 * (K + 1) := Nat.mul_le_mul_right _ (by omega)
      rw [htk, kapS_snoc] at db1 db2
      rw [← hSe] at hO hS cb1 cb2 db1 db2
      obtain ⟨c1, c2, c3⟩ := cb1 k hkm
      obtain ⟨hO1, hO2⟩ := hO k hkm
      obtain ⟨rm, hrm⟩ : ∃ q, q = roomQ c (S.op k) := ⟨_, rfl⟩
      have hrm2 : roomQ (gC cs i) (S.op (clm cs i)) = rm := by rw [hrm, hc0, hk0]; rfl
      have hop : ∀ j, (cstp cs S i).op j = if j = k then S.op k - rm else S.op j := fun j => by
        show (if j = clm cs i then _ else _) = _
        rw [hrm2, ← hk0]
        split
        · next e => rw [e]
        · rfl
      have hcap : ∀ j, (cstp cs S i).cap j = if j = i then rm else S.cap j := fun j => by
        show (if j = i then _ else _) = _
        rw [hrm2]
      have hmx : maxQ (S.op k) 0 = S.op k := maxQ_pos c1
      have hrm3 : rm = if c.lim = true then minQ (S.op k) (toQ c.limit) else S.op k := by rw [hrm, roomQ_of c1]
      have lrm : L rm ≤ 9 * K + 9 := by
        have := (db2 i).2
        rw [hcap, if_pos rfl] at this
        omega
      have hzn : (zI J).length = J.length := zI_len J
      have htl : (tab cs.length fun j => ofQ (S.cap j)).length = cs.length := tab_len _ _
      repeat (with_reducible first | refine c_seq ?_ | refine c_block ?_ | refine c_skip ?_ | refine x_then ?_ | refine x_block ?_)
      refine c_reg ?_
      refine l_pure rfl (s_ixo (i := t)  h40 h42 (by omega) (by first | omega | (simp; done) | (simp; omega)) si_63 ?_)
      refine l_read rfl (s_ldE (k := 1) (i := t) (enc := enI) 0 (fun _ => rfl)  rfl vi_3 hS rfl (by first | omega | simp) (by first | omega | (simp; done) | (simp; omega)) rfl (.inr rfl) ?_)
      refine l_pure rfl (s_asg  rfl ?_)
      refine l_nil ?_
      repeat (with_reducible first | refine c_seq ?_ | refine c_block ?_ | refine c_skip ?_ | refine x_then ?_ | refine x_block ?_)
      rw [hzg]
      repeat (with_reducible first | refine c_seq ?_ | refine c_block ?_ | refine c_skip ?_ | refine x_then ?_ | refine x_block ?_)
      refine c_forget (fun ρ' => ρ' 2 = .pointer (some ⟨b2, 0, none⟩) ∧ ρ' 5 = .pointer (some ⟨b5, 0, none⟩) ∧ ρ' 6 = .pointer (some ⟨b6, 0, none⟩) ∧ ρ' 7 = .slice (some ⟨b7, 0, none⟩) cs.length cs.length ∧ ρ' 9 = r ∧ ρ' 10 = .slice (some ⟨b10, 0, none⟩) cs.length cs.length ∧ ρ' 40 = .slice (some ⟨b7, 0, none⟩) cs.length cs.length ∧ ρ' 41 = .int .i64 cs.length ∧ ρ' 42 = .int .i64 t ∧ ρ' 12 = .int .i64 i ∧ True) ⟨h2, h5, h6, h7, h9, h10, h40, h41, h42, rfl, trivial⟩ ?_
      rintro ρk11 ⟨hk11_2, hk11_5, hk11_6, hk11_7, hk11_9, hk11_10, hk11_40, hk11_41, hk11_42, hk11_12, -⟩
      repeat (with_reducible first | refine c_seq ?_ | refine c_block ?_ | refine c_skip ?_ | refine x_then ?_ | refine x_block ?_)
      refine c_reg ?_
      refine l_read rfl (s_ldo (k := 2)  hk11_6 vi_30 hS rfl rfl rfl (.inr rfl) ?_)
      refine l_pure rfl (s_move  hk11_12 ?_)
      refine l_pure rfl (s_ixr (i := i)  rfl rfl (hch.below hS.below) (by omega) (by first | omega | (simp; done) | (simp; omega)) si_30 ?_)
      refine l_read rfl (s_lde (i := i) zCh  rfl vi_38 (hch.below hS.below) (by first | omega | (simp; done) | (simp; omega)) rfl rfl (.inl rfl) ?_)
      refine l_heavy rfl (s_alloc  vi_38 hS ?_)
      intro b13 wz12 hS hBz12
      refine l_heavy rfl (s_sta (k := 0)  rfl rfl vi_38 hS rfl rfl rfl (Nat.le_of_ble_eq_true rfl) rfl ?_)
      intro wz13 hS
      refine l_nil ?_
      repeat (with_reducible first | refine c_seq ?_ | refine c_block ?_ | refine c_skip ?_ | refine x_then ?_ | refine x_block ?_)
      replace hS : St w _ ((b13, 38, encCh (cs.getD i zCh)) :: (b10, 29, (tab cs.length fun i => ofQ (S.cap i)).flatMap encR) :: (b7, 3, (zI J).flatMap enI) :: (b6, 30, [vc]) :: (b5, 29, encR zRR) :: (b2, 32, encIt (x, vc)) :: LO) := hS
      rw [← hc0] at hS
      repeat (with_reducible first | refine c_seq ?_ | refine c_block ?_ | refine c_skip ?_ | refine x_then ?_ | refine x_block ?_)
      refine c_forget (fun ρ' => ρ' 2 = .pointer (some ⟨b2, 0, none⟩) ∧ ρ' 5 = .pointer (some ⟨b5, 0, none⟩) ∧ ρ' 6 = .pointer (some ⟨b6, 0, none⟩) ∧ ρ' 7 = .slice (some ⟨b7, 0, none⟩) cs.length cs.length ∧ ρ' 9 = r ∧ ρ' 10 = .slice (some ⟨b10, 0, none⟩) cs.length cs.length ∧ ρ' 40 = .slice (some ⟨b7, 0, none⟩) cs.length cs.length ∧ ρ' 41 = .int .i64 cs.length ∧ ρ' 42 = .int .i64 t ∧ ρ' 12 = .int .i64 i ∧ ρ' 13 = .pointer (some ⟨b13, 0, none⟩) ∧ True) ⟨hk11_2, hk11_5, hk11_6, hk11_7, hk11_9, hk11_10, hk11_40, hk11_41, hk11_42, hk11_12, rfl, trivial⟩ ?_
      rintro ρk14 ⟨hk14_2, hk14_5, hk14_6, hk14_7, hk14_9, hk14_10, hk14_40, hk14_41, hk14_42, hk14_12, hk14_13, -⟩
      have hL0 : Lr zRR = 1 := Lr_zRR
      repeat (with_reducible first | refine c_seq ?_ | refine c_block ?_ | refine c_skip ?_ | refine x_then ?_ | refine x_block ?_)
      refine c_reg ?_
      refine l_pure rfl (s_move  hk14_10 ?_)
      refine l_pure rfl (s_move  hk14_12 ?_)
      refine l_pure rfl (s_move  hk14_9 ?_)
      refine l_pure rfl (s_fld  hk14_13 fo_38_0 ?_)
      refine l_read rfl (s_ldo (k := 0)  rfl vi_3 hS rfl rfl rfl (.inr rfl) ?_)
      refine l_pure rfl (s_ixr (i := k)  rfl rfl (hG.sl (H := [(b13, 38, encCh c), (b10, 29, (tab cs.length fun i => ofQ (S.cap i)).flatMap encR), (b7, 3, (zI J).flatMap enI), (b6, 30, [vc]), (b5, 29, encR zRR), (b2, 32, encIt (x, vc))]) hS encR_len) (by omega) (by first | omega | (simp; done) | (simp; omega)) si_24 ?_)
      refine l_read rfl (s_lde (i := k) zRR  rfl vi_29 (hG.sl (H := [(b13, 38, encCh c), (b10, 29, (tab cs.length fun i => ofQ (S.cap i)).flatMap encR), (b7, 3, (zI J).flatMap enI), (b6, 30, [vc]), (b5, 29, encR zRR), (b2, 32, encIt (x, vc))]) hS encR_len) (by first | omega | (simp; done) | (simp; omega)) rfl rfl (.inl rfl) ?_)
      refine l_pure rfl (s_build  rfl bz_29 ?_)
      refine l_heavy rfl (s_call Tryz.call54 rfl (QMax_ok (O.getD k zRR) zRR _ (by omega)) ?_)
      rintro r' w6 ⟨rfl, hB6⟩
      rw [toQ_zRR, hO1, hmx]
      replace hS := hS.grow hB6
      refine l_pure rfl (s_ixo (i := i)  rfl rfl (by omega) (by first | omega | (simp; done) | (simp; omega)) si_24 ?_)
      refine l_heavy rfl (s_stE (k := 1) (i := i) (enc := encR) (ofQ (S.op k)) (fun _ => rfl)  rfl rfl vi_29 hS rfl (by first | omega | simp) (by first | omega | (simp; done) | (simp; omega)) rfl rfl ?_)
      intro wz15 hS
      refine l_nil ?_
      repeat (with_reducible first | refine c_seq ?_ | refine c_block ?_ | refine c_skip ?_ | refine x_then ?_ | refine x_block ?_)
      replace hS : St w _ ((b13, 38, encCh c) :: (b10, 29, ((tab cs.length fun i => ofQ (S.cap i)).set i (ofQ (S.op k))).flatMap encR) :: (b7, 3, (zI J).flatMap enI) :: (b6, 30, [vc]) :: (b5, 29, encR zRR) :: (b2, 32, encIt (x, vc)) :: LO) := hS
      rw [tab_setQ] at hS
      have htl2 : (tab cs.length fun j => ofQ (if j = i then S.op k else S.cap j)).length = cs.length := tab_len _ _
      have hg2 : (tab cs.length fun j => ofQ (if j = i then S.op k else S.cap j)).getD i zRR = ofQ (S.op k) := by rw [tab_get _ _ hin, if_pos rfl]
      repeat (with_reducible first | refine c_seq ?_ | refine c_block ?_ | refine c_skip ?_ | refine x_then ?_ | refine x_block ?_)
      refine c_forget (fun ρ' => ρ' 2 = .pointer (some ⟨b2, 0, none⟩) ∧ ρ' 5 = .pointer (some ⟨b5, 0, none⟩) ∧ ρ' 6 = .pointer (some ⟨b6, 0, none⟩) ∧ ρ' 7 = .slice (some ⟨b7, 0, none⟩) cs.length cs.length ∧ ρ' 9 = r ∧ ρ' 10 = .slice (some ⟨b10, 0, none⟩) cs.length cs.length ∧ ρ' 40 = .slice (some ⟨b7, 0, none⟩) cs.length cs.length ∧ ρ' 41 = .int .i64 cs.length ∧ ρ' 42 = .int .i64 t ∧ ρ' 12 = .int .i64 i ∧ ρ' 13 = .pointer (some ⟨b13, 0, none⟩) ∧ True) ⟨hk14_2, hk14_5, hk14_6, hk14_7, hk14_9, hk14_10, hk14_40, hk14_41, hk14_42, hk14_12, hk14_13, trivial⟩ ?_
      rintro ρk16 ⟨hk16_2, hk16_5, hk16_6, hk16_7, hk16_9, hk16_10, hk16_40, hk16_41, hk16_42, hk16_12, hk16_13, -⟩
      repeat (with_reducible first | refine c_seq ?_ | refine c_block ?_ | refine c_skip ?_ | refine x_then ?_ | refine x_block ?_)
      refine c_reg ?_
      refine l_pure rfl (s_fld  hk16_13 fo_38_2 ?_)
      refine l_read rfl (s_ldo (k := 0)  rfl vi_4 hS rfl rfl rfl (.inr rfl) ?_)
      refine l_nil ?_
      repeat (with_reducible first | refine c_seq ?_ | refine c_skip ?_ | refine x_then ?_ | refine x_block ?_)
      refine c_cut1 (fun ρ w' => ρ 2 = .pointer (some ⟨b2, 0, none⟩) ∧ ρ 5 = .pointer (some ⟨b5, 0, none⟩) ∧ ρ 6 = .pointer (some ⟨b6, 0, none⟩) ∧ ρ 7 = .slice (some ⟨b7, 0, none⟩) cs.length cs.length ∧ ρ 9 = r ∧ ρ 10 = .slice (some ⟨b10, 0, none⟩) cs.length cs.length ∧ ρ 40 = .slice (some ⟨b7, 0, none⟩) cs.length cs.length ∧ ρ 41 = .int .i64 cs.length ∧ ρ 42 = .int .i64 t ∧ ρ 12 = .int .i64 i ∧ ρ 13 = .pointer (some ⟨b13, 0, none⟩) ∧
          St w w' ((b13, 38, encCh c) :: (b10, 29, (tab cs.length fun j => ofQ ((cstp cs S i).cap j)).flatMap encR) :: (b7, 3, (zI J).flatMap enI) :: (b6, 30, [vc]) :: (b5, 29, encR zRR) :: (b2, 32, encIt (x, vc)) :: LO)) ?_ ?_
      · repeat (with_reducible first | refine c_seq ?_ | refine c_block ?_ | refine c_skip ?_ | refine x_then ?_ | refine x_block ?_)
        cases hlm : c.lim with
        | true =>
          rw [if_pos hlm] at hrm3
          refine c_yes rfl (hlm) ?_
          repeat (with_reducible first | refine c_seq ?_ | refine c_block ?_ | refine c_skip ?_ | refine x_then ?_ | refine x_block ?_)
          refine c_draw [(0, .pure), (1, .pure), (2, .pure), (3, .pure), (4, .pure), (5, .read), (6, .pure), (7, .read), (8, .grow), (9, .pure), (10, .free)] (by kernel_rfl) (by kernel_rfl) hS ?_
          intro wz17 hS hBz17
          refine w_pure rfl rfl (s_move  hk16_10 ?_)
          refine w_pure rfl rfl (s_move  hk16_12 ?_)
          refine w_pure rfl rfl (s_move  hk16_10 ?_)
          refine w_pure rfl rfl (s_move  hk16_12 ?_)
          refine w_pure rfl rfl (s_ixo (i := i)  rfl rfl (by omega) (by first | omega | (simp; done) | (simp; omega)) si_24 ?_)
          refine w_read rfl rfl (s_ldE (k := 1) (i := i) (enc := encR) zRR (fun _ => rfl)  rfl vi_29 hS rfl (by first | omega | simp) (by first | omega | (simp; done) | (simp; omega)) rfl (.inl rfl) ?_)
          refine w_pure rfl rfl (s_fld  hk16_13 fo_38_3 ?_)
          refine w_read rfl rfl (s_ldo (k := 0)  rfl vi_29 hS rfl rfl rfl (.inl rfl) ?_)
          rw [hg2]
          refine w_grow rfl rfl (s_call Tryz.call55 rfl (QMin_ok (ofQ (S.op k)) c.limit _ (by rw [Lr_ofQ]; omega)) ?_)
          rintro r' w7 ⟨rfl, hB7⟩
          refine ⟨hB7, ?_⟩
          rw [toQ_ofQ, ← hrm3]
          replace hS := hS.grow hB7
          refine w_pure rfl rfl (s_ixo (i := i)  rfl rfl (by omega) (by first | omega | (simp; done) | (simp; omega)) si_24 ?_)
          refine w_free rfl rfl (s_stE (k := 1) (i := i) (enc := encR) (ofQ rm) (fun _ => rfl)  rfl rfl vi_29 hS rfl (by first | omega | simp) (by first | omega | (simp; done) | (simp; omega)) rfl rfl ?_)
          intro wz18 hS
          refine w_end ?_
          repeat (with_reducible first | refine c_seq ?_ | refine c_block ?_ | refine c_skip ?_ | refine x_then ?_ | refine x_block ?_)
          replace hS : St w _ ((b13, 38, encCh c) :: (b10, 29, ((tab cs.length fun j => ofQ (if j = i then S.op k else S.cap j)).set i (ofQ rm)).flatMap encR) :: (b7, 3, (zI J).flatMap enI) :: (b6, 30, [vc]) :: (b5, 29, encR zRR) :: (b2, 32, encIt (x, vc)) :: LO) := hS
          rw [tab_setQ, tab_congr (g := fun j => ofQ ((cstp cs S i).cap j)) (fun j _ => by rw [hcap]; by_cases e : j = i <;> simp [e])] at hS
          exact ⟨_, rfl, by assumption, by assumption, by assumption, by assumption, by assumption, by assumption, by assumption, by assumption, by assumption, by assumption, by assumption, hS⟩
        | false =>
          rw [if_neg (by rw [hlm]; decide)] at hrm3
          refine c_no rfl (hlm) ?_
          repeat (with_reducible first | refine c_seq ?_ | refine c_block ?_ | refine c_skip ?_ | refine x_then ?_ | refine x_block ?_)
          rw [tab_congr (g := fun j => ofQ ((cstp cs S i).cap j)) (fun j _ => by rw [hcap, hrm3])] at hS
          exact ⟨_, rfl, by assumption, by assumption, by assumption, by assumption, by assumption, by assumption, by assumption, by assumption, by assumption, by assumption, by assumption, hS⟩
      clear hS h2 h5 h6 h7 h9 h10 h40 h41 h42
      rintro ρ w7 ⟨h2, h5, h6, h7, h9, h10, h40, h41, h42, h12, h13, hS⟩
      have htl3 : (tab cs.length fun j => ofQ ((cstp cs S i).cap j)).length = cs.length := tab_len _ _
      have hg3 : (tab cs.length fun j => ofQ ((cstp cs S i).cap j)).getD i zRR = ofQ rm := by rw [tab_get _ _ hin, hcap, if_pos rfl]
      repeat (with_reducible first | refine c_seq ?_ | refine c_block ?_ | refine c_skip ?_ | refine x_then ?_ | refine x_block ?_)
      refine c_draw [(0, .pure), (1, .pure), (2, .read), (3, .pure), (4, .pure), (5, .read), (6, .pure), (7, .read), (8, .pure), (9, .pure), (10, .pure), (11, .read), (12, .grow), (13, .pure), (14, .free)] (by kernel_rfl) (by kernel_rfl) hS ?_
      intro wz19 hS hBz19
      refine w_pure rfl rfl (s_move  h9 ?_)
      refine w_pure rfl rfl (s_fld  h13 fo_38_0 ?_)
      refine w_read rfl rfl (s_ldo (k := 0)  rfl vi_3 hS rfl rfl rfl (.inr rfl) ?_)
      refine w_pure rfl rfl (s_move  h9 ?_)
      refine w_pure rfl rfl (s_fld  h13 fo_38_0 ?_)
      refine w_read rfl rfl (s_ldo (k := 0)  rfl vi_3 hS rfl rfl rfl (.inr rfl) ?_)
      refine w_pure rfl rfl (s_ixr (i := k)  rfl rfl (hG.sl (H := [(b13, 38, encCh c), (b10, 29, (tab cs.length fun j => ofQ ((cstp cs S i).cap j)).flatMap encR), (b7, 3, (zI J).flatMap enI), (b6, 30, [vc]), (b5, 29, encR zRR), (b2, 32, encIt (x, vc))]) hS encR_len) (by omega) (by first | omega | (simp; done) | (simp; omega)) si_24 ?_)
      refine w_read rfl rfl (s_lde (i := k) zRR  rfl vi_29 (hG.sl (H := [(b13, 38, encCh c), (b10, 29, (tab cs.length fun j => ofQ ((cstp cs S i).cap j)).flatMap encR), (b7, 3, (zI J).flatMap enI), (b6, 30, [vc]), (b5, 29, encR zRR), (b2, 32, encIt (x, vc))]) hS encR_len) (by first | omega | (simp; done) | (simp; omega)) rfl rfl (.inl rfl) ?_)
      refine w_pure rfl rfl (s_move  h10 ?_)
      refine w_pure rfl rfl (s_move  h12 ?_)
      refine w_pure rfl rfl (s_ixo (i := i)  rfl rfl (by omega) (by first | omega | (simp; done) | (simp; omega)) si_24 ?_)
      refine w_read rfl rfl (s_ldE (k := 1) (i := i) (enc := encR) zRR (fun _ => rfl)  rfl vi_29 hS rfl (by first | omega | simp) (by first | omega | (simp; done) | (simp; omega)) rfl (.inl rfl) ?_)
      rw [hg3]
      refine w_grow rfl rfl (s_call Tryz.call22 rfl (QSubtract_ok (O.getD k zRR) (ofQ rm) _ (by rw [Lr_ofQ]; omega)) ?_)
      rintro r' w8 ⟨rfl, hB8⟩
      refine ⟨hB8, ?_⟩
      rw [toQ_ofQ, hO1]
      replace hS := hS.grow hB8
      refine w_pure rfl rfl (s_ixr (i := k)  rfl rfl (hG.sl (H := [(b13, 38, encCh c), (b10, 29, (tab cs.length fun j => ofQ ((cstp cs S i).cap j)).flatMap encR), (b7, 3, (zI J).flatMap enI), (b6, 30, [vc]), (b5, 29, encR zRR), (b2, 32, encIt (x, vc))]) hS encR_len) (by omega) (by first | omega | (simp; done) | (simp; omega)) si_24 ?_)
      refine w_free rfl rfl (s_stG (i := k) (ofQ (S.op k - rm)) encR_len  rfl rfl vi_29 hG (H := [(b13, 38, encCh c), (b10, 29, (tab cs.length fun j => ofQ ((cstp cs S i).cap j)).flatMap encR), (b7, 3, (zI J).flatMap enI), (b6, 30, [vc]), (b5, 29, encR zRR), (b2, 32, encIt (x, vc))]) hS (by omega) rfl rfl ?_)
      intro wz20 hS
      refine w_end ?_
      repeat (with_reducible first | refine c_seq ?_ | refine c_block ?_ | refine c_skip ?_ | refine x_then ?_ | refine x_block ?_)
      obtain ⟨LO2, hG2, hS2⟩ := hS
      repeat (with_reducible first | refine c_seq ?_ | refine c_block ?_ | refine c_skip ?_ | refine x_then ?_ | refine x_block ?_)
      refine c_reg ?_
      refine l_pure rfl (s_add  h42 rfl (IntWalk.i64_in _ (by omega)) ?_)
      refine l_pure rfl (s_move  rfl ?_)
      refine l_nil ?_
      repeat (with_reducible first | refine c_seq ?_ | refine c_block ?_ | refine c_skip ?_ | refine x_then ?_ | refine x_block ?_)
      refine ⟨t + 1, _, rfl, ⟨hlt, by assumption, by assumption, by assumption, by assumption, by assumption, by assumption, by assumption, by assumption, vi rfl (by omega), _, LO2, ?_, ?_, hG2, ?_⟩, by omega⟩
      · rw [List.length_set]; exact hOl
      · intro c' hc'
        rw [htk, kapS_snoc, ← hSe, hop]
        have hd := (db1 c' hc').2.2
        rw [hop] at hd
        by_cases e : c' = k
        · subst e
          rw [if_pos rfl] at hd ⊢
          rw [List.getD_eq_getElem?_getD, List.getElem?_set_self (by omega)]
          exact ⟨toQ_ofQ _, by show Lr (ofQ _) ≤ _; rw [Lr_ofQ]; omega⟩
        · rw [if_neg e] at hd ⊢
          rw [List.getD_eq_getElem?_getD, List.getElem?_set_ne (Ne.symm e), ← List.getD_eq_getElem?_getD]
          exact hO c' hc'
      · rw [htk, kapS_snoc, ← hSe]
        exact hS2.drop (List.sublist_cons_self _ _)
    · refine c_no rfl (decide_eq_false (by omega)) ?_
      repeat (with_reducible first | refine c_seq ?_ | refine c_block ?_ | refine c_skip ?_ | refine x_then ?_ | refine x_block ?_)
      refine c_exit ?_
      repeat (with_reducible first | refine x_then_exit ?_ | refine x_block_exit ?_ | refine x_block_pass rfl ?_)
      repeat (with_reducible first | refine c_seq ?_ | refine c_block ?_ | refine c_skip ?_ | refine x_then ?_ | refine x_block ?_)
      have e : J.take t = J := List.take_of_length_le (by omega)
      rw [e] at hS
      have e2 : (kapS cs (owF owed) J).cap = kp := by rw [hkp, hJ]; rfl
      rw [e2] at hS
      exact ⟨_, rfl, h2, h5, h6, h7, h10, hS.drop (List.sublist_append_left _ _)⟩
  clear hS hG
  rintro ρ w5 ⟨h2, h5, h6, h7, h10, hS⟩
  repeat (with_reducible first | refine c_seq ?_ | refine c_block ?_ | refine c_skip ?_ | refine x_then ?_ | refine x_block ?_)
  refine c_reg ?_
  refine l_read rfl (s_ldo (k := 2)  h6 vi_30 hS rfl rfl rfl (.inr rfl) ?_)
  refine l_pure rfl (s_lenr  rfl (hch.below hS.below) ⟨_, Tryz.underlying30⟩ ?_)
  refine l_heavy rfl (s_makeE (enc := encR) (n := cs.length) zRR  rfl rfl si_24 rfl (by omega) (by omega) (by omega) (by omega) hS ?_)
  intro b14 wz21 hS hBz21
  refine l_pure rfl (s_asg  rfl ?_)
  refine l_nil ?_
  repeat (with_reducible first | refine c_seq ?_ | refine c_block ?_ | refine c_skip ?_ | refine x_then ?_ | refine x_block ?_)
  rw [tab_rep] at hS
  repeat (with_reducible first | refine c_seq ?_ | refine c_block ?_ | refine c_skip ?_ | refine x_then ?_ | refine x_block ?_)
  refine c_forget (fun ρ' => ρ' 2 = .pointer (some ⟨b2, 0, none⟩) ∧ ρ' 5 = .pointer (some ⟨b5, 0, none⟩) ∧ ρ' 6 = .pointer (some ⟨b6, 0, none⟩) ∧ ρ' 7 = .slice (some ⟨b7, 0, none⟩) cs.length cs.length ∧ ρ' 10 = .slice (some ⟨b10, 0, none⟩) cs.length cs.length ∧ ρ' 14 = .slice (some ⟨b14, 0, none⟩) cs.length cs.length ∧ True) ⟨h2, h5, h6, h7, h10, rfl, trivial⟩ ?_
  rintro ρk22 ⟨hk22_2, hk22_5, hk22_6, hk22_7, hk22_10, hk22_14, -⟩
  repeat (with_reducible first | refine c_seq ?_ | refine c_block ?_ | refine c_skip ?_ | refine x_then ?_ | refine x_block ?_)
  refine c_reg ?_
  refine l_read rfl (s_ldo (k := 5)  hk22_2 vi_32 hS rfl rfl rfl (.inl rfl) ?_)
  refine l_heavy rfl (s_call Tryz.call20 rfl (hproc2 _) ?_)
  rintro r' w6 ⟨rfl, hB6⟩
  replace hS := hS.grow hB6
  refine l_heavy rfl (s_alloc  vi_29 hS ?_)
  intro b15 wz23 hS hBz23
  refine l_heavy rfl (s_sta (k := 0)  rfl rfl vi_29 hS rfl rfl rfl (Nat.le_of_ble_eq_true rfl) rfl ?_)
  intro wz24 hS
  refine l_nil ?_
  repeat (with_reducible first | refine c_seq ?_ | refine c_skip ?_ | refine x_then ?_ | refine x_block ?_)
  have e14 : (tab cs.length fun _ => zRR) = tab cs.length fun i => ofQ (if i ∈ J.take 0 then shQ cs kp P i else 0) := tab_congr fun i _ => by rw [List.take_zero, if_neg (fun h => nomatch h), ofQ_zero]; rfl
  have eP : P = maxQ (P - totS kp (J.take 0)) 0 := by rw [List.take_zero, totS_nil, show P - 0 = P by grind, maxQ_pos hP0]
  rw [e14] at hS
  replace hS : St w _ [(b15, 29, encR (ofQ P)), (b14, 29, (tab cs.length fun i => ofQ (if i ∈ J.take 0 then shQ cs kp P i else 0)).flatMap encR), (b10, 29, (tab cs.length fun i => ofQ (kp i)).flatMap encR), (b7, 3, (zI J).flatMap enI), (b6, 30, [vc]), (b5, 29, encR zRR)] := hS.drop (List.sublist_append_left (l₂ := [(b2, 32, encIt (x, vc))]) _)
  rw [show encR (ofQ P) = encR (ofQ (maxQ (P - totS kp (J.take 0)) 0)) by rw [← eP]] at hS
  refine c_cut1 (fun ρ w' => ρ 5 = .pointer (some ⟨b5, 0, none⟩) ∧ ρ 14 = .slice (some ⟨b14, 0, none⟩) cs.length cs.length ∧ ρ 15 = .pointer (some ⟨b15, 0, none⟩) ∧
      St w w' [(b15, 29, encR (ofQ (lefQ cs kp P))), (b14, 29, (tab cs.length fun i => ofQ (shQ cs kp P i)).flatMap encR), (b5, 29, encR zRR)]) ?_ ?_
  · repeat (with_reducible first | refine c_seq ?_ | refine c_block ?_ | refine c_skip ?_ | refine x_then ?_ | refine x_block ?_)
    refine c_loop (σ := Nat) (fun t ρ w' => t ≤ J.length ∧ ρ 5 = .pointer (some ⟨b5, 0, none⟩) ∧ ρ 6 = .pointer (some ⟨b6, 0, none⟩) ∧ ρ 10 = .slice (some ⟨b10, 0, none⟩) cs.length cs.length ∧ ρ 14 = .slice (some ⟨b14, 0, none⟩) cs.length cs.length ∧ ρ 15 = .pointer (some ⟨b15, 0, none⟩) ∧
        ∃ vq, ρ 7 = vq ∧ (∀ w', Sl enI 1 w' (.slice (some ⟨b7, 0, none⟩) cs.length cs.length) (zI J) → Sl enI 1 w' vq (zI (J.drop t))) ∧ (∀ i ∈ J.take t, ∀ k ∈ J.drop t, pr cs i < pr cs k) ∧
        St w w' [(b15, 29, encR (ofQ (maxQ (P - totS kp (J.take t)) 0))), (b14, 29, (tab cs.length fun i => ofQ (if i ∈ J.take t then shQ cs kp P i else 0)).flatMap encR), (b10, 29, (tab cs.length fun i => ofQ (kp i)).flatMap encR), (b7, 3, (zI J).flatMap enI), (b6, 30, [vc]), (b5, 29, encR zRR)]) (fun t => J.length - t) 0
      ⟨Nat.zero_le _, by assumption, by assumption, by assumption, by assumption, rfl, .slice (some ⟨b7, 0, none⟩) cs.length cs.length, by assumption, fun w' h => h, fun i hi => (by rw [List.take_zero] at hi; cases hi), hS⟩ ?_
    clear hS h2 h5 h6 h7 h10
    rintro t ρ w7 ⟨ht, h5, h6, h10, h14, h15, vq, h7, hRd, hbd, hS⟩
    have hdl : (zI (J.drop t)).length = J.length - t := by rw [zI_len, List.length_drop]
    repeat (with_reducible first | refine c_seq ?_ | refine c_block ?_ | refine c_skip ?_ | refine x_then ?_ | refine x_block ?_)
    refine c_reg ?_
    refine l_pure rfl (s_move  h7 ?_)
    refine l_pure rfl (s_lenr  rfl (hRd _ (sl_ord hS (k := 3) rfl hJl (by omega))) ⟨_, Tryz.underlying63⟩ ?_)
    refine l_pure rfl (s_gtr  rfl rfl ?_)
    refine l_nil ?_
    repeat (with_reducible first | refine c_seq ?_ | refine c_block ?_ | refine c_skip ?_ | refine x_then ?_ | refine x_block ?_)
    by_cases hlt : t < J.length
    · refine c_yes rfl (decide_eq_true (by omega)) ?_
      repeat (with_reducible first | refine c_seq ?_ | refine c_block ?_ | refine c_skip ?_ | refine x_then ?_ | refine x_block ?_)
      obtain ⟨i0, hi0⟩ : ∃ i, i = J.getD t 0 := ⟨_, rfl⟩
      have hi0n : i0 < cs.length := (hJm i0).1 (by rw [hi0]; exact getD_mem J t 0 hlt)
      obtain ⟨p, hp⟩ : ∃ p, p = pr cs i0 := ⟨_, rfl⟩
      have hz0 : (zI (J.drop t)).getD 0 0 = (i0 : Int) := by rw [zI_get _ (by rw [List.length_drop]; omega), getD_drop, Nat.add_zero, ← hi0]
      repeat (with_reducible first | refine c_seq ?_ | refine c_block ?_ | refine c_skip ?_ | refine x_then ?_ | refine x_block ?_)
      refine c_reg ?_
      refine l_pure rfl (s_asg  rfl ?_)
      refine l_nil ?_
      repeat (with_reducible first | refine c_seq ?_ | refine c_skip ?_ | refine x_then ?_ | refine x_block ?_)
      refine c_cut1 (fun ρ w' => ρ 5 = .pointer (some ⟨b5, 0, none⟩) ∧ ρ 6 = .pointer (some ⟨b6, 0, none⟩) ∧ ρ 7 = vq ∧ ρ 10 = .slice (some ⟨b10, 0, none⟩) cs.length cs.length ∧ ρ 14 = .slice (some ⟨b14, 0, none⟩) cs.length cs.length ∧ ρ 15 = .pointer (some ⟨b15, 0, none⟩) ∧
          (∃ g : Nat, ρ 16 = .int .i64 g ∧ 1 ≤ g ∧ t + g ≤ J.length ∧ (∀ i ∈ (J.drop t).take g, pr cs i = p) ∧ ∀ i ∈ J.drop (t + g), p < pr cs i) ∧
          St w w' [(b15, 29, encR (ofQ (maxQ (P - totS kp (J.take t)) 0))), (b14, 29, (tab cs.length fun i => ofQ (if i ∈ J.take t then shQ cs kp P i else 0)).flatMap encR), (b10, 29, (tab cs.length fun i => ofQ (kp i)).flatMap encR), (b7, 3, (zI J).flatMap enI), (b6, 30, [vc]), (b5, 29, encR zRR)]) ?_ ?_
      · repeat (with_reducible first | refine c_seq ?_ | refine c_block ?_ | refine c_skip ?_ | refine x_then ?_ | refine x_block ?_)
        refine c_loop (σ := Nat) (fun g ρ w' => 1 ≤ g ∧ t + g ≤ J.length ∧ (∀ i ∈ (J.drop t).take g, pr cs i = p) ∧ ρ 5 = .pointer (some ⟨b5, 0, none⟩) ∧ ρ 6 = .pointer (some ⟨b6, 0, none⟩) ∧ ρ 7 = vq ∧ ρ 10 = .slice (some ⟨b10, 0, none⟩) cs.length cs.length ∧ ρ 14 = .slice (some ⟨b14, 0, none⟩) cs.length cs.length ∧ ρ 15 = .pointer (some ⟨b15, 0, none⟩) ∧ ρ 16 = .int .i64 g ∧
            St w w' [(b15, 29, encR (ofQ (maxQ (P - totS kp (J.take t)) 0))), (b14, 29, (tab cs.length fun i => ofQ (if i ∈ J.take t then shQ cs kp P i else 0)).flatMap encR), (b10, 29, (tab cs.length fun i => ofQ (kp i)).flatMap encR), (b7, 3, (zI J).flatMap enI), (b6, 30, [vc]), (b5, 29, encR zRR)]) (fun g => J.length - g) 1
          ⟨Nat.le_refl _, by omega, fun i hi => ?_, by assumption, by assumption, by assumption, by assumption, by assumption, by assumption, rfl, hS⟩ ?_
        · rw [List.drop_eq_getElem_cons hlt, List.take_succ_cons, List.take_zero] at hi
          rw [List.mem_singleton.1 hi, hp, hi0, List.getD_eq_getElem?_getD, List.getElem?_eq_getElem hlt]; rfl
        clear hS h5 h6 h7 h10 h14 h15
        rintro g ρ w8 ⟨hg1, hg2, hgp, h5, h6, h7, h10, h14, h15, h16, hS⟩
        repeat (with_reducible first | refine c_seq ?_ | refine c_block ?_ | refine c_skip ?_ | refine x_then ?_ | refine x_block ?_)
        by_cases hgl : t + g < J.length
        · obtain ⟨i1, hi1⟩ : ∃ i, i = J.getD (t + g) 0 := ⟨_, rfl⟩
          have hi1n : i1 < cs.length := (hJm i1).1 (by rw [hi1]; exact getD_mem J (t + g) 0 hgl)
          have hz1 : (zI (J.drop t)).getD g 0 = (i1 : Int) := by rw [zI_get _ (by rw [List.length_drop]; omega), getD_drop, ← hi1]
          have ep0 : (cs.getD i0 zCh).prio = p := by rw [hp]; rfl
          have ep1 : (cs.getD i1 zCh).prio = pr cs i1 := rfl
          repeat (with_reducible first | refine c_seq ?_ | refine c_block ?_ | refine c_skip ?_ | refine x_then ?_ | refine x_block ?_)
          refine c_draw [(0, .pure), (1, .pure), (2, .pure), (3, .pure), (4, .pure), (5, .read), (6, .pure), (7, .pure), (8, .pure), (9, .read), (10, .pure), (11, .pure), (12, .read), (13, .read), (14, .pure), (15, .pure), (16, .read), (17, .pure), (18, .pure), (19, .read), (20, .pure), (21, .pure)] (by kernel_rfl) (by kernel_rfl) hS ?_
          intro wz25 hS hBz25
          refine w_pure rfl rfl (s_move  h16 ?_)
          refine w_pure rfl rfl (s_move  h7 ?_)
          refine w_pure rfl rfl (s_lenr  rfl (hRd _ (sl_ord hS (k := 3) rfl hJl (by omega))) ⟨_, Tryz.underlying63⟩ ?_)
          refine w_pure rfl rfl (s_lss  rfl rfl ?_)
          refine w_pure rfl rfl (s_move  rfl ?_)
          refine w_read rfl (gd_yes 99 (by kernel_rfl) rfl (decide_eq_true (by omega))) (s_ldo (k := 4)  h6 vi_30 hS rfl rfl rfl (.inr rfl) ?_)
          refine w_pure rfl (gd_yes 99 (by kernel_rfl) rfl (decide_eq_true (by omega))) (s_move  h7 ?_)
          refine w_pure rfl (gd_yes 99 (by kernel_rfl) rfl (decide_eq_true (by omega))) (s_move  h16 ?_)
          refine w_pure rfl (gd_yes 99 (by kernel_rfl) rfl (decide_eq_true (by omega))) (s_ixr (i := g)  rfl rfl (hRd _ (sl_ord hS (k := 3) rfl hJl (by omega))) (by omega) (by first | omega | (simp; done) | (simp; omega)) si_63 ?_)
          refine w_read rfl (gd_yes 99 (by kernel_rfl) rfl (decide_eq_true (by omega))) (s_lde (i := g) 0  rfl vi_3 (hRd _ (sl_ord hS (k := 3) rfl hJl (by omega))) (by first | omega | (simp; done) | (simp; omega)) rfl rfl (.inr rfl) ?_)
          refine w_pure rfl (gd_yes 99 (by kernel_rfl) rfl (decide_eq_true (by omega))) (s_ixr (i := i1)  rfl rfl (hch.below hS.below) hz1 (by first | omega | (simp; done) | (simp; omega)) si_30 ?_)
          refine w_pure rfl (gd_yes 99 (by kernel_rfl) rfl (decide_eq_true (by omega))) (s_fldr  rfl (spot_el (hch.below hS.below) (fun _ => rfl) (by decide) (by first | omega | (simp; done) | (simp; omega))) fo_38_1 ?_)
          refine w_read rfl (gd_yes 99 (by kernel_rfl) rfl (decide_eq_true (by omega))) (s_ldfe (i := i1) (off := 1) zCh  rfl vi_3 (hch.below hS.below) (fun _ => rfl) (by decide) (by first | omega | (simp; done) | (simp; omega)) rfl rfl (.inr rfl) ?_)
          refine w_read rfl (gd_yes 99 (by kernel_rfl) rfl (decide_eq_true (by omega))) (s_ldo (k := 4)  h6 vi_30 hS rfl rfl rfl (.inr rfl) ?_)
          refine w_pure rfl (gd_yes 99 (by kernel_rfl) rfl (decide_eq_true (by omega))) (s_move  h7 ?_)
          refine w_pure rfl (gd_yes 99 (by kernel_rfl) rfl (decide_eq_true (by omega))) (s_ixr (i := 0)  rfl rfl (hRd _ (sl_ord hS (k := 3) rfl hJl (by omega))) (by omega) (by first | omega | (simp; done) | (simp; omega)) si_63 ?_)
          refine w_read rfl (gd_yes 99 (by kernel_rfl) rfl (decide_eq_true (by omega))) (s_lde (i := 0) 0  rfl vi_3 (hRd _ (sl_ord hS (k := 3) rfl hJl (by omega))) (by first | omega | (simp; done) | (simp; omega)) rfl rfl (.inr rfl) ?_)
          refine w_pure rfl (gd_yes 99 (by kernel_rfl) rfl (decide_eq_true (by omega))) (s_ixr (i := i0)  rfl rfl (hch.below hS.below) hz0 (by first | omega | (simp; done) | (simp; omega)) si_30 ?_)
          refine w_pure rfl (gd_yes 99 (by kernel_rfl) rfl (decide_eq_true (by omega))) (s_fldr  rfl (spot_el (hch.below hS.below) (fun _ => rfl) (by decide) (by first | omega | (simp; done) | (simp; omega))) fo_38_1 ?_)
          refine w_read rfl (gd_yes 99 (by kernel_rfl) rfl (decide_eq_true (by omega))) (s_ldfe (i := i0) (off := 1) zCh  rfl vi_3 (hch.below hS.below) (fun _ => rfl) (by decide) (by first | omega | (simp; done) | (simp; omega)) rfl rfl (.inr rfl) ?_)
          refine w_pure rfl (gd_yes 99 (by kernel_rfl) rfl (decide_eq_true (by omega))) (s_eql  rfl rfl ?_)
          refine w_pure rfl rfl (s_pick (vb rfl (decide_eq_true (by omega))) rfl ?_)
          refine w_end ?_
          repeat (with_reducible first | refine c_seq ?_ | refine c_block ?_ | refine c_skip ?_ | refine x_then ?_ | refine x_block ?_)
          rw [ep0, ep1]
          by_cases hpe : pr cs i1 = p
          · refine c_yes rfl (decide_eq_true hpe) ?_
            repeat (with_reducible first | refine c_seq ?_ | refine c_block ?_ | refine c_skip ?_ | refine x_then ?_ | refine x_block ?_)
            refine c_reg ?_
            refine l_pure rfl (s_move  h16 ?_)
            refine l_pure rfl (s_add  rfl rfl (IntWalk.i64_in _ (by omega)) ?_)
            refine l_pure rfl (s_asg  rfl ?_)
            refine l_nil ?_
            repeat (with_reducible first | refine c_seq ?_ | refine c_block ?_ | refine c_skip ?_ | refine x_then ?_ | refine x_block ?_)
            refine ⟨g + 1, _, rfl, ⟨by omega, by omega, fun i hi => ?_, by assumption, by assumption, by assumption, by assumption, by assumption, by assumption, vi rfl (by omega), hS⟩, by omega⟩
            rw [take_succ' (J.drop t) g 0 (by rw [List.length_drop]; omega), getD_drop, ← hi1] at hi
            rcases List.mem_append.1 hi with h | h
            · exact hgp i h
            · rw [List.mem_singleton.1 h]; exact hpe
          · refine c_no rfl (decide_eq_false hpe) ?_
            repeat (with_reducible first | refine c_seq ?_ | refine c_block ?_ | refine c_skip ?_ | refine x_then ?_ | refine x_block ?_)
            refine c_exit ?_
            repeat (with_reducible first | refine x_then_exit ?_ | refine x_block_exit ?_ | refine x_block_pass rfl ?_)
            repeat (with_reducible first | refine c_seq ?_ | refine c_block ?_ | refine c_skip ?_ | refine x_then ?_ | refine x_block ?_)
            refine ⟨_, rfl, by assumption, by assumption, by assumption, by assumption, by assumption, by assumption, ⟨g, by assumption, hg1, hg2, hgp, fun i hi => ?_⟩, hS⟩
            obtain ⟨b, hb1, hb2, rfl⟩ := mem_drop_get hi
            have m1 := ord_mono hJs (a := t) (b := t + g) (by omega) hgl
            have m2 := ord_mono hJs hb1 hb2
            rw [← hi0, ← hi1, ← hp] at m1
            rw [← hi1] at m2
            omega
        · repeat (with_reducible first | refine c_seq ?_ | refine c_block ?_ | refine c_skip ?_ | refine x_then ?_ | refine x_block ?_)
          refine c_draw [(0, .pure), (1, .pure), (2, .pure), (3, .pure), (4, .pure), (5, .read), (6, .pure), (7, .pure), (8, .pure), (9, .read), (10, .pure), (11, .pure), (12, .read), (13, .read), (14, .pure), (15, .pure), (16, .read), (17, .pure), (18, .pure), (19, .read), (20, .pure), (21, .pure)] (by kernel_rfl) (by kernel_rfl) hS ?_
          intro wz26 hS hBz26
          refine w_pure rfl rfl (s_move  h16 ?_)
          refine w_pure rfl rfl (s_move  h7 ?_)
          refine w_pure rfl rfl (s_lenr  rfl (hRd _ (sl_ord hS (k := 3) rfl hJl (by omega))) ⟨_, Tryz.underlying63⟩ ?_)
          refine w_pure rfl rfl (s_lss  rfl rfl ?_)
          refine w_pure rfl rfl (s_move  rfl ?_)
          refine w_no rfl (gno_yes 99 (by kernel_rfl) rfl (decide_eq_false (by omega))) ?_
          refine w_no rfl (gno_yes 99 (by kernel_rfl) rfl (decide_eq_false (by omega))) ?_
          refine w_no rfl (gno_yes 99 (by kernel_rfl) rfl (decide_eq_false (by omega))) ?_
          refine w_no rfl (gno_yes 99 (by kernel_rfl) rfl (decide_eq_false (by omega))) ?_
          refine w_no rfl (gno_yes 99 (by kernel_rfl) rfl (decide_eq_false (by omega))) ?_
          refine w_no rfl (gno_yes 99 (by kernel_rfl) rfl (decide_eq_false (by omega))) ?_
          refine w_no rfl (gno_yes 99 (by kernel_rfl) rfl (decide_eq_false (by omega))) ?_
          refine w_no rfl (gno_yes 99 (by kernel_rfl) rfl (decide_eq_false (by omega))) ?_
          refine w_no rfl (gno_yes 99 (by kernel_rfl) rfl (decide_eq_false (by omega))) ?_
          refine w_no rfl (gno_yes 99 (by kernel_rfl) rfl (decide_eq_false (by omega))) ?_
          refine w_no rfl (gno_yes 99 (by kernel_rfl) rfl (decide_eq_false (by omega))) ?_
          refine w_no rfl (gno_yes 99 (by kernel_rfl) rfl (decide_eq_false (by omega))) ?_
          refine w_no rfl (gno_yes 99 (by kernel_rfl) rfl (decide_eq_false (by omega))) ?_
          refine w_no rfl (gno_yes 99 (by kernel_rfl) rfl (decide_eq_false (by omega))) ?_
          refine w_no rfl (gno_yes 99 (by kernel_rfl) rfl (decide_eq_false (by omega))) ?_
          refine w_no rfl (gno_yes 99 (by kernel_rfl) rfl (decide_eq_false (by omega))) ?_
          refine w_pure rfl rfl (s_pick (vb rfl (decide_eq_false (by omega))) rfl ?_)
          refine w_end ?_
          repeat (with_reducible first | refine c_seq ?_ | refine c_block ?_ | refine c_skip ?_ | refine x_then ?_ | refine x_block ?_)
          refine c_no rfl (rfl) ?_
          repeat (with_reducible first | refine c_seq ?_ | refine c_block ?_ | refine c_skip ?_ | refine x_then ?_ | refine x_block ?_)
          refine c_exit ?_
          repeat (with_reducible first | refine x_then_exit ?_ | refine x_block_exit ?_ | refine x_block_pass rfl ?_)
          repeat (with_reducible first | refine c_seq ?_ | refine c_block ?_ | refine c_skip ?_ | refine x_then ?_ | refine x_block ?_)
          refine ⟨_, rfl, by assumption, by assumption, by assumption, by assumption, by assumption, by assumption, ⟨g, by assumption, hg1, hg2, hgp, fun i hi => ?_⟩, hS⟩
          rw [List.drop_eq_nil_of_le (by omega)] at hi
          cases hi
      clear hS h5 h6 h7 h10 h14 h15
      rintro ρ w8 ⟨h5, h6, h7, h10, h14, h15, ⟨g, h16, hg1, hg2, hgp, hgB⟩, hS⟩
      obtain ⟨A, hA⟩ : ∃ A, A = J.take t := ⟨_, rfl⟩
      obtain ⟨G, hGe⟩ : ∃ G, G = (J.drop t).take g := ⟨_, rfl⟩
      have hAG : J.take (t + g) = A ++ G := by rw [hA, hGe, List.take_add]
      have hsplit : ordC cs = A ++ G ++ J.drop (t + g) := by rw [← hAG, List.take_append_drop, hJ]
      have hi0d : i0 ∈ J.drop t := by rw [hi0, List.drop_eq_getElem_cons hlt, List.getD_eq_getElem?_getD, List.getElem?_eq_getElem hlt]; exact List.mem_cons_self
      obtain ⟨rs1, rs2⟩ := run_split hsplit (fun i hi => by rw [hp]; exact hbd i (by rw [← hA]; exact hi) i0 hi0d) (fun i hi => hgp i (by rw [← hGe]; exact hi)) hgB kp
      obtain ⟨m, hmm⟩ : ∃ m, m = maxQ (P - totS kp A) 0 := ⟨_, rfl⟩
      have hm0 : 0 ≤ m := by rw [hmm]; unfold maxQ; split <;> grind
      have hGJ : ∀ i ∈ G, i < cs.length := fun i hi => (hJm i).1 (List.mem_of_mem_drop (List.mem_of_mem_take (by rw [← hGe]; exact hi)))
      have hA8 : A.length ≤ 8 := by rw [hA, List.length_take]; omega
      have hG8 : G.length ≤ 8 := by rw [hGe, List.length_take, List.length_drop]; omega
      have hmL : L m ≤ 75 * K + 85 := by rw [hmm]; exact hml A hA8
      have hsG : ∀ i ∈ G, shQ cs kp P i = kp i * quoQ m (totS kp G) := fun i hi => by
        unfold shQ monQ
        rw [hgp i (by rw [← hGe]; exact hi), rs1, rs2, ← hmm]
      have hT0 : 0 ≤ totS kp G := totS_nonneg fun i _ => (hkb i).1
      have hmoney : m - totS kp G * quoQ m (totS kp G) = maxQ (P - totS kp (A ++ G)) 0 := by
        rw [run_money hm0, hmm, max_step _ _ _ hT0, totS_append]
      have htab : (tab cs.length fun i => ofQ (if i ∈ G then kp i * quoQ m (totS kp G) else (if i ∈ A then shQ cs kp P i else 0))) = tab cs.length fun i => ofQ (if i ∈ A ++ G then shQ cs kp P i else 0) := tab_congr fun i _ => by
        by_cases e : i ∈ G
        · rw [if_pos e, if_pos (List.mem_append.2 (.inr e)), hsG i e]
        · rw [if_neg e]
          by_cases e2 : i ∈ A
          · rw [if_pos e2, if_pos (List.mem_append.2 (.inl e2))]
          · rw [if_neg e2, if_neg (fun h => (List.mem_append.1 h).elim e2 e)]
      rw [← hA, ← hmm] at hS
      have hGr : ∀ w', St w w' [(b15, 29, encR (ofQ m)), (b10, 29, (tab cs.length fun i => ofQ (kp i)).flatMap encR), (b7, 3, (zI J).flatMap enI), (b6, 30, [vc]), (b5, 29, encR zRR)] → Sl enI 1 w' (slsub vq 1 0 g) (zI G) := fun w' h => by
        rw [hGe]; exact (rd_sub hRd hg2).1 w' (sl_ord h (k := 2) rfl hJl (by omega))
      have hCr : ∀ w', St w w' [(b15, 29, encR (ofQ m)), (b10, 29, (tab cs.length fun i => ofQ (kp i)).flatMap encR), (b7, 3, (zI J).flatMap enI), (b6, 30, [vc]), (b5, 29, encR zRR)] → Sl encR 3 w' (.slice (some ⟨b10, 0, none⟩) cs.length cs.length) (tab cs.length fun i => ofQ (kp i)) := fun w' h => sl_tab (by omega) (h.drop (List.sublist_cons_self _ _))
      have hpay := fun w5 h => pay_ok b14 cs.length (75 * K + 85) (.slice (some ⟨b10, 0, none⟩) cs.length cs.length) (slsub vq 1 0 g) (fun i => if i ∈ A then shQ cs kp P i else 0) kp m G w w5 _ h hGr hCr hGJ hG8 (fun i _ => ⟨(hkb i).1, by have := (hkb i).2; omega⟩) hm0 hmL (by omega)
      rw [hmoney, htab] at hpay
      repeat (with_reducible first | refine c_seq ?_ | refine c_block ?_ | refine c_skip ?_ | refine x_then ?_ | refine x_block ?_)
      refine c_draw [(0, .pure), (1, .pure), (2, .pure), (3, .pure), (4, .pure), (5, .read), (6, .free), (7, .free)] (by kernel_rfl) (by kernel_rfl) hS ?_
      intro wz27 hS hBz27
      refine w_pure rfl rfl (s_move  h14 ?_)
      refine w_pure rfl rfl (s_move  h10 ?_)
      refine w_pure rfl rfl (s_move  h7 ?_)
      refine w_pure rfl rfl (s_move  h16 ?_)
      refine w_pure rfl rfl (s_subrh (hi := g)  rfl rfl (hRd _ (sl_ord hS (k := 3) rfl hJl (by omega))) rfl (by omega) si_63 ?_)
      refine w_read rfl rfl (s_ldo (k := 0)  h15 vi_29 hS rfl rfl rfl (.inl rfl) ?_)
      refine w_free rfl rfl (s_call Tryz.call56 rfl (hpay _ (hS.perm (List.Perm.swap _ _ _))) ?_)
      rintro r' w9 ⟨rfl, hS9⟩
      clear hS
      have hS := hS9.perm (List.Perm.swap _ _ _)
      refine w_free rfl rfl (s_sta (k := 0)  h15 rfl vi_29 hS rfl rfl rfl (Nat.le_of_ble_eq_true rfl) rfl ?_)
      intro wz28 hS
      refine w_end ?_
      repeat (with_reducible first | refine c_seq ?_ | refine c_block ?_ | refine c_skip ?_ | refine x_then ?_ | refine x_block ?_)
      replace hS : St w _ [(b15, 29, encR (ofQ (maxQ (P - totS kp (A ++ G)) 0))), (b14, 29, (tab cs.length fun i => ofQ (if i ∈ A ++ G then shQ cs kp P i else 0)).flatMap encR), (b10, 29, (tab cs.length fun i => ofQ (kp i)).flatMap encR), (b7, 3, (zI J).flatMap enI), (b6, 30, [vc]), (b5, 29, encR zRR)] := hS
      rw [← hAG] at hS
      repeat (with_reducible first | refine c_seq ?_ | refine c_block ?_ | refine c_skip ?_ | refine x_then ?_ | refine x_block ?_)
      refine c_reg ?_
      refine l_pure rfl (s_move  h7 ?_)
      refine l_pure rfl (s_move  h16 ?_)
      refine l_pure rfl (s_subrl (lo := g)  rfl rfl (hRd _ (sl_ord hS (k := 3) rfl hJl (by omega))) rfl (by omega) si_63 ?_)
      refine l_pure rfl (s_asg  rfl ?_)
      refine l_nil ?_
      repeat (with_reducible first | refine c_seq ?_ | refine c_block ?_ | refine c_skip ?_ | refine x_then ?_ | refine x_block ?_)
      refine ⟨t + g, _, rfl, ⟨hg2, by assumption, by assumption, by assumption, by assumption, by assumption, _, rfl, (rd_sub hRd hg2).2, fun i hi k hk => ?_, hS⟩, by omega⟩
      rw [hAG] at hi
      have hkp2 := hgB k hk
      rcases List.mem_append.1 hi with h | h
      · have := hbd i (by rw [← hA]; exact h) i0 hi0d
        omega
      · have := hgp i (by rw [← hGe]; exact h)
        omega
    · refine c_no rfl (decide_eq_false (by omega)) ?_
      repeat (with_reducible first | refine c_seq ?_ | refine c_block ?_ | refine c_skip ?_ | refine x_then ?_ | refine x_block ?_)
      refine c_exit ?_
      repeat (with_reducible first | refine x_then_exit ?_ | refine x_block_exit ?_ | refine x_block_pass rfl ?_)
      repeat (with_reducible first | refine c_seq ?_ | refine c_block ?_ | refine c_skip ?_ | refine x_then ?_ | refine x_block ?_)
      have e : J.take t = J := List.take_of_length_le (by omega)
      rw [e, tab_congr (g := fun i => ofQ (shQ cs kp P i)) (fun i hi => by rw [if_pos ((hJm i).2 hi)])] at hS
      refine ⟨_, rfl, h5, h14, h15, ?_⟩
      have e2 : lefQ cs kp P = maxQ (P - totS kp J) 0 := by rw [hJ]; rfl
      rw [e2]
      exact hS.drop (((List.nil_sublist [(b10, 29, (tab cs.length fun i => ofQ (kp i)).flatMap encR), (b7, 3, (zI J).flatMap enI), (b6, 30, [vc])]).append_right [(b5, 29, encR zRR)]).cons_cons _ |>.cons_cons _)
  clear hS
  rintro ρ w7 ⟨h5, h14, h15, hS⟩
  repeat (with_reducible first | refine c_seq ?_ | refine c_block ?_ | refine c_skip ?_ | refine x_then ?_ | refine x_block ?_)
  refine c_draw [(0, .pure), (1, .read), (2, .pure), (3, .free)] (by kernel_rfl) (by kernel_rfl) hS ?_
  intro wz29 hS hBz29
  refine w_pure rfl rfl (s_move  h14 ?_)
  refine w_read rfl rfl (s_ldo (k := 0)  h15 vi_29 hS rfl rfl rfl (.inl rfl) ?_)
  refine w_pure rfl rfl (s_asg  rfl ?_)
  refine w_free rfl rfl (s_sta (k := 2)  h5 rfl vi_29 hS rfl rfl rfl (Nat.le_of_ble_eq_true rfl) rfl ?_)
  intro wz30 hS
  refine w_end ?_
  repeat (with_reducible first | refine c_seq ?_ | refine c_block ?_ | refine c_skip ?_ | refine x_then ?_ | refine x_block ?_)
  refine c_ret ?_
  repeat (with_reducible first | refine x_then_ret ?_ | refine x_block_ret ?_)
  refine r_tmp_cell (k := 2) rfl h5 rfl vi_29 hS rfl rfl ?_
  exact ⟨b14, rfl, hS.drop ((List.sublist_append_left _ [(b5, 29, _)]).trans (List.sublist_cons_self _ _))⟩
end Go.Proofs.YtknccjbkacaelaaGreatDoor
namespace Go.Proofs.YtknccjbkacaelaaGreatDoor
open Go Go.RowKit Go.Sx
theorem negs_false {owed : List RR} (h : negs owed = false) {c : Nat} (hc : c < owed.length) : 0 ≤ owF owed c := by
  unfold negs at h
  rw [List.any_eq_false] at h
  have := h _ (getD_mem owed c zRR hc)
  exact Rat.not_lt.1 fun g => this (decide_eq_true g)
theorem chErr_lim {m : Nat} {c : Ch} (h : chErr m c = 0) (hl : c.lim = true) : 0 ≤ toQ c.limit := by
  have hc := chErr_zero h
  unfold chErr at h
  rw [if_neg (by omega)] at h
  split at h
  · cases h
  · next g => exact Rat.not_lt.1 fun q => g ⟨hl, q⟩
theorem chok_of {X : List It} {owed : List RR} {x : It} {K : Nat} (h : checkE X owed = 0) (hx : x ∈ X) (hXB : ItB K X) (hoB : RB K owed) : ChOk x.charges (owF owed) owed.length K := by
  obtain ⟨_, _, h3, h4, h5⟩ := checkE_zero h
  obtain ⟨a1, _, _, a4⟩ := itErr_zero (h4 x hx)
  exact ⟨a1, fun i hi => h5 x hx _ (getD_mem x.charges i zCh hi), fun i hi hl => chErr_lim (a4 _ (getD_mem x.charges i zCh hi)) hl, fun i hi => (hXB x hx).2.2 _ (getD_mem x.charges i zCh hi),
    fun c hc => negs_false h3 hc, fun c hc => L_owF hoB hc⟩
def shsL (x : It) (owed : List RR) : List RR := if checkE [x] owed = 0 then tab x.charges.length fun i => ofQ (shQ x.charges (kapQ x.charges (owF owed)) (procQ x) i) else []
def lefR (x : It) (owed : List RR) : RR := if checkE [x] owed = 0 then ofQ (lefQ x.charges (kapQ x.charges (owF owed)) (procQ x)) else zRR
set_option maxHeartbeats 1000000 in
theorem Share_full (x : It) (vc vo : Value) (owed : List RR) (K : Nat) (w : World) (hch : Sl encCh 6 w vc x.charges) (ho : Sl encR 3 w vo owed) (hXB : ItB K [x]) (hoB : RB K owed) (hK : 20000 * K + 20000 ≤ MX) :
    Ret Tryz.prog 9 #[aggIt x vc, vo] w fun r w' => ((∃ v, r = .tuple #[v, aggR (lefR x owed), .int .i64 (checkE [x] owed)] ∧ Sl encR 3 w' v (shsL x owed)) ∧ Below w.heap.size w w') ∧
      (checkE [x] owed = 0 → ∃ b, r = .tuple #[.slice (some ⟨b, 0, none⟩) x.charges.length x.charges.length, aggR (ofQ (lefQ x.charges (kapQ x.charges (owF owed)) (procQ x))), .int .i64 0] ∧
        St w w' [(b, 29, (tab x.charges.length fun i => ofQ (shQ x.charges (kapQ x.charges (owF owed)) (procQ x) i)).flatMap encR)]) := by
  have hM : MX = 1099511627776 := rfl
  have hS := St.init w
  refine enter Tryz.func9 rfl Tryz.ntmps9 rfl ?_
  repeat (with_reducible first | refine c_seq ?_ | refine c_block ?_ | refine c_skip ?_ | refine x_then ?_ | refine x_block ?_)
  refine c_reg ?_
  refine l_heavy rfl (s_box  rfl rfl hS ?_)
  intro b2 wz1 hS hBz1
  refine l_pure rfl (s_asg  rfl ?_)
  refine l_heavy rfl (s_alloc  vi_29 hS ?_)
  intro b5 wz2 hS hBz2
  refine l_pure rfl (s_asg  rfl ?_)
  refine l_nil ?_
  repeat (with_reducible first | refine c_seq ?_ | refine c_block ?_ | refine c_skip ?_ | refine x_then ?_ | refine x_block ?_)
  replace hS : St w _ [(b5, 29, encR zRR), (b2, 32, encIt (x, vc))] := hS
  repeat (with_reducible first | refine c_seq ?_ | refine c_block ?_ | refine c_skip ?_ | refine x_then ?_ | refine x_block ?_)
  refine c_reg ?_
  refine l_read rfl (s_ldo (k := 1)  rfl vi_32 hS rfl rfl rfl (.inl rfl) ?_)
  refine l_heavy rfl (s_bsl (vs := [aggIt x vc])  rfl si_26 rfl (by decide) (by decide) (by decide) (by simp [Value.cells, aggIt]) rfl hS ?_)
  intro b11 wz3 hS hBz3
  refine l_pure rfl (s_move  rfl ?_)
  replace hS : St w _ [(b11, 32, ([x].zip [vc]).flatMap encIt), (b5, 29, encR zRR), (b2, 32, encIt (x, vc))] := hS
  have hI : Its _ (.slice (some ⟨b11, 0, none⟩) 1 1) [x] [vc] := ⟨rfl, hS.sle (k := 0) (L := [x].zip [vc]) (n := 1) (cap := 1) rfl encIt_len (Nat.le_refl _) (Nat.le_refl _) (by decide), fun i hi => (by
    obtain rfl : i = 0 := by simp at hi; exact hi
    exact hch.below hS.below)⟩
  refine l_heavy rfl (s_call Tryz.call26 rfl (Check_ok _ vo [x] [vc] owed _ hI (ho.below hS.below) (ItB_mono hXB (by omega)) (RB_mono hoB (by omega))) ?_)
  rintro r' w2 ⟨rfl, hB2⟩
  replace hS := hS.grow hB2
  refine l_pure rfl (s_asg  rfl ?_)
  refine l_nil ?_
  repeat (with_reducible first | refine c_seq ?_ | refine c_block ?_ | refine c_skip ?_ | refine x_then ?_ | refine x_block ?_)
  refine c_forget (fun ρ' => ρ' 1 = vo ∧ ρ' 2 = .pointer (some ⟨b2, 0, none⟩) ∧ ρ' 5 = .pointer (some ⟨b5, 0, none⟩) ∧ ρ' 7 = .int .i64 (checkE [x] owed) ∧ True) ⟨rfl, rfl, rfl, rfl, trivial⟩ ?_
  rintro ρk4 ⟨hk4_1, hk4_2, hk4_5, hk4_7, -⟩
  repeat (with_reducible first | refine c_seq ?_ | refine c_block ?_ | refine c_skip ?_ | refine x_then ?_ | refine x_block ?_)
  refine c_reg ?_
  refine l_pure rfl (s_move  hk4_7 ?_)
  refine l_pure rfl (s_neq  rfl rfl ?_)
  refine l_nil ?_
  repeat (with_reducible first | refine c_seq ?_ | refine c_block ?_ | refine c_skip ?_ | refine x_then ?_ | refine x_block ?_)
  by_cases he : checkE [x] owed = 0
  case neg =>
    refine c_yes rfl (decide_eq_true he) ?_
    repeat (with_reducible first | refine c_seq ?_ | refine c_block ?_ | refine c_skip ?_ | refine x_then ?_ | refine x_block ?_)
    refine c_reg ?_
    refine l_pure rfl (s_build  rfl bz_29 ?_)
    refine l_pure rfl (s_move  hk4_7 ?_)
    refine l_pure rfl (s_asg  rfl ?_)
    refine l_heavy rfl (s_sta (k := 1)  hk4_5 rfl vi_29 hS rfl rfl rfl (Nat.le_of_ble_eq_true rfl) rfl ?_)
    intro wz5 hS
    refine l_pure rfl (s_asg  rfl ?_)
    refine l_nil ?_
    repeat (with_reducible first | refine c_seq ?_ | refine c_block ?_ | refine c_skip ?_ | refine x_then ?_ | refine x_block ?_)
    refine c_ret ?_
    repeat (with_reducible first | refine x_then_ret ?_ | refine x_block_ret ?_)
    refine r_tmp_cell_tmp (k := 1) rfl hk4_5 rfl rfl vi_29 hS rfl rfl ?_
    exact ⟨⟨⟨_, by unfold lefR; rw [if_neg he]; rfl, by unfold shsL; rw [if_neg he]; exact Sl.nil _ _ _⟩, hS.below⟩, fun h => absurd h he⟩
  refine c_no rfl (decide_eq_false (not_not_intro he)) ?_
  repeat (with_reducible first | refine c_seq ?_ | refine c_block ?_ | refine c_skip ?_ | refine x_then ?_ | refine x_block ?_)
  obtain ⟨hp1, hp2, _⟩ := hXB x List.mem_cons_self
  have hz := checkE_zero he
  repeat (with_reducible first | refine c_seq ?_ | refine c_block ?_ | refine c_skip ?_ | refine x_then ?_ | refine x_block ?_)
  refine c_reg ?_
  refine l_read rfl (s_ldo (k := 2)  hk4_2 vi_32 hS rfl rfl rfl (.inl rfl) ?_)
  refine l_pure rfl (s_move  hk4_1 ?_)
  refine l_heavy rfl (s_call Tryz.call27 rfl (share_ok x vc vo owed K _ (hch.below hS.below) (ho.below hS.below) (chok_of he List.mem_cons_self hXB hoB) hp1 hp2 (by omega) hoB hK) ?_)
  rintro r' w3 ⟨b14, rfl, hS3⟩
  replace hS := hS.join hS3
  refine l_pure rfl (s_move  rfl ?_)
  refine l_pure rfl (s_ext  rfl rfl ?_)
  refine l_pure rfl (s_ext  rfl rfl ?_)
  refine l_heavy rfl (s_alloc  vi_29 hS ?_)
  intro b9 wz6 hS hBz6
  refine l_pure rfl (s_asg  rfl ?_)
  refine l_heavy rfl (s_sta (k := 0)  rfl rfl vi_29 hS rfl rfl rfl (Nat.le_of_ble_eq_true rfl) rfl ?_)
  intro wz7 hS
  refine l_nil ?_
  repeat (with_reducible first | refine c_seq ?_ | refine c_block ?_ | refine c_skip ?_ | refine x_then ?_ | refine x_block ?_)
  refine c_forget (fun ρ' => ρ' 5 = .pointer (some ⟨b5, 0, none⟩) ∧ ρ' 8 = .slice (some ⟨b14, 0, none⟩) x.charges.length x.charges.length ∧ ρ' 9 = .pointer (some ⟨b9, 0, none⟩) ∧ True) ⟨hk4_5, rfl, rfl, trivial⟩ ?_
  rintro ρk8 ⟨hk8_5, hk8_8, hk8_9, -⟩
  repeat (with_reducible first | refine c_seq ?_ | refine c_block ?_ | refine c_skip ?_ | refine x_then ?_ | refine x_block ?_)
  refine c_draw [(0, .pure), (1, .read), (2, .pure), (3, .free), (4, .pure)] (by kernel_rfl) (by kernel_rfl) hS ?_
  intro wz9 hS hBz9
  refine w_pure rfl rfl (s_move  hk8_8 ?_)
  refine w_read rfl rfl (s_ldo (k := 0)  hk8_9 vi_29 hS rfl rfl rfl (.inl rfl) ?_)
  refine w_pure rfl rfl (s_asg  rfl ?_)
  refine w_free rfl rfl (s_sta (k := 3)  hk8_5 rfl vi_29 hS rfl rfl rfl (Nat.le_of_ble_eq_true rfl) rfl ?_)
  intro wz10 hS
  refine w_pure rfl rfl (s_asg  rfl ?_)
  refine w_end ?_
  repeat (with_reducible first | refine c_seq ?_ | refine c_block ?_ | refine c_skip ?_ | refine x_then ?_ | refine x_block ?_)
  refine c_ret ?_
  repeat (with_reducible first | refine x_then_ret ?_ | refine x_block_ret ?_)
  refine r_tmp_cell_tmp (k := 3) rfl hk8_5 rfl rfl vi_29 hS rfl rfl ?_
  have h8 := (itErr_zero (hz.2.2.2.1 x List.mem_cons_self)).1
  rw [he]
  refine ⟨⟨⟨_, by unfold lefR; rw [if_pos he]; rfl, ?_⟩, hS.below⟩, fun _ => ⟨b14, rfl, (hS.drop (List.sublist_cons_self _ _)).drop (List.sublist_append_left [_] _)⟩⟩
  unfold shsL
  rw [if_pos he]
  exact sl_tab (by omega) (hS.drop (List.sublist_cons_self _ _))
theorem Share_ok (x : It) (vc vo : Value) (owed : List RR) (K : Nat) (w : World) (hch : Sl encCh 6 w vc x.charges) (ho : Sl encR 3 w vo owed) (hXB : ItB K [x]) (hoB : RB K owed) (hK : 20000 * K + 20000 ≤ MX) :
    Ret Tryz.prog 9 #[aggIt x vc, vo] w fun r w' => (∃ v, r = .tuple #[v, aggR (lefR x owed), .int .i64 (checkE [x] owed)] ∧ Sl encR 3 w' v (shsL x owed)) ∧ Below w.heap.size w w' :=
  (Share_full x vc vo owed K w hch ho hXB hoB hK).mono fun _ _ h => h.1
theorem Share_own (x : It) (vc vo : Value) (owed : List RR) (K : Nat) (w : World) (hch : Sl encCh 6 w vc x.charges) (ho : Sl encR 3 w vo owed) (hXB : ItB K [x]) (hoB : RB K owed) (hK : 20000 * K + 20000 ≤ MX) (he : checkE [x] owed = 0) :
    Ret Tryz.prog 9 #[aggIt x vc, vo] w fun r w' => ∃ b, r = .tuple #[.slice (some ⟨b, 0, none⟩) x.charges.length x.charges.length, aggR (ofQ (lefQ x.charges (kapQ x.charges (owF owed)) (procQ x))), .int .i64 0] ∧
        St w w' [(b, 29, (tab x.charges.length fun i => ofQ (shQ x.charges (kapQ x.charges (owF owed)) (procQ x) i)).flatMap encR)] :=
  (Share_full x vc vo owed K w hch ho hXB hoB hK).mono fun _ _ h => h.2 he
/-- Two of the blocks, in any order. -/
theorem pick2 {w0 w : World} {H : List Blk} (h : St w0 w H) {i j : Nat} {e1 e2 : Blk} (h1 : H[i]? = some e1) (h2 : H[j]? = some e2) (hij : i ≠ j) : St w0 w [e1, e2] := by
  refine ⟨h.below, fun e he => ?_, ?_⟩
  · rcases List.mem_cons.1 he with rfl | he
    · exact h.own _ (List.mem_of_getElem? h1)
    · rw [List.mem_singleton.1 he]; exact h.own _ (List.mem_of_getElem? h2)
  · show [e1.1, e2.1].Nodup
    have hne : e1.1 ≠ e2.1 := fun g => by
      obtain ⟨a1, q1⟩ := List.getElem?_eq_some_iff.1 h1
      obtain ⟨a2, q2⟩ := List.getElem?_eq_some_iff.1 h2
      have m1 : i < (H.map (·.1)).length := by rw [List.length_map]; exact a1
      have m2 : j < (H.map (·.1)).length := by rw [List.length_map]; exact a2
      rcases Nat.lt_or_gt_of_ne hij with g1 | g1
      · exact List.pairwise_iff_getElem.1 h.nd i j m1 m2 g1 (by rw [List.getElem_map, List.getElem_map, q1, q2]; exact g)
      · exact List.pairwise_iff_getElem.1 h.nd j i m2 m1 g1 (by rw [List.getElem_map, List.getElem_map, q1, q2]; exact g.symm)
    simp [hne]
end Go.Proofs.YtknccjbkacaelaaGreatDoor
namespace Go.Proofs.YtknccjbkacaelaaGreatDoor
open Go Go.RowKit Go.Sx
def n100 : Rat := ((100 : Int) : Rat)
def n10 : Rat := ((10 : Int) : Rat)
def n60 : Rat := ((60 : Int) : Rat)
def n120 : Rat := ((120 : Int) : Rat)
def n50 : Rat := ((50 : Int) : Rat)
def n30 : Rat := ((30 : Int) : Rat)
def n0 : Rat := ((0 : Int) : Rat)
def chA : Ch := ⟨0, 1, false, zRR⟩
def chB : Ch := ⟨1, 1, false, zRR⟩
def chC : Ch := ⟨2, 2, false, zRR⟩
def CW : List Ch := [chA, chB, chC]
def XW : It := ⟨ofQ n100, ofQ n10, CW⟩
def OW : List RR := [ofQ n60, ofQ n120, ofQ n50]
def kW (i : Nat) : Rat := if i = 0 then n60 else if i = 1 then n120 else if i = 2 then n50 else 0
theorem owF_OW : owF OW = kW := by
  funext i
  match i with
  | 0 => exact toQ_ofQ n60
  | 1 => exact toQ_ofQ n120
  | 2 => exact toQ_ofQ n50
  | n + 3 => exact toQ_zRR
theorem proc_XW : procQ XW = ((90 : Int) : Rat) := by
  show maxQ (maxQ (toQ (ofQ n100)) 0 - maxQ (toQ (ofQ n10)) 0) 0 = _
  rw [toQ_ofQ, toQ_ofQ]
  decide +kernel
theorem sh_a : shQ CW (kapQ CW kW) ((90 : Int) : Rat) 0 = n30 := by decide +kernel
theorem sh_b : shQ CW (kapQ CW kW) ((90 : Int) : Rat) 1 = n60 := by decide +kernel
theorem sh_c : shQ CW (kapQ CW kW) ((90 : Int) : Rat) 2 = n0 := by decide +kernel
theorem lef_W : lefQ CW (kapQ CW kW) ((90 : Int) : Rat) = n0 := by decide +kernel
theorem chk_W : checkE [XW] OW = 0 := by
  unfold checkE
  rw [if_neg (by decide), if_neg ?_]
  · rw [firstE, if_pos]
    · rfl
    · unfold itErr
      rw [if_neg (by decide), if_neg]
      · decide
      · show ¬ (toQ (ofQ n100) < 0 ∨ toQ (ofQ n10) < 0)
        rw [toQ_ofQ, toQ_ofQ]
        decide +kernel
  · unfold negs OW
    simp only [List.any_cons, List.any_nil, toQ_ofQ]
    decide +kernel
theorem B_W : ItB 1 [XW] ∧ RB 1 OW := by
  constructor
  · intro x hx
    rw [List.mem_singleton.1 hx]
    refine ⟨by show Lr (ofQ n100) ≤ 1; rw [Lr_ofQ]; exact L_small (n := 100) (by decide), by show Lr (ofQ n10) ≤ 1; rw [Lr_ofQ]; exact L_small (n := 10) (by decide), fun c hc => ?_⟩
    have : c.limit = zRR := by
      rcases List.mem_cons.1 hc with rfl | hc
      · rfl
      rcases List.mem_cons.1 hc with rfl | hc
      · rfl
      rw [List.mem_singleton.1 hc]; rfl
    rw [this, Lr_zRR]; exact Nat.le_refl _
  · intro r hr
    rcases List.mem_cons.1 hr with rfl | hr
    · rw [Lr_ofQ]; exact L_small (n := 60) (by decide)
    rcases List.mem_cons.1 hr with rfl | hr
    · rw [Lr_ofQ]; exact L_small (n := 120) (by decide)
    rw [List.mem_singleton.1 hr, Lr_ofQ]; exact L_small (n := 50) (by decide)
theorem tab_W : (tab XW.charges.length fun i => ofQ (shQ XW.charges (kapQ XW.charges (owF OW)) (procQ XW) i)) = [ofQ n30, ofQ n60, ofQ n0] := by
  rw [owF_OW, proc_XW]
  show [ofQ (shQ CW (kapQ CW kW) ((90 : Int) : Rat) 0), ofQ (shQ CW (kapQ CW kW) ((90 : Int) : Rat) 1), ofQ (shQ CW (kapQ CW kW) ((90 : Int) : Rat) 2)] = _
  rw [sh_a, sh_b, sh_c]
theorem lef_XW : lefQ XW.charges (kapQ XW.charges (owF OW)) (procQ XW) = n0 := by rw [owF_OW, proc_XW]; exact lef_W
theorem ShareW_own (vc vo : Value) (w : World) (hch : Sl encCh 6 w vc CW) (ho : Sl encR 3 w vo OW) :
    Ret Tryz.prog 9 #[aggIt XW vc, vo] w fun r w' => ∃ b, r = .tuple #[.slice (some ⟨b, 0, none⟩) 3 3, aggR (ofQ n0), .int .i64 0] ∧ St w w' [(b, 29, [ofQ n30, ofQ n60, ofQ n0].flatMap encR)] := by
  have h := Share_own XW vc vo OW 1 w hch ho B_W.1 B_W.2 (by decide) chk_W
  rw [tab_W, lef_XW] at h
  exact h
theorem built_It3 (p c : RR) (a : Option Addr) (n k : Nat) : Tryz.prog.built 32 [(0, aggR p), (1, aggR c), (2, .slice a n k)] = some #[.bool p.neg, .string p.num, .string p.den, .bool c.neg, .string c.num, .string c.den, .slice a n k] := by kernel_rfl
theorem n100_ok (w : World) : Ret Tryz.prog 38 #[.int .i64 100] w fun v w' => v = aggR (ofQ n100) ∧ Below w.heap.size w w' := QInt_ok 100 w (by decide) (by decide)
theorem n10_ok (w : World) : Ret Tryz.prog 38 #[.int .i64 10] w fun v w' => v = aggR (ofQ n10) ∧ Below w.heap.size w w' := QInt_ok 10 w (by decide) (by decide)
theorem n60_ok (w : World) : Ret Tryz.prog 38 #[.int .i64 60] w fun v w' => v = aggR (ofQ n60) ∧ Below w.heap.size w w' := QInt_ok 60 w (by decide) (by decide)
theorem n120_ok (w : World) : Ret Tryz.prog 38 #[.int .i64 120] w fun v w' => v = aggR (ofQ n120) ∧ Below w.heap.size w w' := QInt_ok 120 w (by decide) (by decide)
theorem n50_ok (w : World) : Ret Tryz.prog 38 #[.int .i64 50] w fun v w' => v = aggR (ofQ n50) ∧ Below w.heap.size w w' := QInt_ok 50 w (by decide) (by decide)
theorem n30_ok (w : World) : Ret Tryz.prog 38 #[.int .i64 30] w fun v w' => v = aggR (ofQ n30) ∧ Below w.heap.size w w' := QInt_ok 30 w (by decide) (by decide)
theorem n0_ok (w : World) : Ret Tryz.prog 38 #[.int .i64 0] w fun v w' => v = aggR (ofQ n0) ∧ Below w.heap.size w w' := QInt_ok 0 w (by decide) (by decide)
/-- What region 2 leaves. -/
theorem rdO {w0 w : World} {H : List Blk} {k b : Nat} {t : TypeId} (hS : St w0 w H) (hk : H[k]? = some (b, t, OW.flatMap encR)) : Sl encR 3 w (.slice (some ⟨b, 0, none⟩) 3 3) OW :=
  hS.sle (k := k) (L := OW) (n := 3) (cap := 3) hk encR_len (Nat.le_refl _) (Nat.le_refl _) (by decide)
theorem rdC {w0 w : World} {H : List Blk} {k b : Nat} {t : TypeId} (hS : St w0 w H) (hk : H[k]? = some (b, t, CW.flatMap encCh)) : Sl encCh 6 w (.slice (some ⟨b, 0, none⟩) 3 3) CW :=
  hS.sle (k := k) (L := CW) (n := 3) (cap := 3) hk encCh_len (Nat.le_refl _) (Nat.le_refl _) (by decide)
set_option maxHeartbeats 1000000 in
theorem Cawake_ok (w : World) : Ret Tryz.prog 13 #[] w fun v w' => v = .bool true ∧ Below w.heap.size w w' := by
  have hM : MX = 1099511627776 := rfl
  have hS := St.init w
  refine enter Tryz.func13 rfl Tryz.ntmps13 rfl ?_
  repeat (with_reducible first | refine c_seq ?_ | refine c_block ?_ | refine c_skip ?_ | refine x_then ?_ | refine x_block ?_)
  refine c_reg ?_
  refine l_pure rfl (s_asg  rfl ?_)
  refine l_nil ?_
  repeat (with_reducible first | refine c_seq ?_ | refine c_block ?_ | refine c_skip ?_ | refine x_then ?_ | refine x_block ?_)
  refine c_reg ?_
  refine l_heavy rfl (s_call Tryz.call38 rfl (n100_ok _) ?_)
  rintro r wa ⟨rfl, hBa⟩
  replace hS := hS.grow hBa
  refine l_heavy rfl (s_call Tryz.call38 rfl (n10_ok _) ?_)
  rintro r wb ⟨rfl, hBb⟩
  replace hS := hS.grow hBb
  refine l_pure rfl (s_build  rfl (built_Ch _ _) ?_)
  refine l_pure rfl (s_build  rfl (built_Ch _ _) ?_)
  refine l_pure rfl (s_build  rfl (built_Ch _ _) ?_)
  refine l_heavy rfl (s_bsl (vs := [.agg (encCh chA).toArray, .agg (encCh chB).toArray, .agg (encCh chC).toArray])  rfl si_30 rfl (by decide) (by decide) (by decide) (by simp [Value.cells, encCh]) rfl hS ?_)
  intro b10 wz1 hS hBz1
  refine l_pure rfl (s_build  rfl (built_It3 _ _ _ _ _) ?_)
  refine l_heavy rfl (s_alloc  vi_32 hS ?_)
  intro b1 wz2 hS hBz2
  refine l_heavy rfl (s_sta (k := 0)  rfl rfl vi_32 hS rfl rfl rfl (Nat.le_of_ble_eq_true rfl) rfl ?_)
  intro wz3 hS
  refine l_nil ?_
  repeat (with_reducible first | refine c_seq ?_ | refine c_block ?_ | refine c_skip ?_ | refine x_then ?_ | refine x_block ?_)
  replace hS : St w _ [(b1, 32, encIt (XW, .slice (some ⟨b10, 0, none⟩) 3 3)), (b10, 38, CW.flatMap encCh)] := hS
  refine c_cut1 (fun ρ w' => ∃ b3 b14, ρ 2 = .slice (some ⟨b14, 0, none⟩) 3 3 ∧ ρ 3 = .pointer (some ⟨b3, 0, none⟩) ∧ ρ 4 = .int .i64 0 ∧ St w w' [(b3, 29, encR (ofQ n0)), (b14, 29, [ofQ n30, ofQ n60, ofQ n0].flatMap encR)]) ?_ ?_
  · repeat (with_reducible first | refine c_seq ?_ | refine c_block ?_ | refine c_skip ?_ | refine x_then ?_ | refine x_block ?_)
    refine c_float 10 [(0, .read), (1, .grow), (2, .grow), (3, .grow), (4, .grow), (5, .grow), (6, .pure), (7, .pure), (8, .pure), (9, .pure), (11, .pure), (12, .free), (13, .pure)] (by kernel_rfl) (by kernel_rfl) hS ?_
    intro wz4 hS hBz4
    refine wx_read (by kernel_rfl) rfl rfl (s_ldo (k := 0)  rfl vi_32 hS rfl rfl rfl (.inl rfl) ?_)
    refine wx_fork rfl rfl ?_ ?_
    · refine w_grow rfl rfl (s_alloc  vi_29 hS ?_)
      intro b3 wz5 hS hBz5
      refine ⟨hBz5, ?_⟩
      refine w_grow rfl rfl (s_call Tryz.call38 rfl (n60_ok _) ?_)
      rintro r wc ⟨rfl, hBc⟩
      refine ⟨hBc, ?_⟩
      replace hS := hS.grow hBc
      refine w_grow rfl rfl (s_call Tryz.call38 rfl (n120_ok _) ?_)
      rintro r wd ⟨rfl, hBd⟩
      refine ⟨hBd, ?_⟩
      replace hS := hS.grow hBd
      refine w_grow rfl rfl (s_call Tryz.call38 rfl (n50_ok _) ?_)
      rintro r we ⟨rfl, hBe⟩
      refine ⟨hBe, ?_⟩
      replace hS := hS.grow hBe
      refine w_grow rfl rfl (s_bsl (vs := [aggR (ofQ n60), aggR (ofQ n120), aggR (ofQ n50)])  rfl si_24 rfl (by decide) (by decide) (by decide) (by simp [Value.cells, aggR]) rfl hS ?_)
      intro b17 wz6 hS hBz6
      refine ⟨hBz6, ?_⟩
      replace hS : St w _ [(b17, 29, OW.flatMap encR), (b3, 29, encR zRR), (b1, 32, encIt (XW, .slice (some ⟨b10, 0, none⟩) 3 3)), (b10, 38, CW.flatMap encCh)] := hS
      refine w_grow rfl rfl (s_call Tryz.call9 rfl (ShareW_own _ _ _ (rdC hS (k := 3) rfl) (rdO hS (k := 0) rfl)) ?_)
      rintro r wf ⟨b14, rfl, hSf⟩
      refine ⟨hSf.below, ?_⟩
      replace hS := hS.join hSf
      refine w_pure rfl rfl (s_move  rfl ?_)
      refine w_pure rfl rfl (s_ext  rfl rfl ?_)
      refine w_pure rfl rfl (s_ext  rfl rfl ?_)
      refine w_pure rfl rfl (s_ext  rfl rfl ?_)
      refine w_pure rfl rfl (s_asg  rfl ?_)
      refine w_free rfl rfl (s_sta (k := 2)  rfl rfl vi_29 hS rfl rfl rfl (Nat.le_of_ble_eq_true rfl) rfl ?_)
      intro wz7 hS
      refine w_pure rfl rfl (s_asg  rfl ?_)
      refine w_end ?_
      repeat (with_reducible first | refine c_seq ?_ | refine c_block ?_ | refine c_skip ?_ | refine x_then ?_ | refine x_block ?_)
      exact ⟨_, rfl, b3, b14, rfl, rfl, rfl, pick2 hS (i := 2) (j := 0) rfl rfl (by decide)⟩
    refine s_call Tryz.call38 rfl (n60_ok _) ?_
    rintro r wc ⟨rfl, hBc⟩
    refine ⟨hBc, ?_⟩
    replace hS := hS.grow hBc
    refine wx_fork rfl rfl ?_ ?_
    · refine w_grow rfl rfl (s_alloc  vi_29 hS ?_)
      intro b3 wz8 hS hBz8
      refine ⟨hBz8, ?_⟩
      refine w_grow rfl rfl (s_call Tryz.call38 rfl (n120_ok _) ?_)
      rintro r wd ⟨rfl, hBd⟩
      refine ⟨hBd, ?_⟩
      replace hS := hS.grow hBd
      refine w_grow rfl rfl (s_call Tryz.call38 rfl (n50_ok _) ?_)
      rintro r we ⟨rfl, hBe⟩
      refine ⟨hBe, ?_⟩
      replace hS := hS.grow hBe
      refine w_grow rfl rfl (s_bsl (vs := [aggR (ofQ n60), aggR (ofQ n120), aggR (ofQ n50)])  rfl si_24 rfl (by decide) (by decide) (by decide) (by simp [Value.cells, aggR]) rfl hS ?_)
      intro b17 wz9 hS hBz9
      refine ⟨hBz9, ?_⟩
      replace hS : St w _ [(b17, 29, OW.flatMap encR), (b3, 29, encR zRR), (b1, 32, encIt (XW, .slice (some ⟨b10, 0, none⟩) 3 3)), (b10, 38, CW.flatMap encCh)] := hS
      refine w_grow rfl rfl (s_call Tryz.call9 rfl (ShareW_own _ _ _ (rdC hS (k := 3) rfl) (rdO hS (k := 0) rfl)) ?_)
      rintro r wf ⟨b14, rfl, hSf⟩
      refine ⟨hSf.below, ?_⟩
      replace hS := hS.join hSf
      refine w_pure rfl rfl (s_move  rfl ?_)
      refine w_pure rfl rfl (s_ext  rfl rfl ?_)
      refine w_pure rfl rfl (s_ext  rfl rfl ?_)
      refine w_pure rfl rfl (s_ext  rfl rfl ?_)
      refine w_pure rfl rfl (s_asg  rfl ?_)
      refine w_free rfl rfl (s_sta (k := 2)  rfl rfl vi_29 hS rfl rfl rfl (Nat.le_of_ble_eq_true rfl) rfl ?_)
      intro wz10 hS
      refine w_pure rfl rfl (s_asg  rfl ?_)
      refine w_end ?_
      repeat (with_reducible first | refine c_seq ?_ | refine c_block ?_ | refine c_skip ?_ | refine x_then ?_ | refine x_block ?_)
      exact ⟨_, rfl, b3, b14, rfl, rfl, rfl, pick2 hS (i := 2) (j := 0) rfl rfl (by decide)⟩
    refine s_call Tryz.call38 rfl (n120_ok _) ?_
    rintro r wd ⟨rfl, hBd⟩
    refine ⟨hBd, ?_⟩
    replace hS := hS.grow hBd
    refine wx_fork rfl rfl ?_ ?_
    · refine w_grow rfl rfl (s_alloc  vi_29 hS ?_)
      intro b3 wz11 hS hBz11
      refine ⟨hBz11, ?_⟩
      refine w_grow rfl rfl (s_call Tryz.call38 rfl (n50_ok _) ?_)
      rintro r we ⟨rfl, hBe⟩
      refine ⟨hBe, ?_⟩
      replace hS := hS.grow hBe
      refine w_grow rfl rfl (s_bsl (vs := [aggR (ofQ n60), aggR (ofQ n120), aggR (ofQ n50)])  rfl si_24 rfl (by decide) (by decide) (by decide) (by simp [Value.cells, aggR]) rfl hS ?_)
      intro b17 wz12 hS hBz12
      refine ⟨hBz12, ?_⟩
      replace hS : St w _ [(b17, 29, OW.flatMap encR), (b3, 29, encR zRR), (b1, 32, encIt (XW, .slice (some ⟨b10, 0, none⟩) 3 3)), (b10, 38, CW.flatMap encCh)] := hS
      refine w_grow rfl rfl (s_call Tryz.call9 rfl (ShareW_own _ _ _ (rdC hS (k := 3) rfl) (rdO hS (k := 0) rfl)) ?_)
      rintro r wf ⟨b14, rfl, hSf⟩
      refine ⟨hSf.below, ?_⟩
      replace hS := hS.join hSf
      refine w_pure rfl rfl (s_move  rfl ?_)
      refine w_pure rfl rfl (s_ext  rfl rfl ?_)
      refine w_pure rfl rfl (s_ext  rfl rfl ?_)
      refine w_pure rfl rfl (s_ext  rfl rfl ?_)
      refine w_pure rfl rfl (s_asg  rfl ?_)
      refine w_free rfl rfl (s_sta (k := 2)  rfl rfl vi_29 hS rfl rfl rfl (Nat.le_of_ble_eq_true rfl) rfl ?_)
      intro wz13 hS
      refine w_pure rfl rfl (s_asg  rfl ?_)
      refine w_end ?_
      repeat (with_reducible first | refine c_seq ?_ | refine c_block ?_ | refine c_skip ?_ | refine x_then ?_ | refine x_block ?_)
      exact ⟨_, rfl, b3, b14, rfl, rfl, rfl, pick2 hS (i := 2) (j := 0) rfl rfl (by decide)⟩
    refine s_call Tryz.call38 rfl (n50_ok _) ?_
    rintro r we ⟨rfl, hBe⟩
    refine ⟨hBe, ?_⟩
    replace hS := hS.grow hBe
    refine wx_fork rfl rfl ?_ ?_
    · refine w_grow rfl rfl (s_alloc  vi_29 hS ?_)
      intro b3 wz14 hS hBz14
      refine ⟨hBz14, ?_⟩
      refine w_grow rfl rfl (s_bsl (vs := [aggR (ofQ n60), aggR (ofQ n120), aggR (ofQ n50)])  rfl si_24 rfl (by decide) (by decide) (by decide) (by simp [Value.cells, aggR]) rfl hS ?_)
      intro b17 wz15 hS hBz15
      refine ⟨hBz15, ?_⟩
      replace hS : St w _ [(b17, 29, OW.flatMap encR), (b3, 29, encR zRR), (b1, 32, encIt (XW, .slice (some ⟨b10, 0, none⟩) 3 3)), (b10, 38, CW.flatMap encCh)] := hS
      refine w_grow rfl rfl (s_call Tryz.call9 rfl (ShareW_own _ _ _ (rdC hS (k := 3) rfl) (rdO hS (k := 0) rfl)) ?_)
      rintro r wf ⟨b14, rfl, hSf⟩
      refine ⟨hSf.below, ?_⟩
      replace hS := hS.join hSf
      refine w_pure rfl rfl (s_move  rfl ?_)
      refine w_pure rfl rfl (s_ext  rfl rfl ?_)
      refine w_pure rfl rfl (s_ext  rfl rfl ?_)
      refine w_pure rfl rfl (s_ext  rfl rfl ?_)
      refine w_pure rfl rfl (s_asg  rfl ?_)
      refine w_free rfl rfl (s_sta (k := 2)  rfl rfl vi_29 hS rfl rfl rfl (Nat.le_of_ble_eq_true rfl) rfl ?_)
      intro wz16 hS
      refine w_pure rfl rfl (s_asg  rfl ?_)
      refine w_end ?_
      repeat (with_reducible first | refine c_seq ?_ | refine c_block ?_ | refine c_skip ?_ | refine x_then ?_ | refine x_block ?_)
      exact ⟨_, rfl, b3, b14, rfl, rfl, rfl, pick2 hS (i := 2) (j := 0) rfl rfl (by decide)⟩
    refine s_bsl (vs := [aggR (ofQ n60), aggR (ofQ n120), aggR (ofQ n50)])  rfl si_24 rfl (by decide) (by decide) (by decide) (by simp [Value.cells, aggR]) rfl hS ?_
    intro b17 wz17 hS hBz17
    refine ⟨hBz17, ?_⟩
    replace hS : St w _ [(b17, 29, OW.flatMap encR), (b1, 32, encIt (XW, .slice (some ⟨b10, 0, none⟩) 3 3)), (b10, 38, CW.flatMap encCh)] := hS
    refine wx_fork rfl rfl ?_ ?_
    · refine w_grow rfl rfl (s_alloc  vi_29 hS ?_)
      intro b3 wz18 hS hBz18
      refine ⟨hBz18, ?_⟩
      replace hS : St w _ [(b3, 29, encR zRR), (b17, 29, OW.flatMap encR), (b1, 32, encIt (XW, .slice (some ⟨b10, 0, none⟩) 3 3)), (b10, 38, CW.flatMap encCh)] := hS
      refine w_grow rfl rfl (s_call Tryz.call9 rfl (ShareW_own _ _ _ (rdC hS (k := 3) rfl) (rdO hS (k := 1) rfl)) ?_)
      rintro r wf ⟨b14, rfl, hSf⟩
      refine ⟨hSf.below, ?_⟩
      replace hS := hS.join hSf
      refine w_pure rfl rfl (s_move  rfl ?_)
      refine w_pure rfl rfl (s_ext  rfl rfl ?_)
      refine w_pure rfl rfl (s_ext  rfl rfl ?_)
      refine w_pure rfl rfl (s_ext  rfl rfl ?_)
      refine w_pure rfl rfl (s_asg  rfl ?_)
      refine w_free rfl rfl (s_sta (k := 1)  rfl rfl vi_29 hS rfl rfl rfl (Nat.le_of_ble_eq_true rfl) rfl ?_)
      intro wz19 hS
      refine w_pure rfl rfl (s_asg  rfl ?_)
      refine w_end ?_
      repeat (with_reducible first | refine c_seq ?_ | refine c_block ?_ | refine c_skip ?_ | refine x_then ?_ | refine x_block ?_)
      exact ⟨_, rfl, b3, b14, rfl, rfl, rfl, pick2 hS (i := 1) (j := 0) rfl rfl (by decide)⟩
    refine s_call Tryz.call9 rfl (ShareW_own _ _ _ (rdC hS (k := 2) rfl) (rdO hS (k := 0) rfl)) ?_
    rintro r wf ⟨b14, rfl, hSf⟩
    refine ⟨hSf.below, ?_⟩
    replace hS := hS.join hSf
    refine wx_pure (by kernel_rfl) rfl rfl (s_move  rfl ?_)
    refine wx_pure (by kernel_rfl) rfl rfl (s_ext  rfl rfl ?_)
    refine wx_pure (by kernel_rfl) rfl rfl (s_ext  rfl rfl ?_)
    refine wx_pure (by kernel_rfl) rfl rfl (s_ext  rfl rfl ?_)
    refine wx_now (by kernel_rfl) ?_
    refine w_grow rfl rfl (s_alloc  vi_29 hS ?_)
    intro b3 wz20 hS hBz20
    refine ⟨hBz20, ?_⟩
    refine w_pure rfl rfl (s_asg  rfl ?_)
    refine w_free rfl rfl (s_sta (k := 0)  rfl rfl vi_29 hS rfl rfl rfl (Nat.le_of_ble_eq_true rfl) rfl ?_)
    intro wz21 hS
    refine w_pure rfl rfl (s_asg  rfl ?_)
    refine w_end ?_
    repeat (with_reducible first | refine c_seq ?_ | refine c_block ?_ | refine c_skip ?_ | refine x_then ?_ | refine x_block ?_)
    exact ⟨_, rfl, b3, b14, rfl, rfl, rfl, pick2 hS (i := 0) (j := 1) rfl rfl (by decide)⟩
  clear hS
  rintro ρ w2 ⟨b3, b14, h2, h3, h4, hS⟩
  repeat (with_reducible first | refine c_seq ?_ | refine c_block ?_ | refine c_skip ?_ | refine x_then ?_ | refine x_block ?_)
  refine c_drawM [0, 1, 3, 7, 15, 31, 63, 127, 255, 511, 1023, 255, 4095, 8191, 16383, 32767, 65535, 131071, 32767, 524287, 1048575, 2097151, 4194303, 8388607, 16777215, 4194303, 67108863, 134217727, 268435455, 536870911, 536870911, 2147483647, 4294967295, 8589934591] [(0, .pure), (1, .pure), (2, .pure), (3, .pure), (4, .pure), (5, .pure), (6, .pure), (7, .pure), (8, .pure), (9, .pure), (10, .read), (11, .grow), (12, .pure), (13, .pure), (14, .pure), (15, .pure), (16, .pure), (17, .read), (18, .grow), (19, .pure), (20, .pure), (21, .pure), (22, .pure), (23, .pure), (24, .read), (25, .grow), (26, .pure), (27, .pure), (28, .pure), (29, .read), (30, .grow), (31, .pure), (32, .pure), (33, .pure)] (by kernel_rfl) (by kernel_rfl) hS ?_
  intro wz22 hS hBz22
  refine w_pure rfl rfl (s_move  h4 ?_)
  refine w_pure rfl rfl (s_eql  rfl rfl ?_)
  refine w_pure rfl rfl (s_move  rfl ?_)
  refine w_pure rfl (gd_yes 24 (by kernel_rfl) rfl rfl) (s_move  h2 ?_)
  refine w_pure rfl (gd_yes 24 (by kernel_rfl) rfl rfl) (s_leno  rfl ⟨_, Tryz.underlying24⟩ ?_)
  refine w_pure rfl (gd_yes 24 (by kernel_rfl) rfl rfl) (s_eql  rfl rfl ?_)
  refine w_pure rfl rfl (s_pick (vb rfl rfl) rfl ?_)
  refine w_pure rfl rfl (s_move  rfl ?_)
  refine w_pure rfl (gd_yes 29 (by kernel_rfl) rfl rfl) (s_move  h2 ?_)
  refine w_pure rfl (gd_yes 29 (by kernel_rfl) rfl rfl) (s_ixo (i := 0)  rfl rfl (by omega) (by first | omega | (simp; done) | (simp; omega)) si_24 ?_)
  refine w_read rfl (gd_yes 29 (by kernel_rfl) rfl rfl) (s_ldE (k := 1) (i := 0) (enc := encR) zRR (fun _ => rfl)  rfl vi_29 hS rfl (by first | omega | simp) (by first | omega | (simp; done) | (simp; omega)) rfl (.inl rfl) ?_)
  refine w_grow rfl (gd_yes 29 (by kernel_rfl) rfl rfl) (s_call Tryz.call38 rfl (n30_ok _) ?_)
  rintro r w5 ⟨rfl, hB5⟩
  refine ⟨hB5, ?_⟩
  replace hS := hS.grow hB5
  refine w_pure rfl (gd_yes 29 (by kernel_rfl) rfl rfl) (s_eqR  rfl rfl ?_)
  refine w_pure rfl rfl (s_pick (vb rfl rfl) rfl ?_)
  refine w_pure rfl rfl (s_move  rfl ?_)
  refine w_pure rfl (gd_yes 36 (by kernel_rfl) rfl (decide_eq_true rfl)) (s_move  h2 ?_)
  refine w_pure rfl (gd_yes 36 (by kernel_rfl) rfl (decide_eq_true rfl)) (s_ixo (i := 1)  rfl rfl (by omega) (by first | omega | (simp; done) | (simp; omega)) si_24 ?_)
  refine w_read rfl (gd_yes 36 (by kernel_rfl) rfl (decide_eq_true rfl)) (s_ldE (k := 1) (i := 1) (enc := encR) zRR (fun _ => rfl)  rfl vi_29 hS rfl (by first | omega | simp) (by first | omega | (simp; done) | (simp; omega)) rfl (.inl rfl) ?_)
  refine w_grow rfl (gd_yes 36 (by kernel_rfl) rfl (decide_eq_true rfl)) (s_call Tryz.call38 rfl (n60_ok _) ?_)
  rintro r w6 ⟨rfl, hB6⟩
  refine ⟨hB6, ?_⟩
  replace hS := hS.grow hB6
  refine w_pure rfl (gd_yes 36 (by kernel_rfl) rfl (decide_eq_true rfl)) (s_eqR  rfl rfl ?_)
  refine w_pure rfl rfl (s_pick (vb rfl (decide_eq_true rfl)) rfl ?_)
  refine w_pure rfl rfl (s_move  rfl ?_)
  refine w_pure rfl (gd_yes 43 (by kernel_rfl) rfl (decide_eq_true rfl)) (s_move  h2 ?_)
  refine w_pure rfl (gd_yes 43 (by kernel_rfl) rfl (decide_eq_true rfl)) (s_ixo (i := 2)  rfl rfl (by omega) (by first | omega | (simp; done) | (simp; omega)) si_24 ?_)
  refine w_read rfl (gd_yes 43 (by kernel_rfl) rfl (decide_eq_true rfl)) (s_ldE (k := 1) (i := 2) (enc := encR) zRR (fun _ => rfl)  rfl vi_29 hS rfl (by first | omega | simp) (by first | omega | (simp; done) | (simp; omega)) rfl (.inl rfl) ?_)
  refine w_grow rfl (gd_yes 43 (by kernel_rfl) rfl (decide_eq_true rfl)) (s_call Tryz.call38 rfl (n0_ok _) ?_)
  rintro r w7 ⟨rfl, hB7⟩
  refine ⟨hB7, ?_⟩
  replace hS := hS.grow hB7
  refine w_pure rfl (gd_yes 43 (by kernel_rfl) rfl (decide_eq_true rfl)) (s_eqR  rfl rfl ?_)
  refine w_pure rfl rfl (s_pick (vb rfl (decide_eq_true rfl)) rfl ?_)
  refine w_pure rfl rfl (s_move  rfl ?_)
  refine w_read rfl (gd_yes 50 (by kernel_rfl) rfl (decide_eq_true rfl)) (s_ldo (k := 0)  h3 vi_29 hS rfl rfl rfl (.inl rfl) ?_)
  refine w_grow rfl (gd_yes 50 (by kernel_rfl) rfl (decide_eq_true rfl)) (s_call Tryz.call38 rfl (n0_ok _) ?_)
  rintro r w8 ⟨rfl, hB8⟩
  refine ⟨hB8, ?_⟩
  replace hS := hS.grow hB8
  refine w_pure rfl (gd_yes 50 (by kernel_rfl) rfl (decide_eq_true rfl)) (s_eqR  rfl rfl ?_)
  refine w_pure rfl rfl (s_pick (vb rfl (decide_eq_true rfl)) rfl ?_)
  refine w_pure rfl rfl (s_asg  rfl ?_)
  refine w_end ?_
  repeat (with_reducible first | refine c_seq ?_ | refine c_block ?_ | refine c_skip ?_ | refine x_then ?_ | refine x_block ?_)
  refine c_ret ?_
  repeat (with_reducible first | refine x_then_ret ?_ | refine x_block_ret ?_)
  refine r_one rfl rfl ?_
  exact ⟨vb rfl (decide_eq_true rfl), hS.below⟩
end Go.Proofs.YtknccjbkacaelaaGreatDoor
namespace Go.Sx
open Go Go.RowKit
section
variable {P : Program} {ops : Array Oper} {Kend : Act → World → Prop}
/-- Does operation i wait for none of those that are left? -/
def rdyU (ops : Array Oper) (U : List (Nat × Md)) (i : Nat) : Bool := match ops[i]? with
  | some o => o.after.all fun e => !Region.binds .any e || !(U.any fun y => Nat.beq y.1 e.on)
  | none => false
def del (U : List (Nat × Md)) (i : Nat) : List (Nat × Md) := U.filter fun y => !Nat.beq y.1 i
theorem mem_del {U : List (Nat × Md)} {i : Nat} {y : Nat × Md} : y ∈ del U i ↔ y ∈ U ∧ y.1 ≠ i := by
  unfold del
  rw [List.mem_filter]
  constructor
  · rintro ⟨h1, h2⟩
    refine ⟨h1, fun e => ?_⟩
    rw [e] at h2
    simp at h2
  · rintro ⟨h1, h2⟩
    refine ⟨h1, ?_⟩
    rw [Bool.not_eq_true']
    cases hb : Nat.beq y.1 i with
    | false => rfl
    | true => exact absurd (Nat.eq_of_beq_eq_true hb) h2
theorem del_comm (U : List (Nat × Md)) (i j : Nat) : del (del U i) j = del (del U j) i := by
  unfold del
  rw [List.filter_filter, List.filter_filter]
  congr 1
  funext y
  exact Bool.and_comm _ _
theorem rdy_mono {U V : List (Nat × Md)} (h : ∀ y ∈ V, y ∈ U) {i : Nat} (hr : rdyU ops U i = true) : rdyU ops V i = true := by
  unfold rdyU at *
  cases ho : ops[i]? with
  | none => rw [ho] at hr; cases hr
  | some o =>
    rw [ho] at hr
    simp only at hr ⊢
    rw [Array.all_eq_true'] at hr ⊢
    intro e he
    have := hr e he
    rw [Bool.or_eq_true] at this ⊢
    rcases this with q | q
    · exact .inl q
    · right
      rw [Bool.not_eq_true'] at q ⊢
      rw [List.any_eq_false] at q ⊢
      exact fun y hy => q y (h y hy)
theorem rdy_some {U : List (Nat × Md)} {i : Nat} (hr : rdyU ops U i = true) : ∃ o, ops[i]? = some o ∧ ∀ e ∈ o.after, Region.binds .any e = true → ∀ y ∈ U, y.1 ≠ e.on := by
  unfold rdyU at hr
  cases ho : ops[i]? with
  | none => rw [ho] at hr; cases hr
  | some o =>
    rw [ho] at hr
    simp only at hr
    rw [Array.all_eq_true'] at hr
    refine ⟨o, rfl, fun e he hb y hy q => ?_⟩
    have := hr e he
    rw [hb, Bool.not_true, Bool.false_or, Bool.not_eq_true', List.any_eq_false] at this
    exact this y hy (by rw [q]; simp)
def allo (P : Program) (ops : Array Oper) (Kend : Act → World → Prop) : Nat → List (Nat × Md) → Act → World → Prop
  | 0, U, a, w => U = [] ∧ Kend a w
  | n + 1, U, a, w => (U = [] → Kend a w) ∧ ∀ x ∈ U, rdyU ops U x.1 = true → ∃ o, ops[x.1]? = some o ∧ rstep P ops x.2 o a w (allo P ops Kend n (del U x.1))
/-- The edges point back. -/
def lowOk (ops : Array Oper) : Bool := (List.range ops.size).all fun i => match ops[i]? with
  | some o => o.after.all fun e => !Region.binds .any e || Nat.blt e.on i
  | none => true
theorem low_at (h : lowOk ops = true) {i : Nat} {o : Oper} (hi : ops[i]? = some o) : ∀ e ∈ o.after, Region.binds .any e = true → e.on < i := by
  intro e he hb
  have hlt : i < ops.size := by
    rcases Nat.lt_or_ge i ops.size with q | q
    · exact q
    · rw [Array.getElem?_eq_none q] at hi; cases hi
  have := List.all_eq_true.1 h i (List.mem_range.2 hlt)
  rw [hi] at this
  have := Array.all_eq_true'.1 this e he
  rw [hb, Bool.not_true, Bool.false_or, Nat.blt_eq] at this
  exact this
theorem rdy_ex (hlow : lowOk ops = true) {U : List (Nat × Md)} (hU : ∀ y ∈ U, y.1 < ops.size) : ∀ k m, (k, m) ∈ U → ∃ x ∈ U, rdyU ops U x.1 = true := by
  intro k
  induction k using Nat.strongRecOn with
  | _ k ih =>
    intro m hm
    by_cases hr : rdyU ops U k = true
    · exact ⟨_, hm, hr⟩
    · have hk := hU _ hm
      have ho : ops[k]? = some ops[k] := Array.getElem?_eq_getElem hk
      unfold rdyU at hr
      rw [ho] at hr
      simp only at hr
      rw [Array.all_eq_true'] at hr
      have : ∃ e ∈ ops[k].after, ¬ (!Region.binds .any e || !(U.any fun y => Nat.beq y.1 e.on)) = true := by
        refine Classical.byContradiction fun hc => hr fun e he => ?_
        exact Classical.byContradiction fun hn => hc ⟨e, he, hn⟩
      obtain ⟨e, he, hn⟩ := this
      rw [Bool.or_eq_true, not_or] at hn
      obtain ⟨h1, h2⟩ := hn
      have hb : Region.binds .any e = true := by simpa using h1
      have h3 : (U.any fun y => Nat.beq y.1 e.on) = true := by simpa using h2
      obtain ⟨y, hy, hyb⟩ := List.any_eq_true.1 h3
      have hye := Nat.eq_of_beq_eq_true hyb
      obtain ⟨y1, y2⟩ := y
      simp only at hye
      exact ih y1 (by rw [hye]; exact low_at hlow ho e he hb) y2 hy
theorem wpAny_of_allo {Q : Exit → Act → World → Prop} (hQ : ∀ a w, Kend a w → Q .normal a w) (hlow : lowOk ops = true) :
    ∀ (n : Nat) (U : List (Nat × Md)) (listed : Array Bool) (a : Act) (w : World), listed.size = ops.size → (∀ i, listed.getD i true = false ↔ ∃ m, (i, m) ∈ U) → (∀ y ∈ U, y.1 < ops.size) → allo P ops Kend n U a w → wpAny P .any ops Q n listed a w := by
  intro n
  induction n with
  | zero =>
    intro U listed a w _ hl _ h
    obtain ⟨rfl, h⟩ := h
    refine ⟨List.eq_nil_iff_forall_not_mem.2 fun i hi => ?_, hQ _ _ h⟩
    obtain ⟨m, hm⟩ := (hl i).1 (mem_ready.1 hi).1
    cases hm
  | succ n ih =>
    intro U listed a w hsz hl hU h
    obtain ⟨h1, h2⟩ := h
    have hrd : ∀ i, listed.getD i true = false → (∀ (o : Oper), ops[i]? = some o → ∀ e ∈ o.after, Region.binds .any e = true → listed.getD e.on false = true) → (∃ o, ops[i]? = some o) → rdyU ops U i = true := by
      rintro i _ hd ⟨o, ho⟩
      unfold rdyU
      rw [ho]
      simp only
      rw [Array.all_eq_true']
      intro e he
      cases hb : Region.binds .any e with
      | false => rfl
      | true =>
        rw [Bool.not_true, Bool.false_or, Bool.not_eq_true', List.any_eq_false]
        intro y hy hyb
        have hye := Nat.eq_of_beq_eq_true hyb
        have h3 := hd o ho e he hb
        have h4 := (hl y.1).2 ⟨y.2, hy⟩
        rw [hye] at h4
        rcases Nat.lt_or_ge e.on listed.size with q | q
        · simp only [Array.getD, q, dite_true] at h3 h4
          rw [h3] at h4; cases h4
        · simp [Array.getD, Nat.not_lt.2 q] at h3
    refine ⟨fun hr => ?_, fun i hi => ?_⟩
    · refine hQ _ _ (h1 (List.eq_nil_iff_forall_not_mem.2 fun x hx => ?_))
      obtain ⟨y, hy, hyr⟩ := rdy_ex hlow hU x.1 x.2 hx
      obtain ⟨o, ho, hd⟩ := rdy_some hyr
      have : y.1 ∈ Region.ready .any ops listed := mem_ready.2 ⟨(hl y.1).2 ⟨y.2, hy⟩, o, ho, fun e he hb => by
        have hne := hd e he hb
        have hlt : e.on < listed.size := by
          have := low_at hlow ho e he hb
          have := hU y hy
          omega
        have h5 : ¬ listed.getD e.on true = false := fun g => by
          obtain ⟨m, hm⟩ := (hl e.on).1 g
          exact hne _ hm rfl
        simp only [Array.getD, hlt, dite_true] at h5 ⊢
        simpa using h5⟩
      rw [hr] at this
      cases this
    · obtain ⟨hun, oi, hoi, hdeps⟩ := mem_ready.1 hi
      obtain ⟨m, hm⟩ := (hl i).1 hun
      have hr := hrd i hun (fun o ho => by rw [hoi] at ho; obtain rfl := Option.some.inj ho; exact hdeps) ⟨oi, hoi⟩
      obtain ⟨o, ho, hst⟩ := h2 (i, m) hm hr
      have hilt : i < listed.size := by rw [hsz]; exact hU _ hm
      refine wpOp_of_rstep ho (rstep_mono (fun a w hh => ?_) hst)
      refine ih (del U i) (listed.setIfInBounds i true) a w (by simpa using hsz) ?_ (fun y hy => hU y (mem_del.1 hy).1) hh
      intro j
      by_cases hji : j = i
      · subst hji
        constructor
        · intro hf; simp [Array.getD, hilt] at hf
        · rintro ⟨m', hm'⟩; exact absurd rfl (mem_del.1 hm').2
      · rw [getD_set_ne true (Ne.symm hji), hl j]
        constructor
        · rintro ⟨m', hm'⟩; exact ⟨m', mem_del.2 ⟨hm', hji⟩⟩
        · rintro ⟨m', hm'⟩; exact ⟨m', (mem_del.1 hm').1⟩
theorem rstep_ex {m : Md} {o : Oper} {a : Act} {w : World} {K : Act → World → Prop} (h : rstep P ops m o a w K) : ∃ a' w', K a' w' := by
  unfold rstep at h
  split at h
  · cases m with
    | pure => obtain ⟨v, _, h⟩ := h; exact ⟨_, _, h⟩
    | read => obtain ⟨v, _, h⟩ := h; exact ⟨_, _, h⟩
    | grow => obtain ⟨v, w', h⟩ := hup_some h; exact ⟨_, _, h.2⟩
    | free => obtain ⟨v, w', h⟩ := hup_some h; exact ⟨_, _, h⟩
  · exact ⟨_, _, h⟩
/-- y waits for i, by operations that are left. -/
inductive Bl (ops : Array Oper) (U : List (Nat × Md)) (i : Nat) : Nat → Prop
  | one {y : Nat} {o : Oper} {e : Edge} : ops[y]? = some o → e ∈ o.after → Region.binds .any e = true → e.on = i → Bl ops U i y
  | far {y : Nat} {o : Oper} {e : Edge} {z : Nat × Md} : ops[y]? = some o → e ∈ o.after → Region.binds .any e = true → e.on = z.1 → z ∈ U → Bl ops U i z.1 → Bl ops U i y
theorem Bl.rdy {i : Nat} {m : Md} {U : List (Nat × Md)} (hm : (i, m) ∈ U) {y : Nat} (h : Bl ops U i y) : rdyU ops U y ≠ true := by
  intro hr
  obtain ⟨o, ho, hd⟩ := rdy_some hr
  cases h with
  | one h1 h2 h3 h4 =>
    rw [ho] at h1
    obtain rfl := Option.some.inj h1
    exact hd _ h2 h3 _ hm h4.symm
  | far h1 h2 h3 h4 h5 _ =>
    rw [ho] at h1
    obtain rfl := Option.some.inj h1
    exact hd _ h2 h3 _ h5 h4.symm
theorem Bl.del {i : Nat} {m : Md} {U : List (Nat × Md)} (hm : (i, m) ∈ U) {x : Nat} (hx : rdyU ops U x = true) {y : Nat} (h : Bl ops U i y) : Bl ops (del U x) i y := by
  induction h with
  | one h1 h2 h3 h4 => exact .one h1 h2 h3 h4
  | far h1 h2 h3 h4 h5 h6 ih => exact .far h1 h2 h3 h4 (mem_del.2 ⟨h5, fun e => h6.rdy hm (by rw [e]; exact hx)⟩) ih
def blb (ops : Array Oper) (U : List (Nat × Md)) (i : Nat) : Nat → Nat → Bool
  | 0, _ => false
  | n + 1, y => match ops[y]? with
    | some o => o.after.any fun e => Region.binds .any e && (Nat.beq e.on i || ((U.any fun z => Nat.beq z.1 e.on) && blb ops U i n e.on))
    | none => false
theorem blb_sound {U : List (Nat × Md)} {i : Nat} : ∀ (n y : Nat), blb ops U i n y = true → Bl ops U i y := by
  intro n
  induction n with
  | zero => intro y h; cases h
  | succ n ih =>
    intro y h
    unfold blb at h
    cases ho : ops[y]? with
    | none => rw [ho] at h; cases h
    | some o =>
      rw [ho] at h
      simp only at h
      rw [Array.any_eq_true'] at h
      obtain ⟨e, he, hq⟩ := h
      rw [Bool.and_eq_true, Bool.or_eq_true, Bool.and_eq_true] at hq
      obtain ⟨hb, q | ⟨q, r⟩⟩ := hq
      · exact .one ho he hb (Nat.eq_of_beq_eq_true q)
      · obtain ⟨z, hz, hzb⟩ := List.any_eq_true.1 q
        have e2 := Nat.eq_of_beq_eq_true hzb
        exact .far ho he hb e2.symm hz (by rw [e2]; exact ih _ r)
/-- May (i, m) be taken first? -/
def zfront (ops : Array Oper) (x : Nat × Md) (U : List (Nat × Md)) : Bool :=
  rdyU ops U x.1 && (U.any fun y => Nat.beq y.1 x.1) && U.all fun y => (Nat.beq y.1 x.1 && decide (y.2 = x.2)) || (!Nat.beq y.1 x.1 && (blb ops U x.1 6 y.1 || swapOk ops x y))
theorem allo_front (hs : noSel ops) {i : Nat} {m : Md} {oi : Oper} (hi : ops[i]? = some oi) :
    ∀ (n : Nat) (U : List (Nat × Md)) (a : Act) (w : World), (i, m) ∈ U → rdyU ops U i = true → (∀ y ∈ U, y.1 = i → y.2 = m) →
      (∀ y ∈ U, y.1 ≠ i → Bl ops U i y.1 ∨ swapOk ops (i, m) y = true) →
      rstep P ops m oi a w (allo P ops Kend n (del U i)) → allo P ops Kend (n + 1) U a w := by
  intro n
  induction n with
  | zero =>
    intro U a w hm hr hu hsw h
    refine ⟨fun e => (by rw [e] at hm; cases hm), fun x hx hxr => ?_⟩
    by_cases hxi : x.1 = i
    · obtain ⟨x1, x2⟩ := x
      simp only at hxi
      subst hxi
      obtain rfl := hu _ hx rfl
      exact ⟨oi, hi, h⟩
    · exfalso
      obtain ⟨_, _, h3, _⟩ := rstep_ex h
      have := mem_del.2 ⟨hx, hxi⟩
      rw [h3] at this
      cases this
  | succ n ih =>
    intro U a w hm hr hu hsw h
    refine ⟨fun e => (by rw [e] at hm; cases hm), fun x hx hxr => ?_⟩
    by_cases hxi : x.1 = i
    · obtain ⟨x1, x2⟩ := x
      simp only at hxi
      subst hxi
      obtain rfl := hu _ hx rfl
      exact ⟨oi, hi, h⟩
    · obtain ⟨ox, hox, hxd⟩ := rdy_some hxr
      have hsx : swapOk ops (i, m) x = true := by
        rcases hsw x hx hxi with q | q
        · exact absurd hxr (q.rdy hm)
        · exact q
      refine ⟨ox, hox, ?_⟩
      have h1 : rstep P ops m oi a w (fun a w => rstep P ops x.2 ox a w (allo P ops Kend n (del (del U i) x.1))) := rstep_mono (fun a w g => by
        obtain ⟨o, ho, g⟩ := g.2 x (mem_del.2 ⟨hx, hxi⟩) (rdy_mono (fun y hy => (mem_del.1 hy).1) hxr)
        rw [hox] at ho
        obtain rfl := Option.some.inj ho
        exact g) h
      obtain ⟨x1, x2⟩ := x
      have h2 := rswap hi hox (fun cs b => hs i oi cs b hi) (fun cs b => hs x1 ox cs b hox) hsx h1
      refine rstep_mono (fun a w g => ?_) h2
      rw [del_comm] at g
      exact ih (del U x1) a w (mem_del.2 ⟨hm, Ne.symm hxi⟩) (rdy_mono (fun y hy => (mem_del.1 hy).1) hr) (fun y hy => hu y (mem_del.1 hy).1) (fun y hy hne => (hsw y (mem_del.1 hy).1 hne).imp (fun q => q.del hm hxr) id) g
end
/-- A region's walk, those of U not yet carried out. -/
structure Wz (P : Program) (ops : Array Oper) (Kend : Act → World → Prop) (n : Nat) (U : List (Nat × Md)) (N : Nat) (ρ : Nat → Value) (w : World) : Prop where
  out : noSel ops → allo P ops Kend n U (act N ρ) w
def zstep (P : Program) (ops : Array Oper) (Kend : Act → World → Prop) (n : Nat) (U' : List (Nat × Md)) (x : Nat × Md) (N : Nat) (ρ : Nat → Value) (w : World) : Prop :=
  noSel ops → ∃ o, ops[x.1]? = some o ∧ rstep P ops x.2 o (act N ρ) w (allo P ops Kend n U')
def zallOk (ops : Array Oper) (n : Nat) (U : List (Nat × Md)) : Bool :=
  Nat.beq ops.size n && decide (U.map (·.1) = List.range n) && lowOk ops && ops.all fun o => match o.op with | .select .. => false | _ => true
section
variable {P : Program} {N : Nat} {ρ : Nat → Value} {w0 w : World} {Q : Exit → Act → World → Prop} {ops : Array Oper} {H : List Blk} {Kend : Act → World → Prop} {i n : Nat} {o : Oper} {U U' : List (Nat × Md)}
theorem c_all {id : Nat} {l : List Oper} (n : Nat) (U : List (Nat × Md)) (hm : P.follows .mixedOrders = true) (hchk : zallOk l.toArray n U = true) (hS : St w0 w H)
    (h : ∀ w', St w0 w' H → Below w.heap.size w w' → Wz P l.toArray (Q .normal) n U N ρ w') : (Code.region id l.toArray true).wp P Q (act N ρ) w := by
  simp only [zallOk, Bool.and_eq_true, decide_eq_true_eq] at hchk
  obtain ⟨⟨⟨h1, h2⟩, h3⟩, h6⟩ := hchk
  have hsz := Nat.eq_of_beq_eq_true h1
  have hs : noSel l.toArray := by
    intro i o cs b hi hsel
    have := Array.all_eq_true'.1 h6 o (Array.mem_of_getElem? hi)
    rw [hsel] at this
    cases this
  have hbd : Below w.heap.size w { w with drawn := w.drawn + 1 } := (Below.refl _ w).drew
  have hUm : ∀ i, (∃ m, (i, m) ∈ U) ↔ i < n := by
    intro i
    rw [← List.mem_range, ← h2, List.mem_map]
    constructor
    · rintro ⟨m, hm⟩; exact ⟨_, hm, rfl⟩
    · rintro ⟨⟨a, m⟩, hm, rfl⟩; exact ⟨m, hm⟩
  refine wp_region_any hm ?_
  rw [hsz]
  refine wpAny_of_allo (fun _ _ h => h) h3 n U _ _ _ (by simp; simpa using hsz.symm) ?_ (fun y hy => by rw [hsz]; exact (hUm y.1).1 ⟨y.2, hy⟩) ((h _ (hS.grow hbd) hbd).out hs)
  intro i
  rw [hUm]
  constructor
  · intro hf
    rcases Nat.lt_or_ge i n with q | q
    · exact q
    · simp [Array.getD, Nat.not_lt.2 q] at hf
  · intro q
    simp [Array.getD, q]
theorem z_end (h : Kend (act N ρ) w) : Wz P ops Kend n [] N ρ w := ⟨fun _ => by
  cases n with
  | zero => exact ⟨rfl, h⟩
  | succ n => exact ⟨fun _ => h, fun x hx => by cases hx⟩⟩
theorem zfront_spec {x : Nat × Md} (h : zfront ops x U = true) : x ∈ U ∧ rdyU ops U x.1 = true ∧ (∀ y ∈ U, y.1 = x.1 → y.2 = x.2) ∧
    ∀ y ∈ U, y.1 ≠ x.1 → Bl ops U x.1 y.1 ∨ swapOk ops x y = true := by
  simp only [zfront, Bool.and_eq_true] at h
  obtain ⟨⟨h1, h2⟩, h3⟩ := h
  have hu : ∀ y ∈ U, y.1 = x.1 → y.2 = x.2 := fun y hy e => by
    have := List.all_eq_true.1 h3 y hy
    rw [e] at this
    simp at this
    exact this
  refine ⟨?_, h1, hu, fun y hy hne => ?_⟩
  · obtain ⟨y, hy, hb⟩ := List.any_eq_true.1 h2
    have e := Nat.eq_of_beq_eq_true hb
    have e2 := hu y hy e
    obtain ⟨y1, y2⟩ := y
    obtain ⟨x1, x2⟩ := x
    simp only at e e2
    rw [← e, ← e2]; exact hy
  · have := List.all_eq_true.1 h3 y hy
    have hb : Nat.beq y.1 x.1 = false := by
      cases hb : Nat.beq y.1 x.1 with
      | false => rfl
      | true => exact absurd (Nat.eq_of_beq_eq_true hb) hne
    rw [hb, Bool.false_and, Bool.false_or, Bool.not_false, Bool.true_and, Bool.or_eq_true] at this
    rcases this with q | q
    · exact .inl (blb_sound _ _ q)
    · exact .inr q
theorem z_pure {d : Option Tmp} {p : Op} {ty : TypeId} {pos : String} {aft : Array Edge} {g : Option (Nat × Bool)} (hf : zfront ops (i, .pure) U = true) (hd : del U i = U') (ho : ops[i]? = some ⟨d, p, ty, pos, aft, g⟩) (hg : gd ops N ρ g = true)
    (h : Pure1 P N ρ ⟨d, p, ty, pos, aft, g⟩ fun v => Wz P ops Kend n U' N (updo ρ d v) w) : Wz P ops Kend (n + 1) U N ρ w := by
  subst hd
  obtain ⟨f1, f2, f3, f4⟩ := zfront_spec hf
  refine ⟨fun hs => allo_front hs ho n U _ _ f1 f2 f3 f4 ?_⟩
  rw [rstep_pure (gd_wanted ops N ρ ⟨d, p, ty, pos, aft, g⟩ hg), act_eval]
  obtain ⟨v, h1, h2⟩ := h
  exact ⟨v, h1, by rw [act_put]; exact h2.out hs⟩
theorem z_grow {d : Option Tmp} {p : Op} {ty : TypeId} {pos : String} {aft : Array Edge} {g : Option (Nat × Bool)} (ho : ops[i]? = some ⟨d, p, ty, pos, aft, g⟩) (hg : gd ops N ρ g = true)
    (h : Hup1 P N ρ w ⟨d, p, ty, pos, aft, g⟩ fun v w' => Below w.heap.size w w' ∧ Wz P ops Kend n U' N (updo ρ d v) w') : zstep P ops Kend n U' (i, .grow) N ρ w := fun hs => by
  refine ⟨_, ho, ?_⟩
  rw [rstep_grow (gd_wanted ops N ρ ⟨d, p, ty, pos, aft, g⟩ hg), act_eval]
  simp only [act_put]
  exact hup_mono (fun v w h => ⟨h.1, h.2.out hs⟩) h.out
theorem z_free {d : Option Tmp} {p : Op} {ty : TypeId} {pos : String} {aft : Array Edge} {g : Option (Nat × Bool)} (ho : ops[i]? = some ⟨d, p, ty, pos, aft, g⟩) (hg : gd ops N ρ g = true)
    (h : Hup1 P N ρ w ⟨d, p, ty, pos, aft, g⟩ fun v w' => Wz P ops Kend n U' N (updo ρ d v) w') : zstep P ops Kend n U' (i, .free) N ρ w := fun hs => by
  refine ⟨_, ho, ?_⟩
  rw [rstep_free (gd_wanted ops N ρ ⟨d, p, ty, pos, aft, g⟩ hg), act_eval]
  simp only [act_put]
  exact hup_mono (fun v w h => Wz.out h hs) h.out
theorem z_one {x : Nat × Md} (hR : (U.filter fun y => rdyU ops U y.1) = [x]) (hd : del U x.1 = U') (h : zstep P ops Kend n U' x N ρ w) : Wz P ops Kend (n + 1) U N ρ w := by
  subst hd
  refine ⟨fun hs => ⟨fun e => (by rw [e] at hR; cases hR), fun y hy hr => ?_⟩⟩
  have : y ∈ [x] := by rw [← hR]; exact List.mem_filter.2 ⟨hy, hr⟩
  obtain rfl := List.mem_singleton.1 this
  exact h hs
theorem z_two {x y : Nat × Md} {U'' : List (Nat × Md)} (hR : (U.filter fun y => rdyU ops U y.1) = [x, y]) (hd : del U x.1 = U') (hd' : del U y.1 = U'') (h : zstep P ops Kend n U' x N ρ w) (h' : zstep P ops Kend n U'' y N ρ w) : Wz P ops Kend (n + 1) U N ρ w := by
  subst hd hd'
  refine ⟨fun hs => ⟨fun e => (by rw [e] at hR; cases hR), fun z hz hr => ?_⟩⟩
  have : z ∈ [x, y] := by rw [← hR]; exact List.mem_filter.2 ⟨hz, hr⟩
  rcases List.mem_cons.1 this with rfl | this
  · exact h hs
  · obtain rfl := List.mem_singleton.1 this
    exact h' hs
end
end Go.Sx
namespace Go.Proofs.YtknccjbkacaelaaGreatDoor
open Go Go.RowKit Go.Sx
set_option maxHeartbeats 2000000 in
theorem rordered_ok (x : It) (vc : Value) (w : World) (hch : Sl encCh 6 w vc x.charges) (h12 : x.charges.length ≤ 1000) :
    Ret Tryz.prog 29 #[aggIt x vc] w fun r w' => ∃ LO, Gl enI 3 1 r (zI (ordC x.charges)) LO ∧ St w w' ([] ++ LO) := by
  obtain ⟨cs, hcs⟩ : ∃ cs, cs = x.charges := ⟨_, rfl⟩
  rw [← hcs] at hch h12 ⊢
  have hS := St.init w
  refine enter Tryz.func29 rfl Tryz.ntmps29 rfl ?_
  repeat (with_reducible first | refine c_seq ?_ | refine c_block ?_ | refine c_skip ?_ | refine x_then ?_ | refine x_block ?_)
  refine c_reg ?_
  refine l_heavy rfl (s_box  rfl rfl hS ?_)
  intro b1 wz1 hS hBz1
  refine l_pure rfl (s_asg  rfl ?_)
  refine l_nil ?_
  repeat (with_reducible first | refine c_seq ?_ | refine c_block ?_ | refine c_skip ?_ | refine x_then ?_ | refine x_block ?_)
  replace hS : St w _ [(b1, 32, encIt (x, vc))] := hS
  repeat (with_reducible first | refine c_seq ?_ | refine c_block ?_ | refine c_skip ?_ | refine x_then ?_ | refine x_block ?_)
  refine c_reg ?_
  refine l_pure rfl (s_asg  rfl ?_)
  refine l_nil ?_
  repeat (with_reducible first | refine c_seq ?_ | refine c_block ?_ | refine c_skip ?_ | refine x_then ?_ | refine x_block ?_)
  refine c_reg ?_
  refine l_pure rfl (s_asg  rfl ?_)
  refine l_nil ?_
  repeat (with_reducible first | refine c_seq ?_ | refine c_skip ?_ | refine x_then ?_ | refine x_block ?_)
  refine c_cut1 (fun ρ w' => ∃ vq LO, ρ 3 = vq ∧ Gl enI 3 1 vq (zI (ordC cs)) LO ∧ St w w' ([(b1, 32, encIt (x, vc))] ++ LO)) ?_ ?_
  · repeat (with_reducible first | refine c_seq ?_ | refine c_block ?_ | refine c_skip ?_ | refine x_then ?_ | refine x_block ?_)
    refine c_loop (σ := Nat) (fun i ρ w' => i ≤ cs.length ∧ ρ 1 = .pointer (some ⟨b1, 0, none⟩) ∧ ρ 4 = .int .i64 i ∧ ∃ vq LO, ρ 3 = vq ∧ Gl enI 3 1 vq (zI (isort (lower cs) (List.range i))) LO ∧ St w w' ([(b1, 32, encIt (x, vc))] ++ LO)) (fun i => cs.length - i) 0
      ⟨Nat.zero_le _, rfl, rfl, _, [], rfl, Gl.nil _ _ _, hS⟩ ?_
    clear hS
    rintro i ρ w2 ⟨hi, h1, h4, vq, LO, h3, hG, hS⟩
    obtain ⟨S, hSe⟩ : ∃ S, S = isort (lower cs) (List.range i) := ⟨_, rfl⟩
    have hSl : S.length = i := by rw [hSe, isort_len, List.length_range]
    have hSm : ∀ j ∈ S, j < i := fun j hj => by rw [hSe] at hj; exact List.mem_range.1 ((isort_perm _ _).mem_iff.1 hj)
    have hzl := zI_len S
    rw [← hSe] at hG
    repeat (with_reducible first | refine c_seq ?_ | refine c_block ?_ | refine c_skip ?_ | refine x_then ?_ | refine x_block ?_)
    refine c_reg ?_
    refine l_pure rfl (s_move  h4 ?_)
    refine l_pure rfl (s_fld  h1 fo_32_2 ?_)
    refine l_read rfl (s_ldo (k := 0)  rfl vi_30 hS rfl rfl rfl (.inr rfl) ?_)
    refine l_pure rfl (s_lenr  rfl (hch.below hS.below) ⟨_, Tryz.underlying30⟩ ?_)
    refine l_pure rfl (s_lss  rfl rfl ?_)
    refine l_nil ?_
    repeat (with_reducible first | refine c_seq ?_ | refine c_block ?_ | refine c_skip ?_ | refine x_then ?_ | refine x_block ?_)
    by_cases hlt : i < cs.length
    · refine c_yes rfl (decide_eq_true (by omega)) ?_
      repeat (with_reducible first | refine c_seq ?_ | refine c_block ?_ | refine c_skip ?_ | refine x_then ?_ | refine x_block ?_)
      refine c_reg ?_
      refine l_pure rfl (s_move  h3 ?_)
      refine l_pure rfl (s_lenr  rfl (hG.sl hS enI_len) ⟨_, Tryz.underlying63⟩ ?_)
      refine l_pure rfl (s_asg  rfl ?_)
      refine l_nil ?_
      repeat (with_reducible first | refine c_seq ?_ | refine c_skip ?_ | refine x_then ?_ | refine x_block ?_)
      refine c_cut1 (fun ρ w' => ρ 1 = .pointer (some ⟨b1, 0, none⟩) ∧ ρ 4 = .int .i64 i ∧ ρ 3 = vq ∧ (∃ k : Nat, ρ 5 = .int .i64 k ∧ k ≤ i ∧ (∀ j ∈ S.drop k, lower cs i j = true) ∧ ∀ j, (S.take k).getLast? = some j → lower cs i j = false) ∧ St w w' ([(b1, 32, encIt (x, vc))] ++ LO)) ?_ ?_
      · repeat (with_reducible first | refine c_seq ?_ | refine c_block ?_ | refine c_skip ?_ | refine x_then ?_ | refine x_block ?_)
        refine c_loop (σ := Nat) (fun k ρ w' => k ≤ i ∧ (∀ j ∈ S.drop k, lower cs i j = true) ∧ ρ 1 = .pointer (some ⟨b1, 0, none⟩) ∧ ρ 4 = .int .i64 i ∧ ρ 3 = vq ∧ ρ 5 = .int .i64 k ∧ St w w' ([(b1, 32, encIt (x, vc))] ++ LO)) (fun k => k) i
          ⟨Nat.le_refl _, fun j hj => (by rw [List.drop_eq_nil_of_le (by omega)] at hj; cases hj), by assumption, by assumption, by assumption, vi rfl (by omega), hS⟩ ?_
        clear hS h1 h4 h3
        rintro k ρ w3 ⟨hk, hB, h1, h4, h3, h5, hS⟩
        repeat (with_reducible first | refine c_seq ?_ | refine c_block ?_ | refine c_skip ?_ | refine x_then ?_ | refine x_block ?_)
        by_cases hk0 : 0 < k
        · obtain ⟨j, hj⟩ : ∃ j, j = S.getD (k - 1) 0 := ⟨_, rfl⟩
          have hjS : j ∈ S := by rw [hj]; exact getD_mem S (k - 1) 0 (by omega)
          have hjc : j < cs.length := by have := hSm j hjS; omega
          have hz : (zI S).getD (k - 1) 0 = (j : Int) := by rw [zI_get S (by omega), ← hj]
          have hcons : S.drop (k - 1) = j :: S.drop k := by
            rw [List.drop_eq_getElem_cons (by omega), show k - 1 + 1 = k by omega, hj, List.getD_eq_getElem?_getD, List.getElem?_eq_getElem (by omega)]; rfl
          have e1 : (cs.getD j zCh).prio = pr cs j := rfl
          have e2 : (cs.getD i zCh).prio = pr cs i := rfl
          repeat (with_reducible first | refine c_seq ?_ | refine c_block ?_ | refine c_skip ?_ | refine x_then ?_ | refine x_block ?_)
          refine c_draw [(0, .pure), (1, .pure), (2, .pure), (3, .pure), (4, .read), (5, .pure), (6, .pure), (7, .pure), (8, .pure), (9, .read), (10, .pure), (11, .pure), (12, .read), (13, .pure), (14, .read), (15, .pure), (16, .pure), (17, .pure), (18, .read), (19, .pure), (20, .pure)] (by kernel_rfl) (by kernel_rfl) hS ?_
          intro wz2 hS hBz2
          refine w_pure rfl rfl (s_move  h5 ?_)
          refine w_pure rfl rfl (s_gtr  rfl rfl ?_)
          refine w_pure rfl rfl (s_move  rfl ?_)
          refine w_pure rfl (gd_yes 17 (by kernel_rfl) rfl (decide_eq_true (by omega))) (s_fld  h1 fo_32_2 ?_)
          refine w_read rfl (gd_yes 17 (by kernel_rfl) rfl (decide_eq_true (by omega))) (s_ldo (k := 0)  rfl vi_30 hS rfl rfl rfl (.inr rfl) ?_)
          refine w_pure rfl (gd_yes 17 (by kernel_rfl) rfl (decide_eq_true (by omega))) (s_move  h3 ?_)
          refine w_pure rfl (gd_yes 17 (by kernel_rfl) rfl (decide_eq_true (by omega))) (s_move  h5 ?_)
          refine w_pure rfl (gd_yes 17 (by kernel_rfl) rfl (decide_eq_true (by omega))) (s_sub  rfl rfl (IntWalk.i64_in _ (by omega)) ?_)
          refine w_pure rfl (gd_yes 17 (by kernel_rfl) rfl (decide_eq_true (by omega))) (s_ixr (i := (k - 1))  rfl rfl (hG.sl hS enI_len) (by omega) (by first | omega | (simp; done) | (simp; omega)) si_63 ?_)
          refine w_read rfl (gd_yes 17 (by kernel_rfl) rfl (decide_eq_true (by omega))) (s_lde (i := (k - 1)) 0  rfl vi_3 (hG.sl hS enI_len) (by first | omega | (simp; done) | (simp; omega)) rfl rfl (.inr rfl) ?_)
          refine w_pure rfl (gd_yes 17 (by kernel_rfl) rfl (decide_eq_true (by omega))) (s_ixr (i := j)  rfl rfl (hch.below hS.below) hz (by first | omega | (simp; done) | (simp; omega)) si_30 ?_)
          refine w_pure rfl (gd_yes 17 (by kernel_rfl) rfl (decide_eq_true (by omega))) (s_fldr  rfl (spot_el (hch.below hS.below) (fun _ => rfl) (by decide) (by first | omega | (simp; done) | (simp; omega))) fo_38_1 ?_)
          refine w_read rfl (gd_yes 17 (by kernel_rfl) rfl (decide_eq_true (by omega))) (s_ldfe (i := j) (off := 1) zCh  rfl vi_3 (hch.below hS.below) (fun _ => rfl) (by decide) (by first | omega | (simp; done) | (simp; omega)) rfl rfl (.inr rfl) ?_)
          refine w_pure rfl (gd_yes 17 (by kernel_rfl) rfl (decide_eq_true (by omega))) (s_fld  h1 fo_32_2 ?_)
          refine w_read rfl (gd_yes 17 (by kernel_rfl) rfl (decide_eq_true (by omega))) (s_ldo (k := 0)  rfl vi_30 hS rfl rfl rfl (.inr rfl) ?_)
          refine w_pure rfl (gd_yes 17 (by kernel_rfl) rfl (decide_eq_true (by omega))) (s_move  h4 ?_)
          refine w_pure rfl (gd_yes 17 (by kernel_rfl) rfl (decide_eq_true (by omega))) (s_ixr (i := i)  rfl rfl (hch.below hS.below) (by omega) (by first | omega | (simp; done) | (simp; omega)) si_30 ?_)
          refine w_pure rfl (gd_yes 17 (by kernel_rfl) rfl (decide_eq_true (by omega))) (s_fldr  rfl (spot_el (hch.below hS.below) (fun _ => rfl) (by decide) (by first | omega | (simp; done) | (simp; omega))) fo_38_1 ?_)
          refine w_read rfl (gd_yes 17 (by kernel_rfl) rfl (decide_eq_true (by omega))) (s_ldfe (i := i) (off := 1) zCh  rfl vi_3 (hch.below hS.below) (fun _ => rfl) (by decide) (by first | omega | (simp; done) | (simp; omega)) rfl rfl (.inr rfl) ?_)
          refine w_pure rfl (gd_yes 17 (by kernel_rfl) rfl (decide_eq_true (by omega))) (s_gtr  rfl rfl ?_)
          refine w_pure rfl rfl (s_pick (vb rfl (decide_eq_true (by omega))) rfl ?_)
          refine w_end ?_
          repeat (with_reducible first | refine c_seq ?_ | refine c_block ?_ | refine c_skip ?_ | refine x_then ?_ | refine x_block ?_)
          rw [e1, e2]
          by_cases hp : pr cs i < pr cs j
          · refine c_yes rfl (decide_eq_true hp) ?_
            repeat (with_reducible first | refine c_seq ?_ | refine c_block ?_ | refine c_skip ?_ | refine x_then ?_ | refine x_block ?_)
            refine c_reg ?_
            refine l_pure rfl (s_move  h5 ?_)
            refine l_pure rfl (s_sub  rfl rfl (IntWalk.i64_in _ (by omega)) ?_)
            refine l_pure rfl (s_asg  rfl ?_)
            refine l_nil ?_
            repeat (with_reducible first | refine c_seq ?_ | refine c_block ?_ | refine c_skip ?_ | refine x_then ?_ | refine x_block ?_)
            refine ⟨k - 1, _, rfl, ⟨by omega, fun y hy => ?_, by assumption, by assumption, by assumption, vi rfl (by omega), hS⟩, by omega⟩
            rw [hcons] at hy
            rcases List.mem_cons.1 hy with rfl | hy
            · exact decide_eq_true hp
            · exact hB y hy
          · refine c_no rfl (decide_eq_false hp) ?_
            repeat (with_reducible first | refine c_seq ?_ | refine c_block ?_ | refine c_skip ?_ | refine x_then ?_ | refine x_block ?_)
            refine c_exit ?_
            repeat (with_reducible first | refine x_then_exit ?_ | refine x_block_exit ?_ | refine x_block_pass rfl ?_)
            repeat (with_reducible first | refine c_seq ?_ | refine c_block ?_ | refine c_skip ?_ | refine x_then ?_ | refine x_block ?_)
            refine ⟨_, rfl, by assumption, by assumption, by assumption, ⟨k, by assumption, hk, hB, fun y hy => ?_⟩, hS⟩
            have htk := take_succ' S (k - 1) 0 (by omega)
            rw [show k - 1 + 1 = k by omega, ← hj] at htk
            rw [htk, List.getLast?_append] at hy
            simp only [List.getLast?_singleton, Option.some_or, Option.some.injEq] at hy
            rw [← hy]
            exact decide_eq_false hp
        · repeat (with_reducible first | refine c_seq ?_ | refine c_block ?_ | refine c_skip ?_ | refine x_then ?_ | refine x_block ?_)
          refine c_draw [(0, .pure), (1, .pure), (2, .pure), (3, .pure), (4, .read), (5, .pure), (6, .pure), (7, .pure), (8, .pure), (9, .read), (10, .pure), (11, .pure), (12, .read), (13, .pure), (14, .read), (15, .pure), (16, .pure), (17, .pure), (18, .read), (19, .pure), (20, .pure)] (by kernel_rfl) (by kernel_rfl) hS ?_
          intro wz3 hS hBz3
          refine w_pure rfl rfl (s_move  h5 ?_)
          refine w_pure rfl rfl (s_gtr  rfl rfl ?_)
          refine w_pure rfl rfl (s_move  rfl ?_)
          refine w_no rfl (gno_yes 17 (by kernel_rfl) rfl (decide_eq_false (by omega))) ?_
          refine w_no rfl (gno_yes 17 (by kernel_rfl) rfl (decide_eq_false (by omega))) ?_
          refine w_no rfl (gno_yes 17 (by kernel_rfl) rfl (decide_eq_false (by omega))) ?_
          refine w_no rfl (gno_yes 17 (by kernel_rfl) rfl (decide_eq_false (by omega))) ?_
          refine w_no rfl (gno_yes 17 (by kernel_rfl) rfl (decide_eq_false (by omega))) ?_
          refine w_no rfl (gno_yes 17 (by kernel_rfl) rfl (decide_eq_false (by omega))) ?_
          refine w_no rfl (gno_yes 17 (by kernel_rfl) rfl (decide_eq_false (by omega))) ?_
          refine w_no rfl (gno_yes 17 (by kernel_rfl) rfl (decide_eq_false (by omega))) ?_
          refine w_no rfl (gno_yes 17 (by kernel_rfl) rfl (decide_eq_false (by omega))) ?_
          refine w_no rfl (gno_yes 17 (by kernel_rfl) rfl (decide_eq_false (by omega))) ?_
          refine w_no rfl (gno_yes 17 (by kernel_rfl) rfl (decide_eq_false (by omega))) ?_
          refine w_no rfl (gno_yes 17 (by kernel_rfl) rfl (decide_eq_false (by omega))) ?_
          refine w_no rfl (gno_yes 17 (by kernel_rfl) rfl (decide_eq_false (by omega))) ?_
          refine w_no rfl (gno_yes 17 (by kernel_rfl) rfl (decide_eq_false (by omega))) ?_
          refine w_no rfl (gno_yes 17 (by kernel_rfl) rfl (decide_eq_false (by omega))) ?_
          refine w_no rfl (gno_yes 17 (by kernel_rfl) rfl (decide_eq_false (by omega))) ?_
          refine w_no rfl (gno_yes 17 (by kernel_rfl) rfl (decide_eq_false (by omega))) ?_
          refine w_pure rfl rfl (s_pick (vb rfl (decide_eq_false (by omega))) rfl ?_)
          refine w_end ?_
          repeat (with_reducible first | refine c_seq ?_ | refine c_block ?_ | refine c_skip ?_ | refine x_then ?_ | refine x_block ?_)
          refine c_no rfl (rfl) ?_
          repeat (with_reducible first | refine c_seq ?_ | refine c_block ?_ | refine c_skip ?_ | refine x_then ?_ | refine x_block ?_)
          refine c_exit ?_
          repeat (with_reducible first | refine x_then_exit ?_ | refine x_block_exit ?_ | refine x_block_pass rfl ?_)
          repeat (with_reducible first | refine c_seq ?_ | refine c_block ?_ | refine c_skip ?_ | refine x_then ?_ | refine x_block ?_)
          obtain rfl : k = 0 := by omega
          exact ⟨_, rfl, by assumption, by assumption, by assumption, ⟨0, by assumption, Nat.zero_le _, hB, fun y hy => (by simp at hy)⟩, hS⟩
      clear hS h1 h4 h3
      rintro ρ w3 ⟨h1, h4, h3, ⟨k, h5, hk, hB, hA⟩, hS⟩
      have hr := hG.sl hS enI_len
      have hsA : ∀ w', Sl enI 1 w' vq (zI S) → Sl enI 1 w' (slsub vq 1 0 k) (zI (S.take k)) := fun w' h => by
        have h1 := h.sub enI_len (by decide) (lo := 0) (hi := k) (Nat.zero_le _) (by omega)
        rw [List.drop_zero, Nat.sub_zero, zI_take] at h1
        exact h1
      have hsB : ∀ w', Sl enI 1 w' vq (zI S) → Sl enI 1 w' (slsub vq 1 k (zI S).length) (zI (S.drop k)) := fun w' h => by
        have h1 := h.sub enI_len (by decide) (lo := k) (hi := (zI S).length) (by omega) (Nat.le_refl _)
        rw [List.take_of_length_le (by rw [List.length_drop]; exact Nat.le_refl _)] at h1
        unfold zI at h1 ⊢
        rw [← List.map_drop] at h1
        exact h1
      have hta := zI_len (S.take k)
      have htb := zI_len (S.drop k)
      rw [List.length_take] at hta
      rw [List.length_drop] at htb
      have hins : zI (S.take k) ++ [(i : Int)] ++ zI (S.drop k) = zI (isort (lower cs) (List.range (i + 1))) := by
        have h := insAt_eq hB hA
        rw [List.take_append_drop] at h
        rw [List.range_succ, isort_snoc, ← hSe, h]
        unfold zI
        rw [List.map_append, List.map_cons, List.append_assoc]
        rfl
      repeat (with_reducible first | refine c_seq ?_ | refine c_block ?_ | refine c_skip ?_ | refine x_then ?_ | refine x_block ?_)
      refine c_all 12 [(0, .pure), (1, .pure), (2, .pure), (3, .grow), (4, .pure), (5, .grow), (6, .free), (7, .pure), (8, .pure), (9, .pure), (10, .free), (11, .pure)] (by kernel_rfl) (by kernel_rfl) hS ?_
      intro wz4 hS hBz4
      refine z_pure (i := 0) (U' := [(1, .pure), (2, .pure), (3, .grow), (4, .pure), (5, .grow), (6, .free), (7, .pure), (8, .pure), (9, .pure), (10, .free), (11, .pure)]) (by kernel_rfl) (by kernel_rfl) rfl rfl (s_move  h3 ?_)
      refine z_pure (i := 1) (U' := [(2, .pure), (3, .grow), (4, .pure), (5, .grow), (6, .free), (7, .pure), (8, .pure), (9, .pure), (10, .free), (11, .pure)]) (by kernel_rfl) (by kernel_rfl) rfl rfl (s_move  h5 ?_)
      refine z_pure (i := 2) (U' := [(3, .grow), (4, .pure), (5, .grow), (6, .free), (7, .pure), (8, .pure), (9, .pure), (10, .free), (11, .pure)]) (by kernel_rfl) (by kernel_rfl) rfl rfl (s_subrh  rfl rfl hr rfl (by omega) si_63 ?_)
      refine z_pure (i := 4) (U' := [(3, .grow), (5, .grow), (6, .free), (7, .pure), (8, .pure), (9, .pure), (10, .free), (11, .pure)]) (by kernel_rfl) (by kernel_rfl) rfl rfl (s_move  h4 ?_)
      refine z_pure (i := 7) (U' := [(3, .grow), (5, .grow), (6, .free), (8, .pure), (9, .pure), (10, .free), (11, .pure)]) (by kernel_rfl) (by kernel_rfl) rfl rfl (s_move  h3 ?_)
      refine z_pure (i := 8) (U' := [(3, .grow), (5, .grow), (6, .free), (9, .pure), (10, .free), (11, .pure)]) (by kernel_rfl) (by kernel_rfl) rfl rfl (s_move  h5 ?_)
      refine z_pure (i := 9) (U' := [(3, .grow), (5, .grow), (6, .free), (10, .free), (11, .pure)]) (by kernel_rfl) (by kernel_rfl) rfl rfl (s_subrl  rfl rfl hr rfl (by omega) si_63 ?_)
      refine z_two (x := (3, .grow)) (y := (5, .grow)) (U' := [(5, .grow), (6, .free), (10, .free), (11, .pure)]) (U'' := [(3, .grow), (6, .free), (10, .free), (11, .pure)]) (by kernel_rfl) (by kernel_rfl) (by kernel_rfl) ?_ ?_
      · refine z_grow rfl rfl (s_appn  rfl rfl si_63 (by decide) hS (hsA _ (hG.sl hS enI_len)) enI_len (enI_one _) (by first | omega | (simp only [List.length_cons, List.length_nil]; omega)) (by first | omega | (simp only [List.length_cons, List.length_nil]; omega)) ?_)
        intro va5 La5 wa5 hGa hS hBa5
        refine ⟨hBa5, ?_⟩
        refine z_one (x := (5, .grow)) (U' := [(6, .free), (10, .free), (11, .pure)]) (by kernel_rfl) (by kernel_rfl) ?_
        refine z_grow rfl rfl (s_bsl (vs := [.int .i64 (i : Int)])  rfl si_63 rfl (by decide) (by decide) (by decide) (by simp [Value.cells]) rfl hS ?_)
        intro bx wz6 hS hBz6
        refine ⟨hBz6, ?_⟩
        refine z_one (x := (6, .free)) (U' := [(10, .free), (11, .pure)]) (by kernel_rfl) (by kernel_rfl) ?_
        refine z_free rfl rfl (s_appl [(i : Int)]  rfl rfl si_63 (by decide) hGa hS rfl rfl enI_len (enI_one [(i : Int)]) (by first | omega | (simp only [List.length_cons, List.length_nil]; omega)) (by first | omega | (simp only [List.length_cons, List.length_nil]; omega)) ?_)
        intro va7 La7 wa7 hGa hS hga7
        refine z_one (x := (10, .free)) (U' := [(11, .pure)]) (by kernel_rfl) (by kernel_rfl) ?_
        refine z_free rfl rfl (s_appc  rfl rfl si_63 (by decide) hGa hS (hsB _ (hG.sl (hS.perm (by rw [List.append_assoc, List.append_assoc]; exact List.Perm.append_left _ List.perm_append_comm)) enI_len)) enI_len (enI_one _) (by rw [List.length_append, List.length_singleton]; omega) (by rw [List.length_append, List.length_singleton]; omega) ?_)
        intro va8 La8 wa8 hG hS hga8 hgu8
        refine z_pure (i := 11) (U' := []) (by kernel_rfl) (by kernel_rfl) rfl rfl (s_asg  rfl ?_)
        refine z_end ?_
        repeat (with_reducible first | refine c_seq ?_ | refine c_block ?_ | refine c_skip ?_ | refine x_then ?_ | refine x_block ?_)
        rw [hins] at hG
        repeat (with_reducible first | refine c_seq ?_ | refine c_block ?_ | refine c_skip ?_ | refine x_then ?_ | refine x_block ?_)
        refine c_reg ?_
        refine l_pure rfl (s_move  h4 ?_)
        refine l_pure rfl (s_add  rfl rfl (IntWalk.i64_in _ (by omega)) ?_)
        refine l_pure rfl (s_asg  rfl ?_)
        refine l_nil ?_
        repeat (with_reducible first | refine c_seq ?_ | refine c_block ?_ | refine c_skip ?_ | refine x_then ?_ | refine x_block ?_)
        exact ⟨i + 1, _, rfl, ⟨hlt, by assumption, vi rfl (by omega), ⟨_, _, rfl, hG, hS.drop (by rw [List.append_assoc]; exact List.Sublist.append_left (List.sublist_append_right _ _) _)⟩⟩, by omega⟩
      · refine z_grow rfl rfl (s_bsl (vs := [.int .i64 (i : Int)])  rfl si_63 rfl (by decide) (by decide) (by decide) (by simp [Value.cells]) rfl hS ?_)
        intro bx wz9 hS hBz9
        refine ⟨hBz9, ?_⟩
        refine z_one (x := (3, .grow)) (U' := [(6, .free), (10, .free), (11, .pure)]) (by kernel_rfl) (by kernel_rfl) ?_
        refine z_grow rfl rfl (s_appn  rfl rfl si_63 (by decide) hS (hsA _ (hG.sl (H := [_, _]) hS enI_len)) enI_len (enI_one _) (by first | omega | (simp only [List.length_cons, List.length_nil]; omega)) (by first | omega | (simp only [List.length_cons, List.length_nil]; omega)) ?_)
        intro va10 La10 wa10 hGa hS hBa10
        refine ⟨hBa10, ?_⟩
        refine z_one (x := (6, .free)) (U' := [(10, .free), (11, .pure)]) (by kernel_rfl) (by kernel_rfl) ?_
        refine z_free rfl rfl (s_appl [(i : Int)]  rfl rfl si_63 (by decide) hGa hS rfl rfl enI_len (enI_one [(i : Int)]) (by first | omega | (simp only [List.length_cons, List.length_nil]; omega)) (by first | omega | (simp only [List.length_cons, List.length_nil]; omega)) ?_)
        intro va11 La11 wa11 hGa hS hga11
        refine z_one (x := (10, .free)) (U' := [(11, .pure)]) (by kernel_rfl) (by kernel_rfl) ?_
        refine z_free rfl rfl (s_appc  rfl rfl si_63 (by decide) hGa hS (hsB _ (hG.sl (hS.perm (by rw [List.append_assoc, List.append_assoc]; exact List.Perm.append_left _ List.perm_append_comm)) enI_len)) enI_len (enI_one _) (by rw [List.length_append, List.length_singleton]; omega) (by rw [List.length_append, List.length_singleton]; omega) ?_)
        intro va12 La12 wa12 hG hS hga12 hgu12
        refine z_pure (i := 11) (U' := []) (by kernel_rfl) (by kernel_rfl) rfl rfl (s_asg  rfl ?_)
        refine z_end ?_
        repeat (with_reducible first | refine c_seq ?_ | refine c_block ?_ | refine c_skip ?_ | refine x_then ?_ | refine x_block ?_)
        rw [hins] at hG
        repeat (with_reducible first | refine c_seq ?_ | refine c_block ?_ | refine c_skip ?_ | refine x_then ?_ | refine x_block ?_)
        refine c_reg ?_
        refine l_pure rfl (s_move  h4 ?_)
        refine l_pure rfl (s_add  rfl rfl (IntWalk.i64_in _ (by omega)) ?_)
        refine l_pure rfl (s_asg  rfl ?_)
        refine l_nil ?_
        repeat (with_reducible first | refine c_seq ?_ | refine c_block ?_ | refine c_skip ?_ | refine x_then ?_ | refine x_block ?_)
        exact ⟨i + 1, _, rfl, ⟨hlt, by assumption, vi rfl (by omega), ⟨_, _, rfl, hG, hS.drop (by rw [List.append_assoc]; exact List.Sublist.append_left (List.sublist_append_right _ _) _)⟩⟩, by omega⟩
    · refine c_no rfl (decide_eq_false (by omega)) ?_
      repeat (with_reducible first | refine c_seq ?_ | refine c_block ?_ | refine c_skip ?_ | refine x_then ?_ | refine x_block ?_)
      refine c_exit ?_
      repeat (with_reducible first | refine x_then_exit ?_ | refine x_block_exit ?_ | refine x_block_pass rfl ?_)
      repeat (with_reducible first | refine c_seq ?_ | refine c_block ?_ | refine c_skip ?_ | refine x_then ?_ | refine x_block ?_)
      obtain rfl : i = cs.length := by omega
      exact ⟨_, rfl, vq, LO, h3, by rw [hSe] at hG; exact hG, hS⟩
  clear hS
  rintro ρ w2 ⟨vq, LO, h3, hG, hS⟩
  repeat (with_reducible first | refine c_seq ?_ | refine c_block ?_ | refine c_skip ?_ | refine x_then ?_ | refine x_block ?_)
  refine c_reg ?_
  refine l_pure rfl (s_move  h3 ?_)
  refine l_pure rfl (s_asg  rfl ?_)
  refine l_nil ?_
  repeat (with_reducible first | refine c_seq ?_ | refine c_block ?_ | refine c_skip ?_ | refine x_then ?_ | refine x_block ?_)
  refine c_ret ?_
  repeat (with_reducible first | refine x_then_ret ?_ | refine x_block_ret ?_)
  refine r_one rfl rfl ?_
  exact ⟨LO, hG, hS.drop (List.sublist_append_right _ _)⟩
end Go.Proofs.YtknccjbkacaelaaGreatDoor
namespace Go.Proofs.YtknccjbkacaelaaGreatDoor
open Go Go.RowKit Go.Sx
theorem perm3 {α : Type} (A B C : List α) : (A ++ B ++ C).Perm (A ++ C ++ B) := by
  rw [List.append_assoc, List.append_assoc]
  exact List.Perm.append_left _ List.perm_append_comm
theorem rFixed_ok (v : Value) (l : List RR) (w : World) (hv : Sl encR 3 w v l) (hl : RB MX l) (hn : l.length ≤ 1000000) :
    Ret Tryz.prog 28 #[v] w fun r w' => ∃ LO, Gl encR 29 3 r (tab l.length fun j => ofQ (owF l j)) LO ∧ St w w' LO := by
  have hmax := hv.maxLen
  have hS := St.init w
  refine enter Tryz.func28 rfl Tryz.ntmps28 rfl ?_
  repeat (with_reducible first | refine c_seq ?_ | refine c_block ?_ | refine c_skip ?_ | refine x_then ?_ | refine x_block ?_)
  refine c_reg ?_
  refine l_pure rfl (s_asg  rfl ?_)
  refine l_nil ?_
  repeat (with_reducible first | refine c_seq ?_ | refine c_block ?_ | refine c_skip ?_ | refine x_then ?_ | refine x_block ?_)
  refine c_reg ?_
  refine l_pure rfl (s_asg  rfl ?_)
  refine l_nil ?_
  repeat (with_reducible first | refine c_seq ?_ | refine c_block ?_ | refine c_skip ?_ | refine x_then ?_ | refine x_block ?_)
  refine c_reg ?_
  refine l_pure rfl (s_asg  rfl ?_)
  refine l_nil ?_
  repeat (with_reducible first | refine c_seq ?_ | refine c_block ?_ | refine c_skip ?_ | refine x_then ?_ | refine x_block ?_)
  refine c_loop (σ := Nat) (fun i ρ w' => i ≤ l.length ∧ ρ 0 = v ∧ ρ 4 = .int .i64 i ∧ ∃ sO LO, ρ 3 = sO ∧ Gl encR 29 3 sO (tab i fun j => ofQ (owF l j)) LO ∧ St w w' ([] ++ LO)) (fun i => l.length - i) 0
    ⟨Nat.zero_le _, rfl, rfl, ⟨_, [], rfl, Gl.nil _ _ _, hS⟩⟩ ?_
  clear hS
  rintro i ρ w2 ⟨hi, h0, h4, sO, LO, h3, hG, hS⟩
  have htl := tab_len i (fun j => ofQ (owF l j))
  repeat (with_reducible first | refine c_seq ?_ | refine c_block ?_ | refine c_skip ?_ | refine x_then ?_ | refine x_block ?_)
  refine c_reg ?_
  refine l_pure rfl (s_move  h4 ?_)
  refine l_pure rfl (s_move  h0 ?_)
  refine l_pure rfl (s_lenr  rfl (hv.below hS.below) ⟨_, Tryz.underlying24⟩ ?_)
  refine l_pure rfl (s_lss  rfl rfl ?_)
  refine l_nil ?_
  repeat (with_reducible first | refine c_seq ?_ | refine c_block ?_ | refine c_skip ?_ | refine x_then ?_ | refine x_block ?_)
  by_cases hlt : i < l.length
  · refine c_yes rfl (decide_eq_true (by omega)) ?_
    repeat (with_reducible first | refine c_seq ?_ | refine c_block ?_ | refine c_skip ?_ | refine x_then ?_ | refine x_block ?_)
    have hfix := fun w => rFix_ok (l.getD i zRR) w (hl _ (getD_mem l i zRR hlt))
    have e : fx (l.getD i zRR) = ofQ (owF l i) := rfl
    rw [e] at hfix
    repeat (with_reducible first | refine c_seq ?_ | refine c_block ?_ | refine c_skip ?_ | refine x_then ?_ | refine x_block ?_)
    refine c_reg ?_
    refine l_pure rfl (s_move  h3 ?_)
    refine l_pure rfl (s_move  h0 ?_)
    refine l_pure rfl (s_move  h4 ?_)
    refine l_pure rfl (s_ixr (i := i)  rfl rfl (hv.below hS.below) (by omega) (by first | omega | (simp; done) | (simp; omega)) si_24 ?_)
    refine l_read rfl (s_lde (i := i) zRR  rfl vi_29 (hv.below hS.below) (by first | omega | (simp; done) | (simp; omega)) rfl rfl (.inl rfl) ?_)
    refine l_heavy rfl (s_call Tryz.call31 rfl (hfix _) ?_)
    rintro _ wc1 ⟨rfl, hBc1⟩
    replace hS := hS.grow hBc1
    refine l_heavy rfl (s_bsl (vs := [aggR (ofQ (owF l i))])  rfl si_24 rfl (by decide) (by decide) (by decide) (by simp [Value.cells, aggR]) rfl hS ?_)
    intro bx wz2 hS hBz2
    refine l_heavy rfl (s_appl [ofQ (owF l i)]  rfl rfl si_24 (by decide) hG hS rfl rfl encR_len (encR_one [ofQ (owF l i)]) (by first | omega | (simp only [List.length_cons, List.length_nil]; omega)) (by first | omega | (simp only [List.length_cons, List.length_nil]; omega)) ?_)
    intro va3 La3 wa3 hG hS hga3
    refine l_pure rfl (s_asg  rfl ?_)
    refine l_nil ?_
    repeat (with_reducible first | refine c_seq ?_ | refine c_block ?_ | refine c_skip ?_ | refine x_then ?_ | refine x_block ?_)
    rw [← tab_succ] at hG
    repeat (with_reducible first | refine c_seq ?_ | refine c_block ?_ | refine c_skip ?_ | refine x_then ?_ | refine x_block ?_)
    refine c_reg ?_
    refine l_pure rfl (s_move  h4 ?_)
    refine l_pure rfl (s_add  rfl rfl (IntWalk.i64_in _ (by omega)) ?_)
    refine l_pure rfl (s_asg  rfl ?_)
    refine l_nil ?_
    repeat (with_reducible first | refine c_seq ?_ | refine c_block ?_ | refine c_skip ?_ | refine x_then ?_ | refine x_block ?_)
    exact ⟨i + 1, _, rfl, ⟨hlt, by assumption, vi rfl (by omega), ⟨_, _, rfl, hG, hS⟩⟩, by omega⟩
  · refine c_no rfl (decide_eq_false (by omega)) ?_
    repeat (with_reducible first | refine c_seq ?_ | refine c_block ?_ | refine c_skip ?_ | refine x_then ?_ | refine x_block ?_)
    refine c_exit ?_
    repeat (with_reducible first | refine x_then_exit ?_ | refine x_block_exit ?_ | refine x_block_pass rfl ?_)
    repeat (with_reducible first | refine c_seq ?_ | refine c_block ?_ | refine c_skip ?_ | refine x_then ?_ | refine x_block ?_)
    obtain rfl : i = l.length := by omega
    repeat (with_reducible first | refine c_seq ?_ | refine c_block ?_ | refine c_skip ?_ | refine x_then ?_ | refine x_block ?_)
    refine c_reg ?_
    refine l_pure rfl (s_move  h3 ?_)
    refine l_pure rfl (s_asg  rfl ?_)
    refine l_nil ?_
    repeat (with_reducible first | refine c_seq ?_ | refine c_block ?_ | refine c_skip ?_ | refine x_then ?_ | refine x_block ?_)
    refine c_ret ?_
    repeat (with_reducible first | refine x_then_ret ?_ | refine x_block_ret ?_)
    refine r_one rfl rfl ?_
    exact ⟨LO, hG, hS⟩
set_option maxHeartbeats 4000000 in
theorem rCapacities_ok (x : It) (vc vo : Value) (owed : List RR) (K : Nat) (w : World) (hch : Sl encCh 6 w vc x.charges) (ho : Sl encR 3 w vo owed) (hok : ChOk x.charges (owF owed) owed.length K) (hm : owed.length ≤ 1000000) (hoB : RB K owed) (hK : 20000 * K + 20000 ≤ MX) :
    Ret Tryz.prog 10 #[aggIt x vc, vo] w fun r w' => ∃ b, r = .slice (some ⟨b, 0, none⟩) x.charges.length x.charges.length ∧
      St w w' [(b, 29, (tab x.charges.length fun j => ofQ (kapQ x.charges (owF owed) j)).flatMap encR)] := by
  have hM : MX = 1099511627776 := rfl
  obtain ⟨cs, hcs⟩ : ∃ cs, cs = x.charges := ⟨_, rfl⟩
  have hord := fun (v : Value) w h h2 => rordered_ok x v w h h2
  rw [← hcs] at hch hok hord ⊢
  obtain ⟨ow, how⟩ : ∃ f, f = owF owed := ⟨_, rfl⟩
  obtain ⟨m, hme⟩ : ∃ m, m = owed.length := ⟨_, rfl⟩
  have hfx := fun (v : Value) w h => rFixed_ok v owed w h (RB_mono hoB (by omega)) hm
  rw [← how, ← hme] at hfx hok
  rw [← how]
  rw [← hme] at hm
  have hn8 := hok.n8
  obtain ⟨J, hJ⟩ : ∃ J, J = ordC cs := ⟨_, rfl⟩
  have hJl : J.length = cs.length := by rw [hJ]; exact ordC_len cs
  have hJm : ∀ i, i ∈ J ↔ i < cs.length := fun i => by rw [hJ]; exact ordC_mem
  have hzn : (zI J).length = J.length := zI_len J
  rw [← hJ] at hord
  obtain ⟨ac, cc, hvc, _, _, _⟩ := hch.form
  have hcb := fun k hk => kapS_bound hok (J := J) (fun i hi => (hJm i).1 hi) k hk
  have hS := St.init w
  refine enter Tryz.func10 rfl Tryz.ntmps10 rfl ?_
  repeat (with_reducible first | refine c_seq ?_ | refine c_block ?_ | refine c_skip ?_ | refine x_then ?_ | refine x_block ?_)
  refine c_reg ?_
  refine l_heavy rfl (s_box  rfl rfl hS ?_)
  intro b2 wz1 hS hBz1
  refine l_pure rfl (s_asg  rfl ?_)
  refine l_nil ?_
  repeat (with_reducible first | refine c_seq ?_ | refine c_block ?_ | refine c_skip ?_ | refine x_then ?_ | refine x_block ?_)
  replace hS : St w _ [(b2, 32, encIt (x, vc))] := hS
  repeat (with_reducible first | refine c_seq ?_ | refine c_block ?_ | refine c_skip ?_ | refine x_then ?_ | refine x_block ?_)
  refine c_reg ?_
  refine l_pure rfl (s_move  rfl ?_)
  refine l_heavy rfl (s_call Tryz.call28 rfl (hfx vo _ (ho.below hS.below)) ?_)
  rintro r w1 ⟨LO, hG, hSO⟩
  replace hS : St w w1 ([(b2, 32, encIt (x, vc))] ++ LO) := (hS.join hSO).perm List.perm_append_comm
  refine l_pure rfl (s_asg  rfl ?_)
  refine l_nil ?_
  repeat (with_reducible first | refine c_seq ?_ | refine c_block ?_ | refine c_skip ?_ | refine x_then ?_ | refine x_block ?_)
  refine c_forget (fun ρ' => ρ' 2 = .pointer (some ⟨b2, 0, none⟩) ∧ ρ' 5 = r ∧ True) ⟨rfl, rfl, trivial⟩ ?_
  rintro ρk2 ⟨hk2_2, hk2_5, -⟩
  repeat (with_reducible first | refine c_seq ?_ | refine c_block ?_ | refine c_skip ?_ | refine x_then ?_ | refine x_block ?_)
  refine c_reg ?_
  refine l_pure rfl (s_fld  hk2_2 fo_32_2 ?_)
  refine l_read rfl (s_ldo (k := 0)  rfl vi_30 hS rfl rfl rfl (.inr rfl) ?_)
  refine l_pure rfl (s_lenr  rfl (hch.below hS.below) ⟨_, Tryz.underlying30⟩ ?_)
  refine l_heavy rfl (s_makeE (enc := encR) (n := cs.length) zRR  rfl rfl si_24 rfl (by omega) (by omega) (by omega) (by omega) hS ?_)
  intro b6 wz3 hS hBz3
  refine l_pure rfl (s_asg  rfl ?_)
  refine l_nil ?_
  repeat (with_reducible first | refine c_seq ?_ | refine c_block ?_ | refine c_skip ?_ | refine x_then ?_ | refine x_block ?_)
  rw [tab_rep] at hS
  have e0 : (tab cs.length fun _ => zRR) = tab cs.length fun j => ofQ ((kapS cs ow (J.take 0)).cap j) := tab_congr fun i _ => ofQ_zero.symm
  rw [e0] at hS
  replace hS : St w _ ([(b6, 29, (tab cs.length fun j => ofQ ((kapS cs ow (J.take 0)).cap j)).flatMap encR), (b2, 32, encIt (x, vc))] ++ LO) := hS
  repeat (with_reducible first | refine c_seq ?_ | refine c_block ?_ | refine c_skip ?_ | refine x_then ?_ | refine x_block ?_)
  refine c_forget (fun ρ' => ρ' 2 = .pointer (some ⟨b2, 0, none⟩) ∧ ρ' 5 = r ∧ ρ' 6 = .slice (some ⟨b6, 0, none⟩) cs.length cs.length ∧ True) ⟨hk2_2, hk2_5, rfl, trivial⟩ ?_
  rintro ρk4 ⟨hk4_2, hk4_5, hk4_6, -⟩
  repeat (with_reducible first | refine c_seq ?_ | refine c_block ?_ | refine c_skip ?_ | refine x_then ?_ | refine x_block ?_)
  refine c_reg ?_
  refine l_read rfl (s_ldo (k := 1)  hk4_2 vi_32 hS rfl rfl rfl (.inl rfl) ?_)
  refine l_heavy rfl (s_call Tryz.call29 rfl (hord vc _ (hch.below hS.below) (by omega)) ?_)
  rintro vq w2 ⟨LQ, hQ, hSQ⟩
  replace hS : St w w2 ([(b6, 29, (tab cs.length fun j => ofQ ((kapS cs ow (J.take 0)).cap j)).flatMap encR), (b2, 32, encIt (x, vc))] ++ LO ++ LQ) := (hS.join hSQ).perm List.perm_append_comm
  refine l_pure rfl (s_asg  rfl ?_)
  refine l_nil ?_
  repeat (with_reducible first | refine c_seq ?_ | refine c_block ?_ | refine c_skip ?_ | refine x_then ?_ | refine x_block ?_)
  refine c_forget (fun ρ' => ρ' 2 = .pointer (some ⟨b2, 0, none⟩) ∧ ρ' 5 = r ∧ ρ' 6 = .slice (some ⟨b6, 0, none⟩) cs.length cs.length ∧ ρ' 7 = vq ∧ True) ⟨hk4_2, hk4_5, hk4_6, rfl, trivial⟩ ?_
  rintro ρk5 ⟨hk5_2, hk5_5, hk5_6, hk5_7, -⟩
  repeat (with_reducible first | refine c_seq ?_ | refine c_block ?_ | refine c_skip ?_ | refine x_then ?_ | refine x_block ?_)
  refine c_reg ?_
  refine l_pure rfl (s_asg  rfl ?_)
  refine l_nil ?_
  repeat (with_reducible first | refine c_seq ?_ | refine c_skip ?_ | refine x_then ?_ | refine x_block ?_)
  refine c_cut1 (fun ρ w' => ρ 6 = .slice (some ⟨b6, 0, none⟩) cs.length cs.length ∧ St w w' [(b6, 29, (tab cs.length fun j => ofQ (kapQ cs ow j)).flatMap encR)]) ?_ ?_
  · repeat (with_reducible first | refine c_seq ?_ | refine c_block ?_ | refine c_skip ?_ | refine x_then ?_ | refine x_block ?_)
    refine c_loop (σ := Nat) (fun t ρ w' => t ≤ J.length ∧ ρ 2 = .pointer (some ⟨b2, 0, none⟩) ∧ ρ 5 = r ∧ ρ 6 = .slice (some ⟨b6, 0, none⟩) cs.length cs.length ∧ ρ 7 = vq ∧ ρ 8 = .int .i64 t ∧
        ∃ LO, Gl encR 29 3 r (tab m fun j => ofQ ((kapS cs ow (J.take t)).op j)) LO ∧ St w w' ([(b6, 29, (tab cs.length fun j => ofQ ((kapS cs ow (J.take t)).cap j)).flatMap encR), (b2, 32, encIt (x, vc))] ++ LO ++ LQ)) (fun t => J.length - t) 0
      ⟨Nat.zero_le _, by assumption, by assumption, by assumption, by assumption, rfl, LO, hG, hS⟩ ?_
    clear hS hG
    rintro t ρ w3 ⟨ht, h2, h5, h6, h7, h8, LO, hG, hS⟩
    repeat (with_reducible first | refine c_seq ?_ | refine c_block ?_ | refine c_skip ?_ | refine x_then ?_ | refine x_block ?_)
    refine c_reg ?_
    refine l_pure rfl (s_move  h8 ?_)
    refine l_pure rfl (s_move  h7 ?_)
    refine l_pure rfl (s_lenr  rfl (hQ.sl hS enI_len) ⟨_, Tryz.underlying63⟩ ?_)
    refine l_pure rfl (s_lss  rfl rfl ?_)
    refine l_nil ?_
    repeat (with_reducible first | refine c_seq ?_ | refine c_block ?_ | refine c_skip ?_ | refine x_then ?_ | refine x_block ?_)
    by_cases hlt : t < J.length
    · refine c_yes rfl (decide_eq_true (by omega)) ?_
      repeat (with_reducible first | refine c_seq ?_ | refine c_block ?_ | refine c_skip ?_ | refine x_then ?_ | refine x_block ?_)
      have hzg := zI_get J hlt
      obtain ⟨i, hi⟩ : ∃ i, i = J.getD t 0 := ⟨_, rfl⟩
      have hiJ : i ∈ J := by rw [hi]; exact getD_mem J t 0 hlt
      have hin := (hJm i).1 hiJ
      have htk := take_succ' J t 0 hlt
      rw [← hi] at hzg htk
      obtain ⟨c, hc0⟩ : ∃ c, c = cs.getD i zCh := ⟨_, rfl⟩
      obtain ⟨k, hk0⟩ : ∃ k, k = clm cs i := ⟨_, rfl⟩
      obtain ⟨hkm, hck⟩ := hok.cl hin
      rw [← hk0] at hkm hck
      replace hck : c.claim = (k : Int) := by rw [hc0]; exact hck
      have hcl := hok.lB i hin
      replace hcl : Lr c.limit ≤ K := by rw [hc0]; exact hcl
      have hLl := L_toQ c.limit
      obtain ⟨S, hSe⟩ : ∃ S, S = kapS cs ow (J.take t) := ⟨_, rfl⟩
      obtain ⟨cb1, cb2⟩ := hcb t (by omega)
      obtain ⟨db1, db2⟩ := hcb (t + 1) (by omega)
      have bt : t * (K + 1) ≤ 7 * (K + 1) := Nat.mul_le_mul_right _ (by omega)
      have bt1 : (t + 1) * (K + 1) ≤ 8 * (K + 1) := Nat.mul_le_mul_right _ (by omega)
      rw [htk, kapS_snoc] at db1 db2
      rw [← hSe] at hG hS cb1 cb2 db1 db2
      obtain ⟨c1, c2, c3⟩ := cb1 k hkm
      obtain ⟨rm, hrm⟩ : ∃ q, q = roomQ c (S.op k) := ⟨_, rfl⟩
      have hrm2 : roomQ (gC cs i) (S.op (clm cs i)) = rm := by rw [hrm, hc0, hk0]; rfl
      have hop : ∀ j, (cstp cs S i).op j = if j = k then S.op k - rm else S.op j := fun j => by
        show (if j = clm cs i then _ else _) = _
        rw [hrm2, ← hk0]
        split
        · next e => rw [e]
        · rfl
      have hcap : ∀ j, (cstp cs S i).cap j = if j = i then rm else S.cap j := fun j => by
        show (if j = i then _ else _) = _
        rw [hrm2]
      have hrm3 : rm = if c.lim = true then minQ (S.op k) (toQ c.limit) else S.op k := by rw [hrm, roomQ_of c1]
      have lrm : L rm ≤ 9 * K + 9 := by
        have := (db2 i).2
        rw [hcap, if_pos rfl] at this
        omega
      have htl : (tab cs.length fun j => ofQ (S.cap j)).length = cs.length := tab_len _ _
      have htm : (tab m fun j => ofQ (S.op j)).length = m := tab_len _ _
      have hgk : (tab m fun j => ofQ (S.op j)).getD k zRR = ofQ (S.op k) := tab_get _ _ hkm
      have hfix := fun w => rFix_ok c.limit w (by omega)
      unfold fx at hfix
      have hles := fun w => rLesser_ok (S.op k) (toQ c.limit) w (by omega)
      have hmin := fun w => rMinus_ok (S.op k) rm w (by omega)
      repeat (with_reducible first | refine c_seq ?_ | refine c_block ?_ | refine c_skip ?_ | refine x_then ?_ | refine x_block ?_)
      refine c_draw [(0, .pure), (1, .read), (2, .pure), (3, .pure), (4, .pure), (5, .read), (6, .pure), (7, .read), (8, .grow), (9, .free)] (by kernel_rfl) (by kernel_rfl) hS ?_
      intro wz6 hS hBz6
      refine w_pure rfl rfl (s_fld  h2 fo_32_2 ?_)
      refine w_read rfl rfl (s_ldo (k := 1)  rfl vi_30 hS rfl rfl rfl (.inr rfl) ?_)
      refine w_pure rfl rfl (s_move  h7 ?_)
      refine w_pure rfl rfl (s_move  h8 ?_)
      refine w_pure rfl rfl (s_ixr (i := t)  rfl rfl (hQ.sl hS enI_len) (by omega) (by first | omega | (simp; done) | (simp; omega)) si_63 ?_)
      refine w_read rfl rfl (s_lde (i := t) 0  rfl vi_3 (hQ.sl hS enI_len) (by first | omega | (simp; done) | (simp; omega)) rfl rfl (.inr rfl) ?_)
      refine w_pure rfl rfl (s_ixr (i := i)  rfl rfl (hch.below hS.below) hzg (by first | omega | (simp; done) | (simp; omega)) si_30 ?_)
      refine w_read rfl rfl (s_lde (i := i) zCh  rfl vi_38 (hch.below hS.below) (by first | omega | (simp; done) | (simp; omega)) rfl rfl (.inl rfl) ?_)
      refine w_grow rfl rfl (s_alloc  vi_38 hS ?_)
      intro b9 wz7 hS hBz7
      refine ⟨hBz7, ?_⟩
      refine w_free rfl rfl (s_sta (k := 0)  rfl rfl vi_38 hS rfl rfl rfl (Nat.le_of_ble_eq_true rfl) rfl ?_)
      intro wz8 hS
      refine w_end ?_
      repeat (with_reducible first | refine c_seq ?_ | refine c_block ?_ | refine c_skip ?_ | refine x_then ?_ | refine x_block ?_)
      rw [← hc0] at hS
      replace hS : St w _ ([(b9, 38, encCh c), (b6, 29, (tab cs.length fun j => ofQ (S.cap j)).flatMap encR), (b2, 32, encIt (x, vc))] ++ LO ++ LQ) := hS
      repeat (with_reducible first | refine c_seq ?_ | refine c_block ?_ | refine c_skip ?_ | refine x_then ?_ | refine x_block ?_)
      refine c_forget (fun ρ' => ρ' 2 = .pointer (some ⟨b2, 0, none⟩) ∧ ρ' 5 = r ∧ ρ' 6 = .slice (some ⟨b6, 0, none⟩) cs.length cs.length ∧ ρ' 7 = vq ∧ ρ' 8 = .int .i64 t ∧ ρ' 9 = .pointer (some ⟨b9, 0, none⟩) ∧ True) ⟨h2, h5, h6, h7, h8, rfl, trivial⟩ ?_
      rintro ρk9 ⟨hk9_2, hk9_5, hk9_6, hk9_7, hk9_8, hk9_9, -⟩
      repeat (with_reducible first | refine c_seq ?_ | refine c_block ?_ | refine c_skip ?_ | refine x_then ?_ | refine x_block ?_)
      refine c_reg ?_
      refine l_pure rfl (s_move  hk9_5 ?_)
      refine l_pure rfl (s_fld  hk9_9 fo_38_0 ?_)
      refine l_read rfl (s_ldo (k := 0)  rfl vi_3 hS rfl rfl rfl (.inr rfl) ?_)
      refine l_pure rfl (s_ixr (i := k)  rfl rfl (hG.sl (hS.perm (perm3 _ _ _)) encR_len) (by omega) (by first | omega | (simp; done) | (simp; omega)) si_24 ?_)
      refine l_read rfl (s_lde (i := k) zRR  rfl vi_29 (hG.sl (hS.perm (perm3 _ _ _)) encR_len) (by first | omega | (simp; done) | (simp; omega)) rfl rfl (.inl rfl) ?_)
      refine l_heavy rfl (s_alloc  vi_29 hS ?_)
      intro b10 wz10 hS hBz10
      refine l_heavy rfl (s_sta (k := 0)  rfl rfl vi_29 hS rfl rfl rfl (Nat.le_of_ble_eq_true rfl) rfl ?_)
      intro wz11 hS
      refine l_nil ?_
      repeat (with_reducible first | refine c_seq ?_ | refine c_block ?_ | refine c_skip ?_ | refine x_then ?_ | refine x_block ?_)
      rw [hgk] at hS
      replace hS : St w _ ([(b10, 29, encR (ofQ (S.op k))), (b9, 38, encCh c), (b6, 29, (tab cs.length fun j => ofQ (S.cap j)).flatMap encR), (b2, 32, encIt (x, vc))] ++ LO ++ LQ) := hS
      repeat (with_reducible first | refine c_seq ?_ | refine c_block ?_ | refine c_skip ?_ | refine x_then ?_ | refine x_block ?_)
      refine c_forget (fun ρ' => ρ' 2 = .pointer (some ⟨b2, 0, none⟩) ∧ ρ' 5 = r ∧ ρ' 6 = .slice (some ⟨b6, 0, none⟩) cs.length cs.length ∧ ρ' 7 = vq ∧ ρ' 8 = .int .i64 t ∧ ρ' 9 = .pointer (some ⟨b9, 0, none⟩) ∧ ρ' 10 = .pointer (some ⟨b10, 0, none⟩) ∧ True) ⟨hk9_2, hk9_5, hk9_6, hk9_7, hk9_8, hk9_9, rfl, trivial⟩ ?_
      rintro ρk12 ⟨hk12_2, hk12_5, hk12_6, hk12_7, hk12_8, hk12_9, hk12_10, -⟩
      repeat (with_reducible first | refine c_seq ?_ | refine c_block ?_ | refine c_skip ?_ | refine x_then ?_ | refine x_block ?_)
      refine c_reg ?_
      refine l_pure rfl (s_fld  hk12_9 fo_38_2 ?_)
      refine l_read rfl (s_ldo (k := 1)  rfl vi_4 hS rfl rfl rfl (.inr rfl) ?_)
      refine l_nil ?_
      repeat (with_reducible first | refine c_seq ?_ | refine c_skip ?_ | refine x_then ?_ | refine x_block ?_)
      refine c_cut1 (fun ρ w' => ρ 2 = .pointer (some ⟨b2, 0, none⟩) ∧ ρ 5 = r ∧ ρ 6 = .slice (some ⟨b6, 0, none⟩) cs.length cs.length ∧ ρ 7 = vq ∧ ρ 8 = .int .i64 t ∧ ρ 9 = .pointer (some ⟨b9, 0, none⟩) ∧ ρ 10 = .pointer (some ⟨b10, 0, none⟩) ∧ St w w' ([(b10, 29, encR (ofQ rm)), (b9, 38, encCh c), (b6, 29, (tab cs.length fun j => ofQ (S.cap j)).flatMap encR), (b2, 32, encIt (x, vc))] ++ LO ++ LQ)) ?_ ?_
      · repeat (with_reducible first | refine c_seq ?_ | refine c_block ?_ | refine c_skip ?_ | refine x_then ?_ | refine x_block ?_)
        cases hlm : c.lim with
        | true =>
          rw [if_pos hlm] at hrm3
          rw [← hrm3] at hles
          refine c_yes rfl (hlm) ?_
          repeat (with_reducible first | refine c_seq ?_ | refine c_block ?_ | refine c_skip ?_ | refine x_then ?_ | refine x_block ?_)
          refine c_draw [(0, .read), (1, .pure), (2, .read), (3, .grow), (4, .grow), (5, .free)] (by kernel_rfl) (by kernel_rfl) hS ?_
          intro wz13 hS hBz13
          refine w_read rfl rfl (s_ldo (k := 0)  hk12_10 vi_29 hS rfl rfl rfl (.inl rfl) ?_)
          refine w_pure rfl rfl (s_fld  hk12_9 fo_38_3 ?_)
          refine w_read rfl rfl (s_ldo (k := 1)  rfl vi_29 hS rfl rfl rfl (.inl rfl) ?_)
          refine w_grow rfl rfl (s_call Tryz.call31 rfl (hfix _) ?_)
          rintro _ wc14 ⟨rfl, hBc14⟩
          replace hS := hS.grow hBc14
          refine ⟨hBc14, ?_⟩
          refine w_grow rfl rfl (s_call Tryz.call30 rfl (hles _) ?_)
          rintro _ wc15 ⟨rfl, hBc15⟩
          replace hS := hS.grow hBc15
          refine ⟨hBc15, ?_⟩
          refine w_free rfl rfl (s_sta (k := 0)  hk12_10 rfl vi_29 hS rfl rfl rfl (Nat.le_of_ble_eq_true rfl) rfl ?_)
          intro wz16 hS
          refine w_end ?_
          repeat (with_reducible first | refine c_seq ?_ | refine c_block ?_ | refine c_skip ?_ | refine x_then ?_ | refine x_block ?_)
          replace hS : St w _ ([(b10, 29, encR (ofQ rm)), (b9, 38, encCh c), (b6, 29, (tab cs.length fun j => ofQ (S.cap j)).flatMap encR), (b2, 32, encIt (x, vc))] ++ LO ++ LQ) := hS
          exact ⟨_, rfl, by assumption, by assumption, by assumption, by assumption, by assumption, by assumption, by assumption, hS⟩
        | false =>
          rw [if_neg (by rw [hlm]; decide)] at hrm3
          refine c_no rfl (hlm) ?_
          repeat (with_reducible first | refine c_seq ?_ | refine c_block ?_ | refine c_skip ?_ | refine x_then ?_ | refine x_block ?_)
          rw [← hrm3] at hS
          exact ⟨_, rfl, by assumption, by assumption, by assumption, by assumption, by assumption, by assumption, by assumption, hS⟩
      clear hS h2 h5 h6 h7 h8
      rintro ρ w4 ⟨h2, h5, h6, h7, h8, h9, h10, hS⟩
      repeat (with_reducible first | refine c_seq ?_ | refine c_block ?_ | refine c_skip ?_ | refine x_then ?_ | refine x_block ?_)
      refine c_draw [(0, .pure), (1, .pure), (2, .pure), (3, .pure), (4, .read), (5, .read), (6, .pure), (7, .free)] (by kernel_rfl) (by kernel_rfl) hS ?_
      intro wz17 hS hBz17
      refine w_pure rfl rfl (s_move  h6 ?_)
      refine w_pure rfl rfl (s_move  h7 ?_)
      refine w_pure rfl rfl (s_move  h8 ?_)
      refine w_pure rfl rfl (s_ixr (i := t)  rfl rfl (hQ.sl hS enI_len) (by omega) (by first | omega | (simp; done) | (simp; omega)) si_63 ?_)
      refine w_read rfl rfl (s_lde (i := t) 0  rfl vi_3 (hQ.sl hS enI_len) (by first | omega | (simp; done) | (simp; omega)) rfl rfl (.inr rfl) ?_)
      refine w_read rfl rfl (s_ldo (k := 0)  h10 vi_29 hS rfl rfl rfl (.inl rfl) ?_)
      refine w_pure rfl rfl (s_ixo (i := i)  rfl rfl hzg (by first | omega | (simp; done) | (simp; omega)) si_24 ?_)
      refine w_free rfl rfl (s_stE (k := 2) (i := i) (enc := encR) (ofQ rm) (fun _ => rfl)  rfl rfl vi_29 hS rfl (by first | omega | simp) (by first | omega | (simp; done) | (simp; omega)) rfl rfl ?_)
      intro wz18 hS
      refine w_end ?_
      repeat (with_reducible first | refine c_seq ?_ | refine c_block ?_ | refine c_skip ?_ | refine x_then ?_ | refine x_block ?_)
      replace hS : St w _ ([(b10, 29, encR (ofQ rm)), (b9, 38, encCh c), (b6, 29, ((tab cs.length fun j => ofQ (S.cap j)).set i (ofQ rm)).flatMap encR), (b2, 32, encIt (x, vc))] ++ LO ++ LQ) := hS
      rw [tab_setQ, tab_congr (g := fun j => ofQ ((cstp cs S i).cap j)) (fun j _ => by rw [hcap])] at hS
      repeat (with_reducible first | refine c_seq ?_ | refine c_block ?_ | refine c_skip ?_ | refine x_then ?_ | refine x_block ?_)
      refine c_forget (fun ρ' => ρ' 2 = .pointer (some ⟨b2, 0, none⟩) ∧ ρ' 5 = r ∧ ρ' 6 = .slice (some ⟨b6, 0, none⟩) cs.length cs.length ∧ ρ' 7 = vq ∧ ρ' 8 = .int .i64 t ∧ ρ' 9 = .pointer (some ⟨b9, 0, none⟩) ∧ ρ' 10 = .pointer (some ⟨b10, 0, none⟩) ∧ True) ⟨h2, h5, h6, h7, h8, h9, h10, trivial⟩ ?_
      rintro ρk19 ⟨hk19_2, hk19_5, hk19_6, hk19_7, hk19_8, hk19_9, hk19_10, -⟩
      repeat (with_reducible first | refine c_seq ?_ | refine c_block ?_ | refine c_skip ?_ | refine x_then ?_ | refine x_block ?_)
      refine c_draw [(0, .pure), (1, .pure), (2, .read), (3, .pure), (4, .pure), (5, .read), (6, .pure), (7, .read), (8, .read), (9, .grow), (10, .pure), (11, .free)] (by kernel_rfl) (by kernel_rfl) hS ?_
      intro wz20 hS hBz20
      refine w_pure rfl rfl (s_move  hk19_5 ?_)
      refine w_pure rfl rfl (s_fld  hk19_9 fo_38_0 ?_)
      refine w_read rfl rfl (s_ldo (k := 1)  rfl vi_3 hS rfl rfl rfl (.inr rfl) ?_)
      refine w_pure rfl rfl (s_move  hk19_5 ?_)
      refine w_pure rfl rfl (s_fld  hk19_9 fo_38_0 ?_)
      refine w_read rfl rfl (s_ldo (k := 1)  rfl vi_3 hS rfl rfl rfl (.inr rfl) ?_)
      refine w_pure rfl rfl (s_ixr (i := k)  rfl rfl (hG.sl (hS.perm (perm3 _ _ _)) encR_len) (by omega) (by first | omega | (simp; done) | (simp; omega)) si_24 ?_)
      refine w_read rfl rfl (s_lde (i := k) zRR  rfl vi_29 (hG.sl (hS.perm (perm3 _ _ _)) encR_len) (by first | omega | (simp; done) | (simp; omega)) rfl rfl (.inl rfl) ?_)
      refine w_read rfl rfl (s_ldo (k := 0)  hk19_10 vi_29 hS rfl rfl rfl (.inl rfl) ?_)
      rw [hgk]
      refine w_grow rfl rfl (s_call Tryz.call32 rfl (hmin _) ?_)
      rintro _ wc21 ⟨rfl, hBc21⟩
      replace hS := hS.grow hBc21
      refine ⟨hBc21, ?_⟩
      refine w_pure rfl rfl (s_ixr (i := k)  rfl rfl (hG.sl (hS.perm (perm3 _ _ _)) encR_len) (by omega) (by first | omega | (simp; done) | (simp; omega)) si_24 ?_)
      refine w_free rfl rfl (s_stG (i := k) (ofQ (S.op k - rm)) encR_len  rfl rfl vi_29 hG (hS.perm (perm3 _ _ _)) (by omega) rfl rfl ?_)
      intro wz22 hS
      refine w_end ?_
      repeat (with_reducible first | refine c_seq ?_ | refine c_block ?_ | refine c_skip ?_ | refine x_then ?_ | refine x_block ?_)
      obtain ⟨LO2, hG2, hS2⟩ := hS
      rw [tab_setQ, tab_congr (g := fun j => ofQ ((cstp cs S i).op j)) (fun j _ => by rw [hop])] at hG2
      replace hS2 := hS2.perm (perm3 _ _ _)
      repeat (with_reducible first | refine c_seq ?_ | refine c_block ?_ | refine c_skip ?_ | refine x_then ?_ | refine x_block ?_)
      refine c_reg ?_
      refine l_pure rfl (s_move  hk19_8 ?_)
      refine l_pure rfl (s_add  rfl rfl (IntWalk.i64_in _ (by omega)) ?_)
      refine l_pure rfl (s_asg  rfl ?_)
      refine l_nil ?_
      repeat (with_reducible first | refine c_seq ?_ | refine c_block ?_ | refine c_skip ?_ | refine x_then ?_ | refine x_block ?_)
      refine ⟨t + 1, _, rfl, ⟨hlt, by assumption, by assumption, by assumption, by assumption, vi rfl (by omega), LO2, ?_, ?_⟩, by omega⟩
      · rw [htk, kapS_snoc, ← hSe]; exact hG2
      · rw [htk, kapS_snoc, ← hSe]
        exact hS2.drop ((List.sublist_cons_self _ _).trans (List.sublist_cons_self _ _))
    · refine c_no rfl (decide_eq_false (by omega)) ?_
      repeat (with_reducible first | refine c_seq ?_ | refine c_block ?_ | refine c_skip ?_ | refine x_then ?_ | refine x_block ?_)
      refine c_exit ?_
      repeat (with_reducible first | refine x_then_exit ?_ | refine x_block_exit ?_ | refine x_block_pass rfl ?_)
      repeat (with_reducible first | refine c_seq ?_ | refine c_block ?_ | refine c_skip ?_ | refine x_then ?_ | refine x_block ?_)
      have e : J.take t = J := List.take_of_length_le (by omega)
      rw [e, hJ] at hS
      exact ⟨_, rfl, h6, hS.drop (List.Sublist.cons_cons _ (List.nil_sublist _))⟩
  clear hS
  rintro ρ w3 ⟨h6, hS⟩
  repeat (with_reducible first | refine c_seq ?_ | refine c_block ?_ | refine c_skip ?_ | refine x_then ?_ | refine x_block ?_)
  refine c_reg ?_
  refine l_pure rfl (s_move  h6 ?_)
  refine l_pure rfl (s_asg  rfl ?_)
  refine l_nil ?_
  repeat (with_reducible first | refine c_seq ?_ | refine c_block ?_ | refine c_skip ?_ | refine x_then ?_ | refine x_block ?_)
  refine c_ret ?_
  repeat (with_reducible first | refine x_then_ret ?_ | refine x_block_ret ?_)
  refine r_one rfl rfl ?_
  exact ⟨b6, rfl, hS⟩
end Go.Proofs.YtknccjbkacaelaaGreatDoor
namespace Go.Proofs.YtknccjbkacaelaaGreatDoor
open Go Go.RowKit Go.Sx
section
variable {cs : List Ch} {ow : Nat → Rat} {m K : Nat}
theorem filt_len (cs : List Ch) (p : Nat → Bool) (h : cs.length ≤ 8) : ((ordC cs).filter p).length ≤ 8 := by
  have h1 := List.length_filter_le p (ordC cs)
  rw [ordC_len] at h1
  omega
theorem sh_L (h : ChOk cs ow m K) {P : Rat} (hP : L P ≤ 2 * K + 1) (i : Nat) : L (shQ cs (kapQ cs ow) P i) ≤ 160 * K + 180 := by
  have h1 := (kap_bound h i).2
  have h2 := mon_L h hP (J := (ordC cs).filter fun j => decide (pr cs j < pr cs i)) (filt_len cs _ h.n8)
  have h3 := L_totS (q := kapQ cs ow) (J := (ordC cs).filter fun j => decide (pr cs j = pr cs i)) (K := 9 * K + 9) fun i _ => (kap_bound h i).2
  have h4 : ((ordC cs).filter fun j => decide (pr cs j = pr cs i)).length * (9 * K + 9 + 1) ≤ 8 * (9 * K + 9 + 1) := Nat.mul_le_mul_right _ (filt_len cs _ h.n8)
  have h5 := L_mul (kapQ cs ow i) (quoQ (monQ cs (kapQ cs ow) P (pr cs i)) (samQ cs (kapQ cs ow) (pr cs i)))
  have h6 := quo_L (m := monQ cs (kapQ cs ow) P (pr cs i)) (s := samQ cs (kapQ cs ow) (pr cs i)) (A := 75 * K + 85) (B := 72 * K + 81) h2 (by unfold samQ; omega)
  unfold shQ
  omega
theorem mon_nonneg (cs : List Ch) (kp : Nat → Rat) (P : Rat) (p : Int) : 0 ≤ monQ cs kp P p := by
  unfold monQ maxQ; split <;> grind
theorem quo_nonneg {m s : Rat} (hm : 0 ≤ m) : 0 ≤ quoQ m s := by
  unfold quoQ
  split
  · next h =>
    have hs : 0 < s := by grind
    rw [Rat.div_def]
    exact Rat.mul_nonneg hm (Rat.le_of_lt (Rat.inv_pos.2 hs))
  · grind
theorem div_le {a b s : Rat} (hs : 0 < s) (h : a ≤ b) : a / s ≤ b / s := by
  rw [Rat.div_def, Rat.div_def]
  exact Rat.mul_le_mul_of_nonneg_right h (Rat.le_of_lt (Rat.inv_pos.2 hs))
theorem quo_le_one {m s : Rat} (hm : 0 ≤ m) : quoQ m s ≤ 1 := by
  unfold quoQ
  split
  · next h =>
    have hs : 0 < s := by grind
    have h1 := div_le hs (Rat.le_of_lt h)
    have h2 : s / s = 1 := by rw [Rat.div_def]; exact Rat.mul_inv_cancel _ (by grind)
    rw [h2] at h1
    exact h1
  · exact Rat.le_refl
theorem sh_nonneg {kp : Nat → Rat} (hk : ∀ i, 0 ≤ kp i) (P : Rat) (i : Nat) : 0 ≤ shQ cs kp P i := Rat.mul_nonneg (hk i) (quo_nonneg (mon_nonneg _ _ _ _))
theorem sh_le {kp : Nat → Rat} (hk : ∀ i, 0 ≤ kp i) (P : Rat) (i : Nat) : shQ cs kp P i ≤ kp i := by
  have h1 := Rat.mul_le_mul_of_nonneg_left (quo_le_one (s := samQ cs kp (pr cs i)) (mon_nonneg cs kp P (pr cs i))) (hk i)
  rw [Rat.mul_one] at h1
  exact h1
end
end Go.Proofs.YtknccjbkacaelaaGreatDoor
namespace Go.Proofs.YtknccjbkacaelaaGreatDoor
open Go Go.RowKit Go.Sx
section
variable {cs : List Ch} {ow : Nat → Rat} {m K : Nat}
/-- The capacities of a claim's charges are within what is owed. -/
theorem kapS_claim {J : List Nat} (hnd : J.Nodup) (c : Nat) (k : Nat) (hk : k ≤ J.length) :
    (kapS cs ow (J.take k)).op c + totS (kapS cs ow (J.take k)).cap ((J.take k).filter fun i => decide (clm cs i = c)) = ow c ∧ ∀ i, i ∉ J.take k → (kapS cs ow (J.take k)).cap i = 0 := by
  induction k with
  | zero => exact ⟨by show ow c + 0 = ow c; grind, fun i _ => rfl⟩
  | succ k ih =>
    obtain ⟨ih1, ih2⟩ := ih (by omega)
    have hlt : k < J.length := by omega
    have htk := take_succ' J k 0 hlt
    obtain ⟨i, hi⟩ : ∃ i, i = J.getD k 0 := ⟨_, rfl⟩
    rw [← hi] at htk
    have hnd2 : (J.take k ++ [i]).Nodup := by rw [← htk]; exact hnd.sublist (List.take_sublist _ _)
    have hni : i ∉ J.take k := fun g => (List.nodup_append.1 hnd2).2.2 i g i (List.mem_singleton.2 rfl) rfl
    rw [htk, kapS_snoc]
    obtain ⟨S, hS⟩ : ∃ S, S = kapS cs ow (J.take k) := ⟨_, rfl⟩
    rw [← hS] at ih1 ih2 ⊢
    obtain ⟨rm, hrm⟩ : ∃ q, q = roomQ (gC cs i) (S.op (clm cs i)) := ⟨_, rfl⟩
    have hcap : ∀ j, (cstp cs S i).cap j = if j = i then rm else S.cap j := fun j => by rw [hrm]; rfl
    have hop : (cstp cs S i).op c = if c = clm cs i then S.op c - rm else S.op c := by rw [hrm]; rfl
    have e1 : totS (cstp cs S i).cap ((J.take k).filter fun i => decide (clm cs i = c)) = totS S.cap ((J.take k).filter fun i => decide (clm cs i = c)) := totS_congr fun j hj => by
      have hjm := (List.mem_filter.1 hj).1
      rw [hcap, if_neg (fun (e : j = i) => hni (by rw [← e]; exact hjm))]
    refine ⟨?_, fun j hj => ?_⟩
    · rw [List.filter_append, totS_append, e1, hop]
      by_cases e : clm cs i = c
      · rw [List.filter_cons_of_pos (by simp [e]), List.filter_nil, totS_cons, totS_nil, hcap, if_pos rfl, if_pos e.symm]
        grind
      · rw [List.filter_cons_of_neg (by simp [e]), List.filter_nil, totS_nil, if_neg (fun g => e g.symm)]
        grind
    · rw [hcap, if_neg (fun (e : j = i) => hj (by rw [e]; exact List.mem_append_right _ (List.mem_singleton.2 rfl)))]
      exact ih2 j fun g => hj (List.mem_append_left _ g)
theorem kap_claim (h : ChOk cs ow m K) {c : Nat} (hc : c < m) : totS (kapQ cs ow) ((ordC cs).filter fun i => decide (clm cs i = c)) ≤ ow c := by
  have h1 := (kapS_claim (cs := cs) (ow := ow) (ordC_nodup cs) c (ordC cs).length (Nat.le_refl _)).1
  have h2 := (kapS_bound h (J := ordC cs) (fun i hi => ordC_mem.1 hi) (ordC cs).length (Nat.le_refl _)).1 c hc
  rw [List.take_of_length_le (Nat.le_refl _)] at h1 h2
  have h3 := h2.1
  have e : totS (kapQ cs ow) ((ordC cs).filter fun i => decide (clm cs i = c)) = totS (kapS cs ow (ordC cs)).cap ((ordC cs).filter fun i => decide (clm cs i = c)) := rfl
  rw [e]
  grind
theorem totS_le {f g : Nat → Rat} {J : List Nat} (h : ∀ i ∈ J, f i ≤ g i) : totS f J ≤ totS g J := by
  induction J with
  | nil => exact Rat.le_refl
  | cons a J ih =>
    rw [totS_cons, totS_cons]
    have h1 := h a List.mem_cons_self
    have h2 := ih fun i hi => h i (List.mem_cons_of_mem _ hi)
    grind
theorem sh_claim (h : ChOk cs ow m K) (P : Rat) {c : Nat} (hc : c < m) : totS (shQ cs (kapQ cs ow) P) ((List.range cs.length).filter fun i => decide (clm cs i = c)) ≤ ow c := by
  rw [← totS_perm ((ordC_perm cs).filter _)]
  exact Rat.le_trans (totS_le fun i _ => sh_le (fun j => (kap_bound h j).1) P i) (kap_claim h hc)
end
end Go.Proofs.YtknccjbkacaelaaGreatDoor
namespace Go.Proofs.YtknccjbkacaelaaGreatDoor
open Go Go.RowKit Go.Sx
def sz (n : Nat) : Nat := (natS n).size
theorem sz_mul (m n : Nat) : sz (m * n) ≤ sz m + sz n := natS_size_mul m n
theorem sz_mono {m n : Nat} (h : m ≤ n) : sz m ≤ sz n := natS_size_mono h
theorem sz_one : sz 1 = 1 := natS_one_size
def Mu (D : Nat) (q : Rat) : Prop := ∃ z : Int, q * (D : Rat) = (z : Rat)
section
variable {D E : Nat} {p q : Rat}
theorem Mu.zero : Mu D 0 := ⟨0, by rw [Rat.zero_mul]; rfl⟩
theorem Mu.add (h : Mu D p) (g : Mu D q) : Mu D (p + q) := by
  obtain ⟨a, ha⟩ := h
  obtain ⟨b, hb⟩ := g
  exact ⟨a + b, by rw [Rat.add_mul, ha, hb, Rat.intCast_add]⟩
theorem Mu.sub (h : Mu D p) (g : Mu D q) : Mu D (p - q) := by
  obtain ⟨a, ha⟩ := h
  obtain ⟨b, hb⟩ := g
  exact ⟨a - b, by rw [Rat.intCast_sub, ← ha, ← hb]; grind⟩
theorem Mu.mulr (h : Mu D q) (k : Nat) : Mu (D * k) q := by
  obtain ⟨a, ha⟩ := h
  exact ⟨a * k, by rw [Rat.natCast_mul, ← Rat.mul_assoc, ha, Rat.intCast_mul, Rat.intCast_natCast]⟩
theorem Mu.mull (h : Mu D q) (k : Nat) : Mu (k * D) q := by rw [Nat.mul_comm]; exact h.mulr k
theorem Mu.max (h : Mu D p) (g : Mu D q) : Mu D (maxQ p q) := by unfold maxQ; split <;> assumption
theorem Mu.min (h : Mu D p) (g : Mu D q) : Mu D (minQ p q) := by unfold minQ; split <;> assumption
theorem Mu.self (q : Rat) : Mu q.den q := ⟨q.num, by
  have h : (q.den : Rat) ≠ 0 := by
    have := Rat.natCast_pos.2 q.den_pos
    grind
  have := Rat.div_mul_cancel (a := (q.num : Rat)) h
  rwa [← Rat.mkRat_eq_div, Rat.mkRat_self] at this⟩
theorem Mu.tot {f : Nat → Rat} {J : List Nat} (h : ∀ i ∈ J, Mu D (f i)) : Mu D (totS f J) := by
  induction J with
  | nil => exact Mu.zero
  | cons i J ih =>
    rw [totS_cons]
    exact (h i List.mem_cons_self).add (ih fun j hj => h j (List.mem_cons_of_mem _ hj))
theorem Mu.int (hD : 0 < D) (h : Mu D q) (h0 : 0 ≤ q) {B : Nat} (hB : q ≤ (B : Rat)) : ∃ a : Nat, q * (D : Rat) = (a : Rat) ∧ a ≤ B * D ∧ (0 < q → 0 < a) := by
  obtain ⟨z, hz⟩ := h
  have hD0 : (0 : Rat) < D := Rat.natCast_pos.2 hD
  have hz0 : 0 ≤ z := by
    rw [← Rat.intCast_nonneg, ← hz]
    exact Rat.mul_nonneg h0 (Rat.le_of_lt hD0)
  obtain ⟨a, rfl⟩ := Int.eq_ofNat_of_zero_le hz0
  refine ⟨a, by rw [hz, Rat.intCast_natCast], ?_, fun hq => ?_⟩
  · have h1 : q * (D : Rat) ≤ (B : Rat) * (D : Rat) := Rat.mul_le_mul_of_nonneg_right hB (Rat.le_of_lt hD0)
    rw [hz, ← Rat.natCast_mul, ← Rat.intCast_natCast (B * D), Rat.intCast_le_intCast] at h1
    omega
  · have h1 : 0 < q * (D : Rat) := Rat.mul_pos hq hD0
    rw [hz, Rat.intCast_pos] at h1
    omega
theorem Mu.size (hD : 0 < D) (h : Mu D q) (h0 : 0 ≤ q) {B : Nat} (hB : q ≤ (B : Rat)) : L q ≤ sz B + sz D := by
  obtain ⟨a, ha, hb, _⟩ := h.int hD h0 hB
  have hD0 : (0 : Rat) < D := Rat.natCast_pos.2 hD
  have e : q = mkRat (a : Int) D := by
    rw [Rat.mkRat_eq_div, Rat.intCast_natCast, ← ha, Rat.div_def, Rat.mul_assoc, Rat.mul_inv_cancel _ (by grind), Rat.mul_one]
  rw [e]
  refine L_mkRat _ (by omega) ?_ ?_
  · rw [Int.natAbs_natCast]
    exact Nat.le_trans (sz_mono hb) (sz_mul _ _)
  · exact Nat.le_add_left _ _
theorem Mu.quo {k m s : Rat} {a : Nat} (hk : Mu D k) (hm : Mu D m) (hs : s ≠ 0) (ha : s * (D : Rat) = (a : Rat)) : Mu (D * a) (k * (m / s)) := by
  obtain ⟨x, hx⟩ := hk
  obtain ⟨y, hy⟩ := hm
  refine ⟨x * y, ?_⟩
  have h1 : m / s * s = m := Rat.div_mul_cancel hs
  rw [Rat.natCast_mul, ← ha, Rat.intCast_mul, ← hx, ← hy]
  generalize m / s = u at *
  subst h1
  grind
theorem comm_den {K : Nat} : ∀ (qs : List Rat), (∀ q ∈ qs, L q ≤ K) → ∃ D : Nat, 0 < D ∧ sz D ≤ qs.length * K + 1 ∧ ∀ q ∈ qs, Mu D q := by
  intro qs
  induction qs with
  | nil => exact fun _ => ⟨1, by decide, by rw [sz_one]; exact Nat.le_add_left _ _, fun q hq => by cases hq⟩
  | cons q qs ih =>
    intro h
    obtain ⟨D, h1, h2, h3⟩ := ih fun r hr => h r (List.mem_cons_of_mem _ hr)
    refine ⟨q.den * D, Nat.mul_pos q.den_pos h1, ?_, fun r hr => ?_⟩
    · have := sz_mul q.den D
      have h4 : sz q.den ≤ K := Nat.le_trans (L_den q) (h q List.mem_cons_self)
      rw [List.length_cons, Nat.add_mul]
      omega
    · rcases List.mem_cons.1 hr with rfl | hr
      · exact (Mu.self r).mulr D
      · exact (h3 r hr).mull q.den
end
theorem totS_le_len {f : Nat → Rat} {B : Nat} {J : List Nat} (h : ∀ i ∈ J, f i ≤ (B : Rat)) : totS f J ≤ ((J.length * B : Nat) : Rat) := by
  induction J with
  | nil => rw [totS_nil, List.length_nil, Nat.zero_mul]; exact Rat.le_refl
  | cons i J ih =>
    have h1 := h i List.mem_cons_self
    have h2 := ih fun j hj => h j (List.mem_cons_of_mem _ hj)
    rw [totS_cons, List.length_cons, Nat.add_mul, Nat.one_mul, Rat.natCast_add]
    grind
theorem filt_le2 {f : Nat → Rat} (hf : ∀ i, 0 ≤ f i) {a b c : Nat → Bool} (hab : ∀ i, a i = true → b i = false) (hac : ∀ i, a i = true → c i = true) (hbc : ∀ i, b i = true → c i = true) (J : List Nat) :
    totS f (J.filter a) + totS f (J.filter b) ≤ totS f (J.filter c) := by
  induction J with
  | nil => rw [List.filter_nil, List.filter_nil, List.filter_nil, totS_nil, Rat.add_zero]; exact Rat.le_refl
  | cons i J ih =>
    have h0 := hf i
    rw [List.filter_cons, List.filter_cons, List.filter_cons]
    cases ha : a i with
    | true =>
      rw [hab i ha, hac i ha, if_pos rfl, if_neg (by decide), if_pos rfl, totS_cons, totS_cons]
      grind
    | false =>
      cases hb : b i with
      | true =>
        rw [hbc i hb, if_neg (by decide), if_pos rfl, if_pos rfl, totS_cons, totS_cons]
        grind
      | false =>
        rw [if_neg (by decide), if_neg (by decide)]
        cases hc : c i with
        | true => rw [if_pos rfl, totS_cons]; grind
        | false => rw [if_neg (by decide)]; exact ih
section
variable {cs : List Ch} {ow : Nat → Rat} {m K : Nat}
theorem kapS_mu (h : ChOk cs ow m K) {D B : Nat} (hD : ∀ c, c < m → Mu D (ow c)) (hB : ∀ c, c < m → ow c ≤ (B : Rat)) (hl : ∀ i, i < cs.length → Mu D (toQ (gC cs i).limit)) {J : List Nat} (hJ : ∀ i ∈ J, i < cs.length) (k : Nat) (hk : k ≤ J.length) :
    (∀ c, c < m → Mu D ((kapS cs ow (J.take k)).op c)) ∧ (∀ i, Mu D ((kapS cs ow (J.take k)).cap i) ∧ (kapS cs ow (J.take k)).cap i ≤ (B : Rat)) := by
  induction k with
  | zero => exact ⟨hD, fun i => ⟨Mu.zero, by show (0 : Rat) ≤ B; exact Rat.natCast_nonneg⟩⟩
  | succ k ih =>
    obtain ⟨ih1, ih2⟩ := ih (by omega)
    obtain ⟨b1, _⟩ := kapS_bound h hJ k (by omega)
    have hlt : k < J.length := by omega
    rw [take_succ' J k 0 hlt, kapS_snoc]
    obtain ⟨i, hi⟩ : ∃ i, i = J.getD k 0 := ⟨_, rfl⟩
    have hil : i < cs.length := hJ i (by rw [hi]; exact getD_mem J k 0 hlt)
    rw [← hi]
    obtain ⟨S, hS⟩ : ∃ S, S = kapS cs ow (J.take k) := ⟨_, rfl⟩
    rw [← hS] at ih1 ih2 b1 ⊢
    obtain ⟨hc1, hc2⟩ := h.cl hil
    obtain ⟨o1, o2, o3⟩ := b1 _ hc1
    obtain ⟨r1, r2⟩ := room_bound (c := gC cs i) o1 (h.lim i hil)
    have hrm : Mu D (roomQ (gC cs i) (S.op (clm cs i))) := by
      rw [roomQ_of o1]
      split
      · exact (ih1 _ hc1).min (hl i hil)
      · exact ih1 _ hc1
    refine ⟨fun c hc => ?_, fun j => ?_⟩
    · show Mu D (if c = clm cs i then _ else _)
      split
      · exact (ih1 c hc).sub hrm
      · exact ih1 c hc
    · show Mu D (if j = i then _ else _) ∧ (if j = i then _ else _) ≤ _
      split
      · exact ⟨hrm, Rat.le_trans r2 (Rat.le_trans o2 (hB _ hc1))⟩
      · exact ih2 j
theorem kap_mu (h : ChOk cs ow m K) {D B : Nat} (hD : ∀ c, c < m → Mu D (ow c)) (hB : ∀ c, c < m → ow c ≤ (B : Rat)) (hl : ∀ i, i < cs.length → Mu D (toQ (gC cs i).limit)) (i : Nat) : Mu D (kapQ cs ow i) ∧ kapQ cs ow i ≤ (B : Rat) := by
  have h1 := (kapS_mu h hD hB hl (J := ordC cs) (fun i hi => ordC_mem.1 hi) (ordC cs).length (Nat.le_refl _)).2 i
  rw [List.take_of_length_le (Nat.le_refl _)] at h1
  exact h1
variable {kp : Nat → Rat}
/-- Only one priority is paid in part. -/
theorem one_part (hk : ∀ i, 0 ≤ kp i) {P : Rat} {p r : Int} (hpr : p < r) (h1 : monQ cs kp P p < samQ cs kp p) : monQ cs kp P r = 0 := by
  have h2 := filt_le2 hk (a := fun j => decide (pr cs j < p)) (b := fun j => decide (pr cs j = p)) (c := fun j => decide (pr cs j < r)) (fun j g => by
    have := of_decide_eq_true g
    exact decide_eq_false (by omega)) (fun j g => by
    have := of_decide_eq_true g
    exact decide_eq_true (by omega)) (fun j g => by
    have := of_decide_eq_true g
    exact decide_eq_true (by omega)) (ordC cs)
  unfold monQ maxQ at h1
  unfold samQ at h1
  unfold monQ maxQ
  unfold befQ at h1 ⊢
  split
  · next g => split at h1 <;> grind
  · rfl
theorem sh_mu (hk : ∀ i, 0 ≤ kp i) {D B : Nat} (hD : 0 < D) (hkD : ∀ i, Mu D (kp i)) (hkB : ∀ i, kp i ≤ (B : Rat)) {P : Rat} (hP : Mu D P) (h8 : cs.length ≤ 8) :
    ∃ a : Nat, 0 < a ∧ a ≤ 8 * B * D + 1 ∧ ∀ i, Mu (D * a) (shQ cs kp P i) := by
  have hbef : ∀ p, Mu D (befQ cs kp p) := fun p => Mu.tot fun i _ => hkD i
  have hsam : ∀ p, Mu D (samQ cs kp p) := fun p => Mu.tot fun i _ => hkD i
  have hmon : ∀ p, Mu D (monQ cs kp P p) := fun p => (hP.sub (hbef p)).max Mu.zero
  by_cases hex : ∃ p, 0 < monQ cs kp P p ∧ monQ cs kp P p < samQ cs kp p
  · obtain ⟨p, hp1, hp2⟩ := hex
    have hs0 : 0 < samQ cs kp p := by grind
    have hsB : samQ cs kp p ≤ ((8 * B : Nat) : Rat) := by
      refine Rat.le_trans (totS_le_len (B := B) fun i _ => hkB i) ?_
      have h2 := filt_len cs (fun j => decide (pr cs j = p)) h8
      have h3 : ((ordC cs).filter fun j => decide (pr cs j = p)).length * B ≤ 8 * B := Nat.mul_le_mul_right _ h2
      exact Rat.natCast_le_natCast.2 h3
    obtain ⟨a, ha, hab, ha0⟩ := (hsam p).int hD (Rat.le_of_lt hs0) hsB
    refine ⟨a, ha0 hs0, by omega, fun i => ?_⟩
    unfold shQ
    by_cases e : pr cs i = p
    · rw [e]
      unfold quoQ
      rw [if_pos hp2]
      exact (hkD i).quo (hmon p) (by grind) ha
    · unfold quoQ
      split
      · next g =>
        have hz : monQ cs kp P (pr cs i) = 0 := by
          rcases Int.lt_or_lt_of_ne e with q | q
          · have := one_part hk q g
            grind
          · exact one_part hk q hp2
        rw [hz, Rat.div_def, Rat.zero_mul, Rat.mul_zero]
        exact Mu.zero
      · rw [Rat.mul_one]; exact (hkD i).mulr a
  · refine ⟨1, by decide, by omega, fun i => ?_⟩
    unfold shQ quoQ
    split
    · next g =>
      have hz : monQ cs kp P (pr cs i) = 0 := by
        have h1 := mon_nonneg cs kp P (pr cs i)
        have h2 : ¬ 0 < monQ cs kp P (pr cs i) := fun q => hex ⟨_, q, g⟩
        grind
      rw [hz, Rat.div_def, Rat.zero_mul, Rat.mul_zero]
      exact Mu.zero
    · rw [Rat.mul_one]; exact (hkD i).mulr 1
end
end Go.Proofs.YtknccjbkacaelaaGreatDoor
namespace Go.Proofs.YtknccjbkacaelaaGreatDoor
open Go Go.RowKit Go.Sx
def gotR (cs : List Ch) (f : Nat → Rat) (k c : Nat) : Rat := totS f ((List.range k).filter fun i => decide (clm cs i = c))
theorem gotR_zero (cs : List Ch) (f : Nat → Rat) (c : Nat) : gotR cs f 0 c = 0 := rfl
theorem gotR_succ (cs : List Ch) (f : Nat → Rat) (k c : Nat) : gotR cs f (k + 1) c = if c = clm cs k then gotR cs f k c + f k else gotR cs f k c := by
  unfold gotR
  rw [List.range_succ, List.filter_append]
  by_cases h : c = clm cs k
  · rw [if_pos h, List.filter_cons, if_pos (decide_eq_true h.symm), List.filter_nil, totS_append, totS_cons, totS_nil]; grind
  · rw [if_neg h, List.filter_cons, if_neg (by rw [decide_eq_true_eq]; exact fun g => h g.symm), List.filter_nil, List.append_nil]
theorem gotR_mono {cs : List Ch} {f : Nat → Rat} (hf : ∀ i, 0 ≤ f i) (c k : Nat) : ∀ d, gotR cs f k c ≤ gotR cs f (k + d) c := by
  intro d
  induction d with
  | zero => exact Rat.le_refl
  | succ d ih =>
    rw [show k + (d + 1) = k + d + 1 by omega, gotR_succ]
    have := hf (k + d)
    split <;> grind
/-- What is still owed behind an item, and what is left of it. -/
def shO (x : It) (O : List RR) : Nat → Rat := shQ x.charges (kapQ x.charges (owF O)) (procQ x)
def lfO (x : It) (O : List RR) : Rat := lefQ x.charges (kapQ x.charges (owF O)) (procQ x)
def stO (x : It) (O : List RR) : List RR := tab O.length fun c => ofQ (owF O c - gotR x.charges (shO x O) x.charges.length c)
def inO (owed : List RR) : List RR := tab owed.length fun c => ofQ (owF owed c)
def reD (X : List It) (O : List RR) : List RR := X.foldl (fun O x => stO x O) O
theorem reD_snoc (X : List It) (x : It) (O : List RR) : reD (X ++ [x]) O = stO x (reD X O) := by unfold reD; rw [List.foldl_append]; rfl
def reL (X : List It) (O : List RR) : List RR := tab X.length fun i => ofQ (lfO (X.getD i zIt) (reD (X.take i) O))
theorem owF_tab {n : Nat} {f : Nat → Rat} {c : Nat} (h : c < n) : owF (tab n fun c => ofQ (f c)) c = f c := by unfold owF; rw [tab_get _ _ h, toQ_ofQ]
theorem owF_inO {owed : List RR} {c : Nat} (h : c < owed.length) : owF (inO owed) c = owF owed c := owF_tab h
theorem stO_len (x : It) (O : List RR) : (stO x O).length = O.length := tab_len _ _
theorem inO_len (O : List RR) : (inO O).length = O.length := tab_len _ _
theorem reD_len (X : List It) (O : List RR) : (reD X O).length = O.length := by
  unfold reD
  induction X generalizing O with
  | nil => rfl
  | cons x X ih => rw [List.foldl_cons, ih, stO_len]
/-- Sizes. -/
def KK : Nat := 300000
def BB : Nat := 256 ^ 24
theorem sz_BB : sz BB ≤ 25 := natS_size_le (by decide)
theorem sz_9BB : sz (9 * BB) ≤ 25 := natS_size_le (by decide)
theorem le_num {q : Rat} (h : 0 ≤ q) : q ≤ (q.num.natAbs : Rat) := by
  obtain ⟨z, hz⟩ := Mu.self q
  have h1 : (1 : Rat) ≤ (q.den : Rat) := by
    have := Rat.natCast_le_natCast.2 q.den_pos
    exact this
  have h2 : q ≤ q * (q.den : Rat) := by
    have := Rat.mul_le_mul_of_nonneg_left h1 h
    rwa [Rat.mul_one] at this
  have h3 : q * (q.den : Rat) = (q.num : Rat) := by
    have h : (q.den : Rat) ≠ 0 := by
      have := Rat.natCast_pos.2 q.den_pos
      grind
    have := Rat.div_mul_cancel (a := (q.num : Rat)) h
    rwa [← Rat.mkRat_eq_div, Rat.mkRat_self] at this
  have h4 : (q.num : Rat) = (q.num.natAbs : Rat) := by
    rw [← Rat.intCast_natCast, Int.natAbs_of_nonneg (Rat.num_nonneg.2 h)]
  rw [← h4, ← h3]
  exact h2
theorem le_BB {q : Rat} (h0 : 0 ≤ q) (h : L q ≤ 24) : q ≤ (BB : Rat) := by
  refine Rat.le_trans (le_num h0) (Rat.natCast_le_natCast.2 ?_)
  have h1 := lt_natS_size q.num.natAbs
  have h2 : 256 ^ (natS q.num.natAbs).size ≤ 256 ^ 24 := Nat.pow_le_pow_right (by decide) (Nat.le_trans (L_num q) h)
  unfold BB
  omega
structure ReOk (owed O : List RR) (D : Nat) : Prop where
  len : O.length = owed.length
  pos : 0 < D
  mu : ∀ c, c < owed.length → Mu D (owF O c)
  nn : ∀ c, c < owed.length → 0 ≤ owF O c
  le : ∀ c, c < owed.length → owF O c ≤ (BB : Rat)
theorem ReOk.size {owed O : List RR} {D : Nat} (h : ReOk owed O D) {c : Nat} (hc : c < owed.length) : L (owF O c) ≤ sz D + 25 := by
  have := (h.mu c hc).size h.pos (h.nn c hc) (h.le c hc)
  have := sz_BB
  omega
section
variable {X : List It} {owed : List RR} {x : It}
theorem re_ok (h : checkE X owed = 0) (hx : x ∈ X) (hXB : ItB 24 X) (hoB : RB 24 owed) {O : List RR} {D : Nat} (hO : ReOk owed O D) (hs : sz D ≤ 140000) : ChOk x.charges (owF O) owed.length KK := by
  have h1 := chok_of h hx hXB hoB
  have hK : KK = 300000 := rfl
  exact ⟨h1.n8, h1.clm, h1.lim, fun i hi => by have := h1.lB i hi; omega, hO.nn, fun c hc => by have := hO.size hc; omega⟩
theorem re_step (h : checkE X owed = 0) (hx : x ∈ X) (hXB : ItB 24 X) (hoB : RB 24 owed) {O : List RR} {D : Nat} (hO : ReOk owed O D) (hs : sz D ≤ 140000) :
    ∃ E, 0 < E ∧ sz E ≤ 2 * sz D + 508 ∧ ∀ k, k ≤ x.charges.length → ∀ c, c < owed.length → Mu E (owF O c - gotR x.charges (shO x O) k c) ∧ 0 ≤ owF O c - gotR x.charges (shO x O) k c ∧ owF O c - gotR x.charges (shO x O) k c ≤ (BB : Rat) := by
  have hok := re_ok h hx hXB hoB hO hs
  obtain ⟨x1, x2, x3⟩ := hXB x hx
  obtain ⟨F, hF0, hFs, hFm⟩ := comm_den (K := 24) (toQ x.price :: toQ x.costs :: x.charges.map fun c => toQ c.limit) (fun q hq => by
    rcases List.mem_cons.1 hq with rfl | hq
    · exact Nat.le_trans (L_toQ _) x1
    · rcases List.mem_cons.1 hq with rfl | hq
      · exact Nat.le_trans (L_toQ _) x2
      · obtain ⟨c, hc, rfl⟩ := List.mem_map.1 hq
        exact Nat.le_trans (L_toQ _) (x3 c hc))
  rw [List.length_cons, List.length_cons, List.length_map] at hFs
  have h8 := hok.n8
  have hDF : 0 < D * F := Nat.mul_pos hO.pos hF0
  have hlim : ∀ i, i < x.charges.length → Mu (D * F) (toQ (gC x.charges i).limit) := fun i hi => (hFm _ (List.mem_cons_of_mem _ (List.mem_cons_of_mem _ (List.mem_map.2 ⟨_, getD_mem x.charges i zCh hi, rfl⟩)))).mull D
  have hP : Mu (D * F) (procQ x) := by
    unfold procQ
    refine Mu.mull ?_ D
    exact (((hFm _ List.mem_cons_self).max Mu.zero).sub ((hFm _ (List.mem_cons_of_mem _ List.mem_cons_self)).max Mu.zero)).max Mu.zero
  have hkm := fun i => kap_mu hok (fun c hc => (hO.mu c hc).mulr F) hO.le hlim i
  have hk0 := fun i => (kap_bound hok i).1
  obtain ⟨a, ha0, hab, hsh⟩ := sh_mu hk0 hDF (fun i => (hkm i).1) (fun i => (hkm i).2) hP h8
  have hs0 : ∀ i, 0 ≤ shO x O i := fun i => sh_nonneg hk0 _ i
  have hcl := fun c hc => sh_claim hok (procQ x) (c := c) hc
  refine ⟨D * F * a, Nat.mul_pos hDF ha0, ?_, fun k hk c hc => ⟨?_, ?_, ?_⟩⟩
  · have h1 := sz_mul (D * F) a
    have h2 := sz_mul D F
    have h3 : a ≤ 9 * BB * (D * F) := by
      have : 1 ≤ BB * (D * F) := Nat.mul_pos (by decide) hDF
      rw [Nat.mul_assoc] at hab ⊢
      omega
    have h4 := sz_mono h3
    have h5 := sz_mul (9 * BB) (D * F)
    have h6 := sz_9BB
    have h7 : (x.charges.length + 1 + 1) * 24 ≤ 10 * 24 := Nat.mul_le_mul_right _ (by omega)
    omega
  · refine Mu.sub (((hO.mu c hc).mulr F).mulr a) (Mu.tot fun i _ => hsh i)
  · have h1 := gotR_mono (cs := x.charges) hs0 c k (x.charges.length - k)
    rw [show k + (x.charges.length - k) = x.charges.length by omega] at h1
    have h2 : gotR x.charges (shO x O) x.charges.length c ≤ owF O c := hcl c hc
    grind
  · have h1 := gotR_mono (cs := x.charges) hs0 c 0 k
    rw [Nat.zero_add, gotR_zero] at h1
    have := hO.le c hc
    grind
theorem re_inv (h : checkE X owed = 0) (hXB : ItB 24 X) (hoB : RB 24 owed) : ∀ t, t ≤ X.length → ∃ D, ReOk owed (reD (X.take t) (inO owed)) D ∧ sz D + 508 ≤ 2 ^ t * 1085 := by
  obtain ⟨hz1, hz2, hz3, hz4, hz5⟩ := checkE_zero h
  intro t
  induction t with
  | zero =>
    intro _
    obtain ⟨D, h1, h2, h3⟩ := comm_den (K := 24) (owed.map toQ) (fun q hq => by
      obtain ⟨r, hr, rfl⟩ := List.mem_map.1 hq
      exact Nat.le_trans (L_toQ r) (hoB r hr))
    rw [List.length_map] at h2
    have h4 : owed.length * 24 ≤ 24 * 24 := Nat.mul_le_mul_right _ hz2
    refine ⟨D, ⟨inO_len _, h1, fun c hc => ?_, fun c hc => ?_, fun c hc => ?_⟩, by omega⟩
    · show Mu D (owF (inO owed) c)
      rw [owF_inO hc]
      exact h3 _ (List.mem_map.2 ⟨_, getD_mem owed c zRR hc, rfl⟩)
    · show 0 ≤ owF (inO owed) c
      rw [owF_inO hc]
      exact negs_false hz3 hc
    · show owF (inO owed) c ≤ _
      rw [owF_inO hc]
      exact le_BB (negs_false hz3 hc) (Nat.le_trans (L_toQ _) (hoB _ (getD_mem owed c zRR hc)))
  | succ t ih =>
    intro ht
    obtain ⟨D, hO, hs⟩ := ih (by omega)
    have hp : 2 ^ t ≤ 2 ^ 7 := Nat.pow_le_pow_right (by decide) (by omega)
    have hp2 : 2 ^ t * 1085 ≤ 2 ^ 7 * 1085 := Nat.mul_le_mul_right _ hp
    have hx : X.getD t zIt ∈ X := getD_mem X t zIt (by omega)
    obtain ⟨E, e1, e2, e3⟩ := re_step h hx hXB hoB hO (by omega)
    rw [take_succ' X t zIt (by omega), reD_snoc]
    obtain ⟨O, hOe⟩ : ∃ O, O = reD (X.take t) (inO owed) := ⟨_, rfl⟩
    rw [← hOe] at hO e3 ⊢
    have hst : ∀ c, c < owed.length → owF (stO (X.getD t zIt) O) c = owF O c - gotR (X.getD t zIt).charges (shO (X.getD t zIt) O) (X.getD t zIt).charges.length c := fun c hc => owF_tab (by rw [hO.len]; exact hc)
    refine ⟨E, ⟨by rw [stO_len, hO.len], e1, fun c hc => ?_, fun c hc => ?_, fun c hc => ?_⟩, by rw [Nat.pow_succ]; omega⟩
    · rw [hst c hc]; exact (e3 _ (Nat.le_refl _) c hc).1
    · rw [hst c hc]; exact (e3 _ (Nat.le_refl _) c hc).2.1
    · rw [hst c hc]; exact (e3 _ (Nat.le_refl _) c hc).2.2
/-- What the walk of item t needs. -/
theorem re_facts (h : checkE X owed = 0) (hXB : ItB 24 X) (hoB : RB 24 owed) {t : Nat} (ht : t < X.length) :
    ChOk (X.getD t zIt).charges (owF (reD (X.take t) (inO owed))) owed.length KK ∧
    ∀ k, k ≤ (X.getD t zIt).charges.length → ∀ c, c < owed.length → L (owF (reD (X.take t) (inO owed)) c - gotR (X.getD t zIt).charges (shO (X.getD t zIt) (reD (X.take t) (inO owed))) k c) ≤ KK := by
  obtain ⟨hz1, hz2, hz3, hz4, hz5⟩ := checkE_zero h
  obtain ⟨D, hO, hs⟩ := re_inv h hXB hoB t (by omega)
  have hp : 2 ^ t ≤ 2 ^ 7 := Nat.pow_le_pow_right (by decide) (by omega)
  have hp2 : 2 ^ t * 1085 ≤ 2 ^ 7 * 1085 := Nat.mul_le_mul_right _ hp
  have hx : X.getD t zIt ∈ X := getD_mem X t zIt (by omega)
  obtain ⟨E, e1, e2, e3⟩ := re_step h hx hXB hoB hO (by omega)
  refine ⟨re_ok h hx hXB hoB hO (by omega), fun k hk c hc => ?_⟩
  obtain ⟨g1, g2, g3⟩ := e3 k hk c hc
  have := g1.size e1 g2 g3
  have := sz_BB
  have hK : KK = 300000 := rfl
  omega
end
end Go.Proofs.YtknccjbkacaelaaGreatDoor
