/-
  Walk: Share of an item.
-/
import Derived.Test.YtdafaibhiobpaabGreatDoorLawCe
namespace Go.Proofs.YtdafaibhiobpaabGreatDoor
open Go Go.RowKit Go.Sx

theorem negs_false {owed : List RR} (h : negs owed = false) {c : Nat} (hc : c < owed.length) : 0 ≤ owF owed c := by
  unfold negs at h
  rw [List.any_eq_false] at h
  have := h _ (getD_mem owed c zRR hc)
  exact Rat.not_lt.1 fun g => this (decide_eq_true g)
theorem chErr_lim {m : Nat} {c : Ch} (h : chErr m c = 0) (hl : c.lim = true) : 0 ≤ toQ c.limit := by
  have hc := chErr_zero h
  unfold chErr at h
  rw [if_neg (by omega)] at h
  split at h
  · cases h
  · next g => exact Rat.not_lt.1 fun q => g ⟨hl, q⟩
theorem chok_of {X : List It} {owed : List RR} {x : It} {K : Nat} (h : checkE X owed = 0) (hx : x ∈ X) (hXB : ItB K X) (hoB : RB K owed) : ChOk x.charges (owF owed) owed.length K := by
  obtain ⟨_, _, h3, h4, h5⟩ := checkE_zero h
  obtain ⟨a1, _, _, a4⟩ := itErr_zero (h4 x hx)
  exact ⟨a1, fun i hi => h5 x hx _ (getD_mem x.charges i zCh hi), fun i hi hl => chErr_lim (a4 _ (getD_mem x.charges i zCh hi)) hl, fun i hi => (hXB x hx).2.2 _ (getD_mem x.charges i zCh hi),
    fun c hc => negs_false h3 hc, fun c hc => L_owF hoB hc⟩
def shsL (x : It) (owed : List RR) : List RR := if checkE [x] owed = 0 then tab x.charges.length fun i => ofQ (shQ x.charges (kapQ x.charges (owF owed)) (procQ x) i) else []
def lefR (x : It) (owed : List RR) : RR := if checkE [x] owed = 0 then ofQ (lefQ x.charges (kapQ x.charges (owF owed)) (procQ x)) else zRR
set_option maxHeartbeats 1000000 in
theorem Share_full (x : It) (vc vo : Value) (owed : List RR) (K : Nat) (w : World) (hch : Sl encCh 6 w vc x.charges) (ho : Sl encR 3 w vo owed) (hXB : ItB K [x]) (hoB : RB K owed) (hK : 20000 * K + 20000 ≤ MX) :
    Ret Tryz.prog 9 #[aggIt x vc, vo] w fun r w' => ((∃ v, r = .tuple #[v, aggR (lefR x owed), .int .i64 (checkE [x] owed)] ∧ Sl encR 3 w' v (shsL x owed)) ∧ Below w.heap.size w w') ∧
      (checkE [x] owed = 0 → ∃ b, r = .tuple #[.slice (some ⟨b, 0, none⟩) x.charges.length x.charges.length, aggR (ofQ (lefQ x.charges (kapQ x.charges (owF owed)) (procQ x))), .int .i64 0] ∧
        St w w' [(b, 29, (tab x.charges.length fun i => ofQ (shQ x.charges (kapQ x.charges (owF owed)) (procQ x) i)).flatMap encR)]) := by
  have hM : MX = 1099511627776 := rfl
  have hS := St.init w
  refine enter Tryz.func9 rfl Tryz.ntmps9 rfl ?_
  repeat (with_reducible first | refine c_seq ?_ | refine c_block ?_ | refine c_skip ?_ | refine x_then ?_ | refine x_block ?_)
  refine c_reg ?_
  refine l_heavy rfl (s_box  rfl rfl hS ?_)
  intro b2 wz1 hS hBz1
  refine l_pure rfl (s_asg  rfl ?_)
  refine l_heavy rfl (s_alloc  vi_29 hS ?_)
  intro b5 wz2 hS hBz2
  refine l_pure rfl (s_asg  rfl ?_)
  refine l_nil ?_
  repeat (with_reducible first | refine c_seq ?_ | refine c_block ?_ | refine c_skip ?_ | refine x_then ?_ | refine x_block ?_)
  replace hS : St w _ [(b5, 29, encR zRR), (b2, 32, encIt (x, vc))] := hS
  repeat (with_reducible first | refine c_seq ?_ | refine c_block ?_ | refine c_skip ?_ | refine x_then ?_ | refine x_block ?_)
  refine c_reg ?_
  refine l_read rfl (s_ldo (k := 1)  rfl vi_32 hS rfl rfl rfl (.inl rfl) ?_)
  refine l_heavy rfl (s_bsl (vs := [aggIt x vc])  rfl si_26 rfl (by decide) (by decide) (by decide) (by simp [Value.cells, aggIt]) rfl hS ?_)
  intro b11 wz3 hS hBz3
  refine l_pure rfl (s_move  rfl ?_)
  replace hS : St w _ [(b11, 32, ([x].zip [vc]).flatMap encIt), (b5, 29, encR zRR), (b2, 32, encIt (x, vc))] := hS
  have hI : Its _ (.slice (some ⟨b11, 0, none⟩) 1 1) [x] [vc] := ⟨rfl, hS.sle (k := 0) (L := [x].zip [vc]) (n := 1) (cap := 1) rfl encIt_len (Nat.le_refl _) (Nat.le_refl _) (by decide), fun i hi => (by
    obtain rfl : i = 0 := by simp at hi; exact hi
    exact hch.below hS.below)⟩
  refine l_heavy rfl (s_call Tryz.call24 rfl (Check_ok _ vo [x] [vc] owed _ hI (ho.below hS.below) (ItB_mono hXB (by omega)) (RB_mono hoB (by omega))) ?_)
  rintro r' w2 ⟨rfl, hB2⟩
  replace hS := hS.grow hB2
  refine l_pure rfl (s_asg  rfl ?_)
  refine l_nil ?_
  repeat (with_reducible first | refine c_seq ?_ | refine c_block ?_ | refine c_skip ?_ | refine x_then ?_ | refine x_block ?_)
  refine c_forget (fun ρ' => ρ' 1 = vo ∧ ρ' 2 = .pointer (some ⟨b2, 0, none⟩) ∧ ρ' 5 = .pointer (some ⟨b5, 0, none⟩) ∧ ρ' 7 = .int .i64 (checkE [x] owed) ∧ True) ⟨rfl, rfl, rfl, rfl, trivial⟩ ?_
  rintro ρk4 ⟨hk4_1, hk4_2, hk4_5, hk4_7, -⟩
  repeat (with_reducible first | refine c_seq ?_ | refine c_block ?_ | refine c_skip ?_ | refine x_then ?_ | refine x_block ?_)
  refine c_reg ?_
  refine l_pure rfl (s_move  hk4_7 ?_)
  refine l_pure rfl (s_neq  rfl rfl ?_)
  refine l_nil ?_
  repeat (with_reducible first | refine c_seq ?_ | refine c_block ?_ | refine c_skip ?_ | refine x_then ?_ | refine x_block ?_)
  by_cases he : checkE [x] owed = 0
  case neg =>
    refine c_yes rfl (decide_eq_true he) ?_
    repeat (with_reducible first | refine c_seq ?_ | refine c_block ?_ | refine c_skip ?_ | refine x_then ?_ | refine x_block ?_)
    refine c_reg ?_
    refine l_pure rfl (s_build  rfl bz_29 ?_)
    refine l_pure rfl (s_move  hk4_7 ?_)
    refine l_pure rfl (s_asg  rfl ?_)
    refine l_heavy rfl (s_sta (k := 1)  hk4_5 rfl vi_29 hS rfl rfl rfl (Nat.le_of_ble_eq_true rfl) rfl ?_)
    intro wz5 hS
    refine l_pure rfl (s_asg  rfl ?_)
    refine l_nil ?_
    repeat (with_reducible first | refine c_seq ?_ | refine c_block ?_ | refine c_skip ?_ | refine x_then ?_ | refine x_block ?_)
    refine c_ret ?_
    repeat (with_reducible first | refine x_then_ret ?_ | refine x_block_ret ?_)
    refine r_tmp_cell_tmp (k := 1) rfl hk4_5 rfl rfl vi_29 hS rfl rfl ?_
    exact ⟨⟨⟨_, by unfold lefR; rw [if_neg he]; rfl, by unfold shsL; rw [if_neg he]; exact Sl.nil _ _ _⟩, hS.below⟩, fun h => absurd h he⟩
  refine c_no rfl (decide_eq_false (not_not_intro he)) ?_
  repeat (with_reducible first | refine c_seq ?_ | refine c_block ?_ | refine c_skip ?_ | refine x_then ?_ | refine x_block ?_)
  obtain ⟨hp1, hp2, _⟩ := hXB x List.mem_cons_self
  have hz := checkE_zero he
  repeat (with_reducible first | refine c_seq ?_ | refine c_block ?_ | refine c_skip ?_ | refine x_then ?_ | refine x_block ?_)
  refine c_reg ?_
  refine l_read rfl (s_ldo (k := 2)  hk4_2 vi_32 hS rfl rfl rfl (.inl rfl) ?_)
  refine l_pure rfl (s_move  hk4_1 ?_)
  refine l_heavy rfl (s_call Tryz.call25 rfl (share_ok x vc vo owed K _ (hch.below hS.below) (ho.below hS.below) (chok_of he List.mem_cons_self hXB hoB) hp1 hp2 (by omega) hoB hK) ?_)
  rintro r' w3 ⟨b14, rfl, hS3⟩
  replace hS := hS.join hS3
  refine l_pure rfl (s_move  rfl ?_)
  refine l_pure rfl (s_ext  rfl rfl ?_)
  refine l_pure rfl (s_ext  rfl rfl ?_)
  refine l_heavy rfl (s_alloc  vi_29 hS ?_)
  intro b9 wz6 hS hBz6
  refine l_pure rfl (s_asg  rfl ?_)
  refine l_heavy rfl (s_sta (k := 0)  rfl rfl vi_29 hS rfl rfl rfl (Nat.le_of_ble_eq_true rfl) rfl ?_)
  intro wz7 hS
  refine l_nil ?_
  repeat (with_reducible first | refine c_seq ?_ | refine c_block ?_ | refine c_skip ?_ | refine x_then ?_ | refine x_block ?_)
  refine c_forget (fun ρ' => ρ' 5 = .pointer (some ⟨b5, 0, none⟩) ∧ ρ' 8 = .slice (some ⟨b14, 0, none⟩) x.charges.length x.charges.length ∧ ρ' 9 = .pointer (some ⟨b9, 0, none⟩) ∧ True) ⟨hk4_5, rfl, rfl, trivial⟩ ?_
  rintro ρk8 ⟨hk8_5, hk8_8, hk8_9, -⟩
  repeat (with_reducible first | refine c_seq ?_ | refine c_block ?_ | refine c_skip ?_ | refine x_then ?_ | refine x_block ?_)
  refine c_draw [(0, .pure), (1, .read), (2, .pure), (3, .free), (4, .pure)] (by kernel_rfl) (by kernel_rfl) hS ?_
  intro wz9 hS hBz9
  refine w_pure rfl rfl (s_move  hk8_8 ?_)
  refine w_read rfl rfl (s_ldo (k := 0)  hk8_9 vi_29 hS rfl rfl rfl (.inl rfl) ?_)
  refine w_pure rfl rfl (s_asg  rfl ?_)
  refine w_free rfl rfl (s_sta (k := 3)  hk8_5 rfl vi_29 hS rfl rfl rfl (Nat.le_of_ble_eq_true rfl) rfl ?_)
  intro wz10 hS
  refine w_pure rfl rfl (s_asg  rfl ?_)
  refine w_end ?_
  repeat (with_reducible first | refine c_seq ?_ | refine c_block ?_ | refine c_skip ?_ | refine x_then ?_ | refine x_block ?_)
  refine c_ret ?_
  repeat (with_reducible first | refine x_then_ret ?_ | refine x_block_ret ?_)
  refine r_tmp_cell_tmp (k := 3) rfl hk8_5 rfl rfl vi_29 hS rfl rfl ?_
  have h8 := (itErr_zero (hz.2.2.2.1 x List.mem_cons_self)).1
  rw [he]
  refine ⟨⟨⟨_, by unfold lefR; rw [if_pos he]; rfl, ?_⟩, hS.below⟩, fun _ => ⟨b14, rfl, (hS.drop (List.sublist_cons_self _ _)).drop (List.sublist_append_left [_] _)⟩⟩
  unfold shsL
  rw [if_pos he]
  exact sl_tab (by omega) (hS.drop (List.sublist_cons_self _ _))
theorem Share_ok (x : It) (vc vo : Value) (owed : List RR) (K : Nat) (w : World) (hch : Sl encCh 6 w vc x.charges) (ho : Sl encR 3 w vo owed) (hXB : ItB K [x]) (hoB : RB K owed) (hK : 20000 * K + 20000 ≤ MX) :
    Ret Tryz.prog 9 #[aggIt x vc, vo] w fun r w' => (∃ v, r = .tuple #[v, aggR (lefR x owed), .int .i64 (checkE [x] owed)] ∧ Sl encR 3 w' v (shsL x owed)) ∧ Below w.heap.size w w' :=
  (Share_full x vc vo owed K w hch ho hXB hoB hK).mono fun _ _ h => h.1
theorem Share_own (x : It) (vc vo : Value) (owed : List RR) (K : Nat) (w : World) (hch : Sl encCh 6 w vc x.charges) (ho : Sl encR 3 w vo owed) (hXB : ItB K [x]) (hoB : RB K owed) (hK : 20000 * K + 20000 ≤ MX) (he : checkE [x] owed = 0) :
    Ret Tryz.prog 9 #[aggIt x vc, vo] w fun r w' => ∃ b, r = .tuple #[.slice (some ⟨b, 0, none⟩) x.charges.length x.charges.length, aggR (ofQ (lefQ x.charges (kapQ x.charges (owF owed)) (procQ x))), .int .i64 0] ∧
        St w w' [(b, 29, (tab x.charges.length fun i => ofQ (shQ x.charges (kapQ x.charges (owF owed)) (procQ x) i)).flatMap encR)] :=
  (Share_full x vc vo owed K w hch ho hXB hoB hK).mono fun _ _ h => h.2 he
/-- Two of the blocks, in any order. -/
theorem pick2 {w0 w : World} {H : List Blk} (h : St w0 w H) {i j : Nat} {e1 e2 : Blk} (h1 : H[i]? = some e1) (h2 : H[j]? = some e2) (hij : i ≠ j) : St w0 w [e1, e2] := by
  refine ⟨h.below, fun e he => ?_, ?_⟩
  · rcases List.mem_cons.1 he with rfl | he
    · exact h.own _ (List.mem_of_getElem? h1)
    · rw [List.mem_singleton.1 he]; exact h.own _ (List.mem_of_getElem? h2)
  · show [e1.1, e2.1].Nodup
    have hne : e1.1 ≠ e2.1 := fun g => by
      obtain ⟨a1, q1⟩ := List.getElem?_eq_some_iff.1 h1
      obtain ⟨a2, q2⟩ := List.getElem?_eq_some_iff.1 h2
      have m1 : i < (H.map (·.1)).length := by rw [List.length_map]; exact a1
      have m2 : j < (H.map (·.1)).length := by rw [List.length_map]; exact a2
      rcases Nat.lt_or_gt_of_ne hij with g1 | g1
      · exact List.pairwise_iff_getElem.1 h.nd i j m1 m2 g1 (by rw [List.getElem_map, List.getElem_map, q1, q2]; exact g)
      · exact List.pairwise_iff_getElem.1 h.nd j i m2 m1 g1 (by rw [List.getElem_map, List.getElem_map, q1, q2]; exact g.symm)
    simp [hne]
end Go.Proofs.YtdafaibhiobpaabGreatDoor
