/-
  The law that older obligations are set off first: its walk.
-/
import Derived.Test.YtdafaibhiobpaaaDoorLawOp2
namespace Go.Proofs.YtdafaibhiobpaaaDoor
open Go Go.RowKit Go.Sx

theorem getD_obs (l : List Ob) (i : Nat) : l.getD i zOb = gO l i := rfl
theorem fin_get {l : List Ob} {c s : Int} {i : Nat} (hi : i < l.length) : (tab l.length fun i => ofQ (finQ l c s i)).getD i zRR = ofQ (finQ l c s i) := tab_get _ _ hi
theorem amt_ofQ (l : List (Nat → Nat)) (n i : Nat) (hi : i < (obsL l n).length) : (gO (obsL l n) i).amt = ofQ (oQ (obsL l n) i) := by
  have h : gO (obsL l n) i ∈ obsL l n := getD_mem _ _ _ hi
  obtain ⟨x, _, e⟩ := List.mem_map.1 h
  unfold oQ
  rw [← e]
  show amR (x 2) = ofQ (toQ (amR (x 2)))
  unfold amR
  rw [toQ_ofQ]
def aheadB (l : List Ob) (i k : Nat) : Bool := decide ((gO l i).inc < (gO l k).inc) || (decide ((gO l i).inc = (gO l k).inc) && decide (i < k))
def sameB (l : List Ob) (c s : Int) (i k : Nat) : Bool := decide ((gO l i).deb = (gO l k).deb) && decide ((gO l i).cre = (gO l k).cre) && eligB (gO l i) c s && eligB (gO l k) c s
theorem old_law {l : List Ob} (h : Nng l) {c s : Int} {i k : Nat} (hi : i < l.length) (hk : k < l.length) (ha : aheadB l i k = true) (hs : sameB l c s i k = true) : finQ l c s k = oQ l k ∨ finQ l c s i = 0 := by
  unfold sameB at hs
  simp only [Bool.and_eq_true, decide_eq_true_eq] at hs
  obtain ⟨⟨⟨e1, e2⟩, e3⟩, e4⟩ := hs
  have hio : i ∈ ordL l c s (gO l k).deb (gO l k).cre := ordL_mem.2 ⟨hi, by unfold goes; rw [e1, e2, e3]; simp⟩
  have hko : k ∈ ordL l c s (gO l k).deb (gO l k).cre := ordL_mem.2 ⟨hk, by unfold goes; rw [e4]; simp⟩
  have hah : ahead l i k := by
    unfold aheadB at ha
    simp only [Bool.or_eq_true, Bool.and_eq_true, decide_eq_true_eq] at ha
    exact ha
  by_cases e : finQ l c s k = oQ l k
  · exact .inl e
  · exact .inr (oldest_first h hio hko hah e)
set_option maxHeartbeats 4000000 in
theorem SetoffOldest_ok (vl : Value) (a : List (Nat → Nat)) (cc ss : Nat) (w : World) (hv : Sl enc5 5 w vl a) (hb : ∀ x ∈ a, ∀ i, i < 5 → x i < 65536) (hcc : cc < 256) :
    Ret Tryd.prog 7 #[vl, .int .u8 cc, .int .u8 ss] w fun v w' => v = .bool true ∧ Below w.heap.size w w' := by
  have hM : MX = 1099511627776 := rfl
  have hS := St.init w
  have hs40 : ss % 40 < 40 := Nat.mod_lt _ (by decide)
  obtain ⟨s, hs⟩ : ∃ s, s = ss % 40 := ⟨_, rfl⟩
  obtain ⟨l, hl⟩ : ∃ l, l = obsL a 16 := ⟨_, rfl⟩
  have hE := obsL_E a
  have hC := obsL_chk a hcc (show s < 256 by omega)
  have hB := obsL_B a 16
  have hlen : (obsL a 16).length ≤ 16 := by rw [obsL_len]; omega
  have hamt := amt_ofQ a 16
  rw [← hl] at hE hC hB hlen hamt
  have hN := nng_of hE
  refine enter Tryd.func7 rfl Tryd.ntmps7 rfl ?_
  repeat (with_reducible first | refine c_seq ?_ | refine c_block ?_ | refine c_skip ?_ | refine x_then ?_ | refine x_block ?_)
  refine c_reg ?_
  refine l_pure rfl (s_asg  rfl ?_)
  refine l_nil ?_
  repeat (with_reducible first | refine c_seq ?_ | refine c_block ?_ | refine c_skip ?_ | refine x_then ?_ | refine x_block ?_)
  refine c_reg ?_
  refine l_pure rfl (s_move  rfl ?_)
  refine l_heavy rfl (s_call Tryd.call17 rfl (Obligations_ok vl a _ hv hb) ?_)
  rintro vo w1 ⟨LO, hG, hSO⟩
  rw [← hl] at hG
  have ho := hG.sl hSO encOb_len
  replace hS := hS.grow hSO.below
  refine l_pure rfl (s_asg  rfl ?_)
  refine l_nil ?_
  repeat (with_reducible first | refine c_seq ?_ | refine c_block ?_ | refine c_skip ?_ | refine x_then ?_ | refine x_block ?_)
  refine c_reg ?_
  refine l_pure rfl (s_move  rfl ?_)
  refine l_pure rfl (s_conv  rfl Tryd.underlying3 ⟨_, Tryd.underlying5⟩ (IntWalk.i64_in _ (by omega)) ?_)
  refine l_pure rfl (s_move  rfl ?_)
  refine l_pure rfl (s_rem  rfl rfl (by omega) (r := ((ss % 40 : Nat) : Int)) (by exact rem_nat ss 40) ?_)
  refine l_pure rfl (s_conv  rfl Tryd.underlying3 ⟨_, Tryd.underlying5⟩ (r := ((ss % 40 : Nat) : Int)) (by exact wr_i64 _ ⟨rfl, by omega, by omega⟩) ?_)
  refine l_pure rfl (s_asg  rfl ?_)
  refine l_pure rfl (s_asg  rfl ?_)
  refine l_nil ?_
  repeat (with_reducible first | refine c_seq ?_ | refine c_block ?_ | refine c_skip ?_ | refine x_then ?_ | refine x_block ?_)
  rw [← hs]
  repeat (with_reducible first | refine c_seq ?_ | refine c_block ?_ | refine c_skip ?_ | refine x_then ?_ | refine x_block ?_)
  refine c_forget (fun ρ' => ρ' 7 = vo ∧ ρ' 8 = .int .i64 cc ∧ ρ' 9 = .int .i64 s ∧ True) ⟨rfl, rfl, rfl, trivial⟩ ?_
  rintro ρk1 ⟨hk1_7, hk1_8, hk1_9, -⟩
  repeat (with_reducible first | refine c_seq ?_ | refine c_block ?_ | refine c_skip ?_ | refine x_then ?_ | refine x_block ?_)
  refine c_reg ?_
  refine l_pure rfl (s_move  hk1_7 ?_)
  refine l_pure rfl (s_move  hk1_8 ?_)
  refine l_pure rfl (s_move  hk1_9 ?_)
  refine l_heavy rfl (s_call Tryd.call18 rfl (OApply_ok 4 cc s _ l 1 _ ho hB (by rw [hM]; decide) (by omega)) ?_)
  rintro r w2 ⟨⟨vr, rfl, hr⟩, hB2⟩
  rw [hC]
  rw [show appL 4 l cc s = tab l.length fun i => ofQ (finQ l cc s i) from if_pos hC] at hr
  replace ho := ho.below hB2
  replace hS := hS.grow hB2
  have hW := hS.below
  clear hS
  have hS := St.init w2
  have htl : (tab l.length fun i => ofQ (finQ l cc s i)).length = l.length := tab_len _ _
  have hLf : ∀ i, i < l.length → L (finQ l cc s i) ≤ 84 := fun i hi => by
    have := L_finQ hB (by omega) cc s hi
    omega
  refine l_pure rfl (s_move  rfl ?_)
  refine l_pure rfl (s_ext  rfl rfl ?_)
  refine l_pure rfl (s_ext  rfl rfl ?_)
  refine l_pure rfl (s_asg  rfl ?_)
  refine l_pure rfl (s_asg  rfl ?_)
  refine l_nil ?_
  repeat (with_reducible first | refine c_seq ?_ | refine c_block ?_ | refine c_skip ?_ | refine x_then ?_ | refine x_block ?_)
  refine c_forget (fun ρ' => ρ' 7 = vo ∧ ρ' 8 = .int .i64 cc ∧ ρ' 9 = .int .i64 s ∧ ρ' 10 = vr ∧ ρ' 11 = .int .i64 0 ∧ True) ⟨hk1_7, hk1_8, hk1_9, rfl, rfl, trivial⟩ ?_
  rintro ρk2 ⟨hk2_7, hk2_8, hk2_9, hk2_10, hk2_11, -⟩
  repeat (with_reducible first | refine c_seq ?_ | refine c_block ?_ | refine c_skip ?_ | refine x_then ?_ | refine x_block ?_)
  refine c_reg ?_
  refine l_pure rfl (s_move  hk2_11 ?_)
  refine l_pure rfl (s_neq  rfl rfl ?_)
  refine l_pure rfl (s_move  rfl ?_)
  refine l_pure (gd_yes 34 (by kernel_rfl) rfl rfl) (s_move  hk2_10 ?_)
  refine l_pure (gd_yes 34 (by kernel_rfl) rfl rfl) (s_lenr  rfl hr ⟨_, Tryd.underlying37⟩ ?_)
  refine l_pure (gd_yes 34 (by kernel_rfl) rfl rfl) (s_move  hk2_7 ?_)
  refine l_pure (gd_yes 34 (by kernel_rfl) rfl rfl) (s_lenr  rfl ho ⟨_, Tryd.underlying22⟩ ?_)
  refine l_pure (gd_yes 34 (by kernel_rfl) rfl rfl) (s_neq  rfl rfl ?_)
  refine l_pure rfl (s_pick (vb rfl rfl) rfl ?_)
  refine l_nil ?_
  repeat (with_reducible first | refine c_seq ?_ | refine c_block ?_ | refine c_skip ?_ | refine x_then ?_ | refine x_block ?_)
  refine c_no rfl (decide_eq_false (by omega)) ?_
  repeat (with_reducible first | refine c_seq ?_ | refine c_block ?_ | refine c_skip ?_ | refine x_then ?_ | refine x_block ?_)
  refine c_forget (fun ρ' => ρ' 7 = vo ∧ ρ' 8 = .int .i64 cc ∧ ρ' 9 = .int .i64 s ∧ ρ' 10 = vr ∧ True) ⟨hk2_7, hk2_8, hk2_9, hk2_10, trivial⟩ ?_
  rintro ρk3 ⟨hk3_7, hk3_8, hk3_9, hk3_10, -⟩
  repeat (with_reducible first | refine c_seq ?_ | refine c_block ?_ | refine c_skip ?_ | refine x_then ?_ | refine x_block ?_)
  refine c_reg ?_
  refine l_pure rfl (s_move  hk3_7 ?_)
  refine l_pure rfl (s_lenr  rfl ho ⟨_, Tryd.underlying22⟩ ?_)
  refine l_pure rfl (s_move  rfl ?_)
  refine l_nil ?_
  repeat (with_reducible first | refine c_seq ?_ | refine c_block ?_ | refine c_skip ?_ | refine x_then ?_ | refine x_block ?_)
  refine c_loop (σ := Nat) (fun i ρ w' => i ≤ l.length ∧ ρ 7 = vo ∧ ρ 8 = .int .i64 cc ∧ ρ 9 = .int .i64 s ∧ ρ 10 = vr ∧ ρ 41 = vo ∧ ρ 42 = .int .i64 l.length ∧ ρ 43 = .int .i64 i ∧ St w2 w' []) (fun i => l.length - i) 0
    ⟨Nat.zero_le _, by assumption, by assumption, by assumption, by assumption, rfl, rfl, rfl, hS⟩ ?_
  clear hS
  rintro i ρ w3 ⟨hi, h7, h8, h9, h10, h41, h42, h43, hS⟩
  repeat (with_reducible first | refine c_seq ?_ | refine c_block ?_ | refine c_skip ?_ | refine x_then ?_ | refine x_block ?_)
  refine c_reg ?_
  refine l_pure rfl (s_lss  h43 h42 ?_)
  refine l_nil ?_
  repeat (with_reducible first | refine c_seq ?_ | refine c_block ?_ | refine c_skip ?_ | refine x_then ?_ | refine x_block ?_)
  by_cases hlt : i < l.length
  · refine c_yes rfl (decide_eq_true (by omega)) ?_
    repeat (with_reducible first | refine c_seq ?_ | refine c_block ?_ | refine c_skip ?_ | refine x_then ?_ | refine x_block ?_)
    obtain ⟨o, hoi⟩ : ∃ o, o = gO l i := ⟨_, rfl⟩
    repeat (with_reducible first | refine c_seq ?_ | refine c_block ?_ | refine c_skip ?_ | refine x_then ?_ | refine x_block ?_)
    refine c_reg ?_
    refine l_pure rfl (s_move  h43 ?_)
    refine l_pure rfl (s_ixr (i := i)  h41 h43 (ho.below hS.below) (by omega) (by first | omega | (simp; done) | (simp; omega)) si_22 ?_)
    refine l_read rfl (s_lde (i := i) zOb  rfl vi_28 (ho.below hS.below) (by first | omega | (simp; done) | (simp; omega)) rfl rfl (.inl rfl) ?_)
    refine l_heavy rfl (s_alloc  vi_28 hS ?_)
    intro b13 wz4 hS hBz4
    refine l_pure rfl (s_asg  rfl ?_)
    refine l_heavy rfl (s_sta (k := 0)  rfl rfl vi_28 hS rfl rfl rfl (Nat.le_of_ble_eq_true rfl) rfl ?_)
    intro wz5 hS
    refine l_nil ?_
    repeat (with_reducible first | refine c_seq ?_ | refine c_block ?_ | refine c_skip ?_ | refine x_then ?_ | refine x_block ?_)
    replace hS : St w2 _ [(b13, 28, encOb (gO l i))] := hS
    rw [← hoi] at hS
    repeat (with_reducible first | refine c_seq ?_ | refine c_block ?_ | refine c_skip ?_ | refine x_then ?_ | refine x_block ?_)
    refine c_forget (fun ρ' => ρ' 7 = vo ∧ ρ' 8 = .int .i64 cc ∧ ρ' 9 = .int .i64 s ∧ ρ' 10 = vr ∧ ρ' 41 = vo ∧ ρ' 42 = .int .i64 l.length ∧ ρ' 43 = .int .i64 i ∧ ρ' 12 = .int .i64 i ∧ ρ' 13 = .pointer (some ⟨b13, 0, none⟩) ∧ True) ⟨h7, h8, h9, h10, h41, h42, h43, rfl, rfl, trivial⟩ ?_
    rintro ρk6 ⟨hk6_7, hk6_8, hk6_9, hk6_10, hk6_41, hk6_42, hk6_43, hk6_12, hk6_13, -⟩
    repeat (with_reducible first | refine c_seq ?_ | refine c_block ?_ | refine c_skip ?_ | refine x_then ?_ | refine x_block ?_)
    refine c_reg ?_
    refine l_pure rfl (s_move  hk6_7 ?_)
    refine l_pure rfl (s_lenr  rfl (ho.below hS.below) ⟨_, Tryd.underlying22⟩ ?_)
    refine l_pure rfl (s_move  rfl ?_)
    refine l_nil ?_
    repeat (with_reducible first | refine c_seq ?_ | refine c_skip ?_ | refine x_then ?_ | refine x_block ?_)
    refine c_cut1 (fun ρ w' => ρ 7 = vo ∧ ρ 8 = .int .i64 cc ∧ ρ 9 = .int .i64 s ∧ ρ 10 = vr ∧ ρ 41 = vo ∧ ρ 42 = .int .i64 l.length ∧ ρ 43 = .int .i64 i ∧ St w2 w' []) ?_ ?_
    · repeat (with_reducible first | refine c_seq ?_ | refine c_block ?_ | refine c_skip ?_ | refine x_then ?_ | refine x_block ?_)
      refine c_loop (σ := Nat) (fun k ρ w' => k ≤ l.length ∧ ρ 7 = vo ∧ ρ 8 = .int .i64 cc ∧ ρ 9 = .int .i64 s ∧ ρ 10 = vr ∧ ρ 41 = vo ∧ ρ 42 = .int .i64 l.length ∧ ρ 43 = .int .i64 i ∧ ρ 12 = .int .i64 i ∧ ρ 13 = .pointer (some ⟨b13, 0, none⟩) ∧ ρ 48 = vo ∧ ρ 49 = .int .i64 l.length ∧ ρ 50 = .int .i64 k ∧
          St w2 w' [(b13, 28, encOb o)]) (fun k => l.length - k) 0
        ⟨Nat.zero_le _, by assumption, by assumption, by assumption, by assumption, by assumption, by assumption, by assumption, by assumption, by assumption, rfl, rfl, rfl, hS⟩ ?_
      clear hS h7 h8 h9 h10 h41 h42 h43
      rintro k ρ w4 ⟨hk, h7, h8, h9, h10, h41, h42, h43, h12, h13, h48, h49, h50, hS⟩
      repeat (with_reducible first | refine c_seq ?_ | refine c_block ?_ | refine c_skip ?_ | refine x_then ?_ | refine x_block ?_)
      refine c_reg ?_
      refine l_pure rfl (s_lss  h50 h49 ?_)
      refine l_nil ?_
      repeat (with_reducible first | refine c_seq ?_ | refine c_block ?_ | refine c_skip ?_ | refine x_then ?_ | refine x_block ?_)
      by_cases hltk : k < l.length
      · refine c_yes rfl (decide_eq_true (by omega)) ?_
        repeat (with_reducible first | refine c_seq ?_ | refine c_block ?_ | refine c_skip ?_ | refine x_then ?_ | refine x_block ?_)
        obtain ⟨p, hpk⟩ : ∃ p, p = gO l k := ⟨_, rfl⟩
        repeat (with_reducible first | refine c_seq ?_ | refine c_block ?_ | refine c_skip ?_ | refine x_then ?_ | refine x_block ?_)
        refine c_reg ?_
        refine l_pure rfl (s_move  h50 ?_)
        refine l_pure rfl (s_ixr (i := k)  h48 h50 (ho.below hS.below) (by omega) (by first | omega | (simp; done) | (simp; omega)) si_22 ?_)
        refine l_read rfl (s_lde (i := k) zOb  rfl vi_28 (ho.below hS.below) (by first | omega | (simp; done) | (simp; omega)) rfl rfl (.inl rfl) ?_)
        refine l_heavy rfl (s_alloc  vi_28 hS ?_)
        intro b15 wz7 hS hBz7
        refine l_pure rfl (s_asg  rfl ?_)
        refine l_heavy rfl (s_sta (k := 0)  rfl rfl vi_28 hS rfl rfl rfl (Nat.le_of_ble_eq_true rfl) rfl ?_)
        intro wz8 hS
        refine l_nil ?_
        repeat (with_reducible first | refine c_seq ?_ | refine c_block ?_ | refine c_skip ?_ | refine x_then ?_ | refine x_block ?_)
        replace hS : St w2 _ [(b15, 28, encOb (gO l k)), (b13, 28, encOb o)] := hS
        rw [← hpk] at hS
        repeat (with_reducible first | refine c_seq ?_ | refine c_block ?_ | refine c_skip ?_ | refine x_then ?_ | refine x_block ?_)
        refine c_forget (fun ρ' => ρ' 7 = vo ∧ ρ' 8 = .int .i64 cc ∧ ρ' 9 = .int .i64 s ∧ ρ' 10 = vr ∧ ρ' 41 = vo ∧ ρ' 42 = .int .i64 l.length ∧ ρ' 43 = .int .i64 i ∧ ρ' 12 = .int .i64 i ∧ ρ' 13 = .pointer (some ⟨b13, 0, none⟩) ∧ ρ' 48 = vo ∧ ρ' 49 = .int .i64 l.length ∧ ρ' 50 = .int .i64 k ∧ ρ' 14 = .int .i64 k ∧ ρ' 15 = .pointer (some ⟨b15, 0, none⟩) ∧ True) ⟨h7, h8, h9, h10, h41, h42, h43, h12, h13, h48, h49, h50, rfl, rfl, trivial⟩ ?_
        rintro ρk9 ⟨hk9_7, hk9_8, hk9_9, hk9_10, hk9_41, hk9_42, hk9_43, hk9_12, hk9_13, hk9_48, hk9_49, hk9_50, hk9_14, hk9_15, -⟩
        have hah : aheadB l i k = (decide (o.inc < p.inc) || (decide (o.inc = p.inc) && decide (i < k))) := by rw [hoi, hpk]; rfl
        refine c_cut1 (fun ρ w' => ρ 7 = vo ∧ ρ 8 = .int .i64 cc ∧ ρ 9 = .int .i64 s ∧ ρ 10 = vr ∧ ρ 41 = vo ∧ ρ 42 = .int .i64 l.length ∧ ρ 43 = .int .i64 i ∧ ρ 12 = .int .i64 i ∧ ρ 13 = .pointer (some ⟨b13, 0, none⟩) ∧ ρ 48 = vo ∧ ρ 49 = .int .i64 l.length ∧ ρ 50 = .int .i64 k ∧ ρ 14 = .int .i64 k ∧ ρ 15 = .pointer (some ⟨b15, 0, none⟩) ∧ ρ 16 = .bool (aheadB l i k) ∧
            St w2 w' [(b15, 28, encOb p), (b13, 28, encOb o)]) ?_ ?_
        · by_cases g1 : o.inc < p.inc
          · repeat (with_reducible first | refine c_seq ?_ | refine c_block ?_ | refine c_skip ?_ | refine x_then ?_ | refine x_block ?_)
            refine c_reg ?_
            refine l_pure rfl (s_fld  hk9_13 fo_28_3 ?_)
            refine l_read rfl (s_ldo (k := 1)  rfl vi_3 hS rfl rfl rfl (.inr rfl) ?_)
            refine l_pure rfl (s_fld  hk9_15 fo_28_3 ?_)
            refine l_read rfl (s_ldo (k := 0)  rfl vi_3 hS rfl rfl rfl (.inr rfl) ?_)
            refine l_pure rfl (s_lss  rfl rfl ?_)
            refine l_pure rfl (s_move  rfl ?_)
            refine l_no (gno_yes 60 (by kernel_rfl) rfl (decide_eq_true g1)) ?_
            refine l_no (gno_yes 60 (by kernel_rfl) rfl (decide_eq_true g1)) ?_
            refine l_no (gno_yes 60 (by kernel_rfl) rfl (decide_eq_true g1)) ?_
            refine l_no (gno_yes 60 (by kernel_rfl) rfl (decide_eq_true g1)) ?_
            refine l_no (gno_yes 60 (by kernel_rfl) rfl (decide_eq_true g1)) ?_
            refine l_no (gno_yes 60 (by kernel_rfl) rfl (decide_eq_true g1)) ?_
            refine l_no (gno_un 66 (by kernel_rfl) rfl) ?_
            refine l_no (gno_un 66 (by kernel_rfl) rfl) ?_
            refine l_no (gno_un 66 (by kernel_rfl) rfl) ?_
            refine l_no (gno_yes 60 (by kernel_rfl) rfl (decide_eq_true g1)) ?_
            refine l_pure rfl (s_pick (vb rfl (decide_eq_true g1)) rfl ?_)
            refine l_pure rfl (s_asg  rfl ?_)
            refine l_nil ?_
            repeat (with_reducible first | refine c_seq ?_ | refine c_block ?_ | refine c_skip ?_ | refine x_then ?_ | refine x_block ?_)
            exact ⟨_, rfl, by assumption, by assumption, by assumption, by assumption, by assumption, by assumption, by assumption, by assumption, by assumption, by assumption, by assumption, by assumption, by assumption, by assumption, vb rfl (by rw [hah]; simp [g1]), hS⟩
          · by_cases g2 : o.inc = p.inc
            · repeat (with_reducible first | refine c_seq ?_ | refine c_block ?_ | refine c_skip ?_ | refine x_then ?_ | refine x_block ?_)
              refine c_reg ?_
              refine l_pure rfl (s_fld  hk9_13 fo_28_3 ?_)
              refine l_read rfl (s_ldo (k := 1)  rfl vi_3 hS rfl rfl rfl (.inr rfl) ?_)
              refine l_pure rfl (s_fld  hk9_15 fo_28_3 ?_)
              refine l_read rfl (s_ldo (k := 0)  rfl vi_3 hS rfl rfl rfl (.inr rfl) ?_)
              refine l_pure rfl (s_lss  rfl rfl ?_)
              refine l_pure rfl (s_move  rfl ?_)
              refine l_pure (gd_yes 60 (by kernel_rfl) rfl (decide_eq_false g1)) (s_fld  hk9_13 fo_28_3 ?_)
              refine l_read (gd_yes 60 (by kernel_rfl) rfl (decide_eq_false g1)) (s_ldo (k := 1)  rfl vi_3 hS rfl rfl rfl (.inr rfl) ?_)
              refine l_pure (gd_yes 60 (by kernel_rfl) rfl (decide_eq_false g1)) (s_fld  hk9_15 fo_28_3 ?_)
              refine l_read (gd_yes 60 (by kernel_rfl) rfl (decide_eq_false g1)) (s_ldo (k := 0)  rfl vi_3 hS rfl rfl rfl (.inr rfl) ?_)
              refine l_pure (gd_yes 60 (by kernel_rfl) rfl (decide_eq_false g1)) (s_eql  rfl rfl ?_)
              refine l_pure (gd_yes 60 (by kernel_rfl) rfl (decide_eq_false g1)) (s_move  rfl ?_)
              refine l_pure (gd_yes 66 (by kernel_rfl) rfl (decide_eq_true g2)) (s_move  hk9_12 ?_)
              refine l_pure (gd_yes 66 (by kernel_rfl) rfl (decide_eq_true g2)) (s_move  hk9_14 ?_)
              refine l_pure (gd_yes 66 (by kernel_rfl) rfl (decide_eq_true g2)) (s_lss  rfl rfl ?_)
              refine l_pure (gd_yes 60 (by kernel_rfl) rfl (decide_eq_false g1)) (s_pick (vb rfl (decide_eq_true g2)) rfl ?_)
              refine l_pure rfl (s_pick (vb rfl (decide_eq_false g1)) rfl ?_)
              refine l_pure rfl (s_asg  rfl ?_)
              refine l_nil ?_
              repeat (with_reducible first | refine c_seq ?_ | refine c_block ?_ | refine c_skip ?_ | refine x_then ?_ | refine x_block ?_)
              exact ⟨_, rfl, by assumption, by assumption, by assumption, by assumption, by assumption, by assumption, by assumption, by assumption, by assumption, by assumption, by assumption, by assumption, by assumption, by assumption, vb rfl (by rw [hah, decide_eq_true g2, decide_eq_false g1]; simp), hS⟩
            · repeat (with_reducible first | refine c_seq ?_ | refine c_block ?_ | refine c_skip ?_ | refine x_then ?_ | refine x_block ?_)
              refine c_reg ?_
              refine l_pure rfl (s_fld  hk9_13 fo_28_3 ?_)
              refine l_read rfl (s_ldo (k := 1)  rfl vi_3 hS rfl rfl rfl (.inr rfl) ?_)
              refine l_pure rfl (s_fld  hk9_15 fo_28_3 ?_)
              refine l_read rfl (s_ldo (k := 0)  rfl vi_3 hS rfl rfl rfl (.inr rfl) ?_)
              refine l_pure rfl (s_lss  rfl rfl ?_)
              refine l_pure rfl (s_move  rfl ?_)
              refine l_pure (gd_yes 60 (by kernel_rfl) rfl (decide_eq_false g1)) (s_fld  hk9_13 fo_28_3 ?_)
              refine l_read (gd_yes 60 (by kernel_rfl) rfl (decide_eq_false g1)) (s_ldo (k := 1)  rfl vi_3 hS rfl rfl rfl (.inr rfl) ?_)
              refine l_pure (gd_yes 60 (by kernel_rfl) rfl (decide_eq_false g1)) (s_fld  hk9_15 fo_28_3 ?_)
              refine l_read (gd_yes 60 (by kernel_rfl) rfl (decide_eq_false g1)) (s_ldo (k := 0)  rfl vi_3 hS rfl rfl rfl (.inr rfl) ?_)
              refine l_pure (gd_yes 60 (by kernel_rfl) rfl (decide_eq_false g1)) (s_eql  rfl rfl ?_)
              refine l_pure (gd_yes 60 (by kernel_rfl) rfl (decide_eq_false g1)) (s_move  rfl ?_)
              refine l_no (gno_yes 66 (by kernel_rfl) rfl (decide_eq_false g2)) ?_
              refine l_no (gno_yes 66 (by kernel_rfl) rfl (decide_eq_false g2)) ?_
              refine l_no (gno_yes 66 (by kernel_rfl) rfl (decide_eq_false g2)) ?_
              refine l_pure (gd_yes 60 (by kernel_rfl) rfl (decide_eq_false g1)) (s_pick (vb rfl (decide_eq_false g2)) rfl ?_)
              refine l_pure rfl (s_pick (vb rfl (decide_eq_false g1)) rfl ?_)
              refine l_pure rfl (s_asg  rfl ?_)
              refine l_nil ?_
              repeat (with_reducible first | refine c_seq ?_ | refine c_block ?_ | refine c_skip ?_ | refine x_then ?_ | refine x_block ?_)
              exact ⟨_, rfl, by assumption, by assumption, by assumption, by assumption, by assumption, by assumption, by assumption, by assumption, by assumption, by assumption, by assumption, by assumption, by assumption, by assumption, vb rfl (by rw [hah]; simp [g1, g2]), hS⟩
        clear hS h7 h8 h9 h10 h41 h42 h43 h12 h13 h48 h49 h50
        rintro ρ w5 ⟨h7, h8, h9, h10, h41, h42, h43, h12, h13, h48, h49, h50, h14, h15, h16, hS⟩
        repeat (with_reducible first | refine c_seq ?_ | refine c_block ?_ | refine c_skip ?_ | refine x_then ?_ | refine x_block ?_)
        have hsm : sameB l cc s i k = (decide (o.deb = p.deb) && decide (o.cre = p.cre) && eligB o cc s && eligB p cc s) := by rw [hoi, hpk]; rfl
        refine c_cut1 (fun ρ w' => ρ 7 = vo ∧ ρ 8 = .int .i64 cc ∧ ρ 9 = .int .i64 s ∧ ρ 10 = vr ∧ ρ 41 = vo ∧ ρ 42 = .int .i64 l.length ∧ ρ 43 = .int .i64 i ∧ ρ 12 = .int .i64 i ∧ ρ 13 = .pointer (some ⟨b13, 0, none⟩) ∧ ρ 48 = vo ∧ ρ 49 = .int .i64 l.length ∧ ρ 50 = .int .i64 k ∧ ρ 14 = .int .i64 k ∧ ρ 15 = .pointer (some ⟨b15, 0, none⟩) ∧ ρ 16 = .bool (aheadB l i k) ∧ ρ 17 = .bool (sameB l cc s i k) ∧
            St w2 w' [(b15, 28, encOb p), (b13, 28, encOb o)]) ?_ ?_
        · rw [hsm]
          by_cases g1 : o.deb = p.deb
          case neg =>
            repeat (with_reducible first | refine c_seq ?_ | refine c_block ?_ | refine c_skip ?_ | refine x_then ?_ | refine x_block ?_)
            refine c_reg ?_
            refine l_pure rfl (s_fld  h13 fo_28_0 ?_)
            refine l_read rfl (s_ldo (k := 1)  rfl vi_3 hS rfl rfl rfl (.inr rfl) ?_)
            refine l_pure rfl (s_fld  h15 fo_28_0 ?_)
            refine l_read rfl (s_ldo (k := 0)  rfl vi_3 hS rfl rfl rfl (.inr rfl) ?_)
            refine l_pure rfl (s_eql  rfl rfl ?_)
            refine l_pure rfl (s_move  rfl ?_)
            refine l_no (gno_yes 77 (by kernel_rfl) rfl (decide_eq_false g1)) ?_
            refine l_no (gno_yes 77 (by kernel_rfl) rfl (decide_eq_false g1)) ?_
            refine l_no (gno_yes 77 (by kernel_rfl) rfl (decide_eq_false g1)) ?_
            refine l_no (gno_yes 77 (by kernel_rfl) rfl (decide_eq_false g1)) ?_
            refine l_no (gno_yes 77 (by kernel_rfl) rfl (decide_eq_false g1)) ?_
            refine l_pure rfl (s_pick (vb rfl (decide_eq_false g1)) rfl ?_)
            refine l_pure rfl (s_move  rfl ?_)
            refine l_no (gno_yes 84 (by kernel_rfl) rfl rfl) ?_
            refine l_no (gno_yes 84 (by kernel_rfl) rfl rfl) ?_
            refine l_no (gno_yes 84 (by kernel_rfl) rfl rfl) ?_
            refine l_no (gno_yes 84 (by kernel_rfl) rfl rfl) ?_
            refine l_pure rfl (s_pick (vb rfl rfl) rfl ?_)
            refine l_pure rfl (s_move  rfl ?_)
            refine l_no (gno_yes 90 (by kernel_rfl) rfl rfl) ?_
            refine l_no (gno_yes 90 (by kernel_rfl) rfl rfl) ?_
            refine l_no (gno_yes 90 (by kernel_rfl) rfl rfl) ?_
            refine l_no (gno_yes 90 (by kernel_rfl) rfl rfl) ?_
            refine l_pure rfl (s_pick (vb rfl rfl) rfl ?_)
            refine l_pure rfl (s_asg  rfl ?_)
            refine l_nil ?_
            repeat (with_reducible first | refine c_seq ?_ | refine c_block ?_ | refine c_skip ?_ | refine x_then ?_ | refine x_block ?_)
            exact ⟨_, rfl, by assumption, by assumption, by assumption, by assumption, by assumption, by assumption, by assumption, by assumption, by assumption, by assumption, by assumption, by assumption, by assumption, by assumption, by assumption, vb rfl (by simp [g1]), hS⟩
          by_cases g2 : o.cre = p.cre
          case neg =>
            repeat (with_reducible first | refine c_seq ?_ | refine c_block ?_ | refine c_skip ?_ | refine x_then ?_ | refine x_block ?_)
            refine c_reg ?_
            refine l_pure rfl (s_fld  h13 fo_28_0 ?_)
            refine l_read rfl (s_ldo (k := 1)  rfl vi_3 hS rfl rfl rfl (.inr rfl) ?_)
            refine l_pure rfl (s_fld  h15 fo_28_0 ?_)
            refine l_read rfl (s_ldo (k := 0)  rfl vi_3 hS rfl rfl rfl (.inr rfl) ?_)
            refine l_pure rfl (s_eql  rfl rfl ?_)
            refine l_pure rfl (s_move  rfl ?_)
            refine l_pure (gd_yes 77 (by kernel_rfl) rfl (decide_eq_true g1)) (s_fld  h13 fo_28_1 ?_)
            refine l_read (gd_yes 77 (by kernel_rfl) rfl (decide_eq_true g1)) (s_ldo (k := 1)  rfl vi_3 hS rfl rfl rfl (.inr rfl) ?_)
            refine l_pure (gd_yes 77 (by kernel_rfl) rfl (decide_eq_true g1)) (s_fld  h15 fo_28_1 ?_)
            refine l_read (gd_yes 77 (by kernel_rfl) rfl (decide_eq_true g1)) (s_ldo (k := 0)  rfl vi_3 hS rfl rfl rfl (.inr rfl) ?_)
            refine l_pure (gd_yes 77 (by kernel_rfl) rfl (decide_eq_true g1)) (s_eql  rfl rfl ?_)
            refine l_pure rfl (s_pick (vb rfl (decide_eq_true g1)) rfl ?_)
            refine l_pure rfl (s_move  rfl ?_)
            refine l_no (gno_yes 84 (by kernel_rfl) rfl (decide_eq_false g2)) ?_
            refine l_no (gno_yes 84 (by kernel_rfl) rfl (decide_eq_false g2)) ?_
            refine l_no (gno_yes 84 (by kernel_rfl) rfl (decide_eq_false g2)) ?_
            refine l_no (gno_yes 84 (by kernel_rfl) rfl (decide_eq_false g2)) ?_
            refine l_pure rfl (s_pick (vb rfl (decide_eq_false g2)) rfl ?_)
            refine l_pure rfl (s_move  rfl ?_)
            refine l_no (gno_yes 90 (by kernel_rfl) rfl rfl) ?_
            refine l_no (gno_yes 90 (by kernel_rfl) rfl rfl) ?_
            refine l_no (gno_yes 90 (by kernel_rfl) rfl rfl) ?_
            refine l_no (gno_yes 90 (by kernel_rfl) rfl rfl) ?_
            refine l_pure rfl (s_pick (vb rfl rfl) rfl ?_)
            refine l_pure rfl (s_asg  rfl ?_)
            refine l_nil ?_
            repeat (with_reducible first | refine c_seq ?_ | refine c_block ?_ | refine c_skip ?_ | refine x_then ?_ | refine x_block ?_)
            exact ⟨_, rfl, by assumption, by assumption, by assumption, by assumption, by assumption, by assumption, by assumption, by assumption, by assumption, by assumption, by assumption, by assumption, by assumption, by assumption, by assumption, vb rfl (by simp [g2]), hS⟩
          cases g3 : eligB o cc s with
          | false =>
            repeat (with_reducible first | refine c_seq ?_ | refine c_block ?_ | refine c_skip ?_ | refine x_then ?_ | refine x_block ?_)
            refine c_reg ?_
            refine l_pure rfl (s_fld  h13 fo_28_0 ?_)
            refine l_read rfl (s_ldo (k := 1)  rfl vi_3 hS rfl rfl rfl (.inr rfl) ?_)
            refine l_pure rfl (s_fld  h15 fo_28_0 ?_)
            refine l_read rfl (s_ldo (k := 0)  rfl vi_3 hS rfl rfl rfl (.inr rfl) ?_)
            refine l_pure rfl (s_eql  rfl rfl ?_)
            refine l_pure rfl (s_move  rfl ?_)
            refine l_pure (gd_yes 77 (by kernel_rfl) rfl (decide_eq_true g1)) (s_fld  h13 fo_28_1 ?_)
            refine l_read (gd_yes 77 (by kernel_rfl) rfl (decide_eq_true g1)) (s_ldo (k := 1)  rfl vi_3 hS rfl rfl rfl (.inr rfl) ?_)
            refine l_pure (gd_yes 77 (by kernel_rfl) rfl (decide_eq_true g1)) (s_fld  h15 fo_28_1 ?_)
            refine l_read (gd_yes 77 (by kernel_rfl) rfl (decide_eq_true g1)) (s_ldo (k := 0)  rfl vi_3 hS rfl rfl rfl (.inr rfl) ?_)
            refine l_pure (gd_yes 77 (by kernel_rfl) rfl (decide_eq_true g1)) (s_eql  rfl rfl ?_)
            refine l_pure rfl (s_pick (vb rfl (decide_eq_true g1)) rfl ?_)
            refine l_pure rfl (s_move  rfl ?_)
            refine l_read (gd_yes 84 (by kernel_rfl) rfl (decide_eq_true g2)) (s_ldo (k := 1)  h13 vi_28 hS rfl rfl rfl (.inl rfl) ?_)
            refine l_pure (gd_yes 84 (by kernel_rfl) rfl (decide_eq_true g2)) (s_move  h8 ?_)
            refine l_pure (gd_yes 84 (by kernel_rfl) rfl (decide_eq_true g2)) (s_move  h9 ?_)
            refine l_heavy (gd_yes 84 (by kernel_rfl) rfl (decide_eq_true g2)) (s_call Tryd.call13 rfl (Eligible_ok o cc s _) ?_)
            rintro _ wc10 ⟨rfl, hBc10⟩
            replace hS := hS.grow hBc10
            refine l_pure rfl (s_pick (vb rfl (decide_eq_true g2)) rfl ?_)
            refine l_pure rfl (s_move  rfl ?_)
            refine l_no (gno_yes 90 (by kernel_rfl) rfl g3) ?_
            refine l_no (gno_yes 90 (by kernel_rfl) rfl g3) ?_
            refine l_no (gno_yes 90 (by kernel_rfl) rfl g3) ?_
            refine l_no (gno_yes 90 (by kernel_rfl) rfl g3) ?_
            refine l_pure rfl (s_pick (vb rfl g3) rfl ?_)
            refine l_pure rfl (s_asg  rfl ?_)
            refine l_nil ?_
            repeat (with_reducible first | refine c_seq ?_ | refine c_block ?_ | refine c_skip ?_ | refine x_then ?_ | refine x_block ?_)
            exact ⟨_, rfl, by assumption, by assumption, by assumption, by assumption, by assumption, by assumption, by assumption, by assumption, by assumption, by assumption, by assumption, by assumption, by assumption, by assumption, by assumption, vb rfl (by simp), hS⟩
          | true =>
            repeat (with_reducible first | refine c_seq ?_ | refine c_block ?_ | refine c_skip ?_ | refine x_then ?_ | refine x_block ?_)
            refine c_reg ?_
            refine l_pure rfl (s_fld  h13 fo_28_0 ?_)
            refine l_read rfl (s_ldo (k := 1)  rfl vi_3 hS rfl rfl rfl (.inr rfl) ?_)
            refine l_pure rfl (s_fld  h15 fo_28_0 ?_)
            refine l_read rfl (s_ldo (k := 0)  rfl vi_3 hS rfl rfl rfl (.inr rfl) ?_)
            refine l_pure rfl (s_eql  rfl rfl ?_)
            refine l_pure rfl (s_move  rfl ?_)
            refine l_pure (gd_yes 77 (by kernel_rfl) rfl (decide_eq_true g1)) (s_fld  h13 fo_28_1 ?_)
            refine l_read (gd_yes 77 (by kernel_rfl) rfl (decide_eq_true g1)) (s_ldo (k := 1)  rfl vi_3 hS rfl rfl rfl (.inr rfl) ?_)
            refine l_pure (gd_yes 77 (by kernel_rfl) rfl (decide_eq_true g1)) (s_fld  h15 fo_28_1 ?_)
            refine l_read (gd_yes 77 (by kernel_rfl) rfl (decide_eq_true g1)) (s_ldo (k := 0)  rfl vi_3 hS rfl rfl rfl (.inr rfl) ?_)
            refine l_pure (gd_yes 77 (by kernel_rfl) rfl (decide_eq_true g1)) (s_eql  rfl rfl ?_)
            refine l_pure rfl (s_pick (vb rfl (decide_eq_true g1)) rfl ?_)
            refine l_pure rfl (s_move  rfl ?_)
            refine l_read (gd_yes 84 (by kernel_rfl) rfl (decide_eq_true g2)) (s_ldo (k := 1)  h13 vi_28 hS rfl rfl rfl (.inl rfl) ?_)
            refine l_pure (gd_yes 84 (by kernel_rfl) rfl (decide_eq_true g2)) (s_move  h8 ?_)
            refine l_pure (gd_yes 84 (by kernel_rfl) rfl (decide_eq_true g2)) (s_move  h9 ?_)
            refine l_heavy (gd_yes 84 (by kernel_rfl) rfl (decide_eq_true g2)) (s_call Tryd.call13 rfl (Eligible_ok o cc s _) ?_)
            rintro _ wc11 ⟨rfl, hBc11⟩
            replace hS := hS.grow hBc11
            refine l_pure rfl (s_pick (vb rfl (decide_eq_true g2)) rfl ?_)
            refine l_pure rfl (s_move  rfl ?_)
            refine l_read (gd_yes 90 (by kernel_rfl) rfl g3) (s_ldo (k := 0)  h15 vi_28 hS rfl rfl rfl (.inl rfl) ?_)
            refine l_pure (gd_yes 90 (by kernel_rfl) rfl g3) (s_move  h8 ?_)
            refine l_pure (gd_yes 90 (by kernel_rfl) rfl g3) (s_move  h9 ?_)
            refine l_heavy (gd_yes 90 (by kernel_rfl) rfl g3) (s_call Tryd.call13 rfl (Eligible_ok p cc s _) ?_)
            rintro _ wc12 ⟨rfl, hBc12⟩
            replace hS := hS.grow hBc12
            refine l_pure rfl (s_pick (vb rfl g3) rfl ?_)
            refine l_pure rfl (s_asg  rfl ?_)
            refine l_nil ?_
            repeat (with_reducible first | refine c_seq ?_ | refine c_block ?_ | refine c_skip ?_ | refine x_then ?_ | refine x_block ?_)
            exact ⟨_, rfl, by assumption, by assumption, by assumption, by assumption, by assumption, by assumption, by assumption, by assumption, by assumption, by assumption, by assumption, by assumption, by assumption, by assumption, by assumption, vb rfl (by simp [g1, g2]), hS⟩
        clear hS h7 h8 h9 h10 h41 h42 h43 h12 h13 h48 h49 h50 h14 h15 h16
        rintro ρ w6 ⟨h7, h8, h9, h10, h41, h42, h43, h12, h13, h48, h49, h50, h14, h15, h16, h17, hS⟩
        repeat (with_reducible first | refine c_seq ?_ | refine c_block ?_ | refine c_skip ?_ | refine x_then ?_ | refine x_block ?_)
        have hgk : (tab l.length fun i => ofQ (finQ l cc s i)).getD k zRR = ofQ (finQ l cc s k) := fin_get hltk
        have hgi : (tab l.length fun i => ofQ (finQ l cc s i)).getD i zRR = ofQ (finQ l cc s i) := fin_get hlt
        have hpa : p.amt = ofQ (oQ l k) := by rw [hpk]; exact hamt k hltk
        have hLi := hLf i hlt
        refine c_cut1 (fun ρ w' => ρ 7 = vo ∧ ρ 8 = .int .i64 cc ∧ ρ 9 = .int .i64 s ∧ ρ 10 = vr ∧ ρ 41 = vo ∧ ρ 42 = .int .i64 l.length ∧ ρ 43 = .int .i64 i ∧ ρ 12 = .int .i64 i ∧ ρ 13 = .pointer (some ⟨b13, 0, none⟩) ∧ ρ 48 = vo ∧ ρ 49 = .int .i64 l.length ∧ ρ 50 = .int .i64 k ∧ ρ 116 = .bool false ∧
            St w2 w' [(b15, 28, encOb p), (b13, 28, encOb o)]) ?_ ?_
        · cases g1 : aheadB l i k with
          | false =>
            repeat (with_reducible first | refine c_seq ?_ | refine c_block ?_ | refine c_skip ?_ | refine x_then ?_ | refine x_block ?_)
            refine c_draw [(0, .pure), (1, .pure), (2, .pure), (3, .pure), (4, .pure), (5, .pure), (6, .pure), (7, .pure), (8, .read), (9, .pure), (10, .read), (11, .pure), (12, .pure), (13, .pure), (14, .pure), (15, .pure), (16, .pure), (17, .read), (18, .grow), (19, .pure), (20, .pure)] (by kernel_rfl) (by kernel_rfl) hS ?_
            intro wz13 hS hBz13
            refine w_pure rfl rfl (s_move  h16 ?_)
            refine w_pure rfl rfl (s_move  rfl ?_)
            refine w_no rfl (gno_yes 97 (by kernel_rfl) rfl g1) ?_
            refine w_pure rfl rfl (s_pick (vb rfl g1) rfl ?_)
            refine w_pure rfl rfl (s_move  rfl ?_)
            refine w_no rfl (gno_yes 100 (by kernel_rfl) rfl rfl) ?_
            refine w_no rfl (gno_yes 100 (by kernel_rfl) rfl rfl) ?_
            refine w_no rfl (gno_yes 100 (by kernel_rfl) rfl rfl) ?_
            refine w_no rfl (gno_yes 100 (by kernel_rfl) rfl rfl) ?_
            refine w_no rfl (gno_yes 100 (by kernel_rfl) rfl rfl) ?_
            refine w_no rfl (gno_yes 100 (by kernel_rfl) rfl rfl) ?_
            refine w_no rfl (gno_yes 100 (by kernel_rfl) rfl rfl) ?_
            refine w_pure rfl rfl (s_pick (vb rfl rfl) rfl ?_)
            refine w_pure rfl rfl (s_move  rfl ?_)
            refine w_no rfl (gno_yes 109 (by kernel_rfl) rfl rfl) ?_
            refine w_no rfl (gno_yes 109 (by kernel_rfl) rfl rfl) ?_
            refine w_no rfl (gno_yes 109 (by kernel_rfl) rfl rfl) ?_
            refine w_no rfl (gno_yes 109 (by kernel_rfl) rfl rfl) ?_
            refine w_no rfl (gno_yes 109 (by kernel_rfl) rfl rfl) ?_
            refine w_no rfl (gno_yes 109 (by kernel_rfl) rfl rfl) ?_
            refine w_pure rfl rfl (s_pick (vb rfl rfl) rfl ?_)
            refine w_end ?_
            repeat (with_reducible first | refine c_seq ?_ | refine c_block ?_ | refine c_skip ?_ | refine x_then ?_ | refine x_block ?_)
            exact ⟨_, rfl, by assumption, by assumption, by assumption, by assumption, by assumption, by assumption, by assumption, by assumption, by assumption, by assumption, by assumption, by assumption, rfl, hS⟩
          | true =>
          cases g2 : sameB l cc s i k with
          | false =>
            repeat (with_reducible first | refine c_seq ?_ | refine c_block ?_ | refine c_skip ?_ | refine x_then ?_ | refine x_block ?_)
            refine c_draw [(0, .pure), (1, .pure), (2, .pure), (3, .pure), (4, .pure), (5, .pure), (6, .pure), (7, .pure), (8, .read), (9, .pure), (10, .read), (11, .pure), (12, .pure), (13, .pure), (14, .pure), (15, .pure), (16, .pure), (17, .read), (18, .grow), (19, .pure), (20, .pure)] (by kernel_rfl) (by kernel_rfl) hS ?_
            intro wz14 hS hBz14
            refine w_pure rfl rfl (s_move  h16 ?_)
            refine w_pure rfl rfl (s_move  rfl ?_)
            refine w_pure rfl (gd_yes 97 (by kernel_rfl) rfl g1) (s_move  h17 ?_)
            refine w_pure rfl rfl (s_pick (vb rfl g1) rfl ?_)
            refine w_pure rfl rfl (s_move  rfl ?_)
            refine w_no rfl (gno_yes 100 (by kernel_rfl) rfl g2) ?_
            refine w_no rfl (gno_yes 100 (by kernel_rfl) rfl g2) ?_
            refine w_no rfl (gno_yes 100 (by kernel_rfl) rfl g2) ?_
            refine w_no rfl (gno_yes 100 (by kernel_rfl) rfl g2) ?_
            refine w_no rfl (gno_yes 100 (by kernel_rfl) rfl g2) ?_
            refine w_no rfl (gno_yes 100 (by kernel_rfl) rfl g2) ?_
            refine w_no rfl (gno_yes 100 (by kernel_rfl) rfl g2) ?_
            refine w_pure rfl rfl (s_pick (vb rfl g2) rfl ?_)
            refine w_pure rfl rfl (s_move  rfl ?_)
            refine w_no rfl (gno_yes 109 (by kernel_rfl) rfl rfl) ?_
            refine w_no rfl (gno_yes 109 (by kernel_rfl) rfl rfl) ?_
            refine w_no rfl (gno_yes 109 (by kernel_rfl) rfl rfl) ?_
            refine w_no rfl (gno_yes 109 (by kernel_rfl) rfl rfl) ?_
            refine w_no rfl (gno_yes 109 (by kernel_rfl) rfl rfl) ?_
            refine w_no rfl (gno_yes 109 (by kernel_rfl) rfl rfl) ?_
            refine w_pure rfl rfl (s_pick (vb rfl rfl) rfl ?_)
            refine w_end ?_
            repeat (with_reducible first | refine c_seq ?_ | refine c_block ?_ | refine c_skip ?_ | refine x_then ?_ | refine x_block ?_)
            exact ⟨_, rfl, by assumption, by assumption, by assumption, by assumption, by assumption, by assumption, by assumption, by assumption, by assumption, by assumption, by assumption, by assumption, rfl, hS⟩
          | true =>
          by_cases g3 : finQ l cc s k = oQ l k
          · have g3' : decide (ofQ (finQ l cc s k) ≠ p.amt) = false := decide_eq_false (by rw [hpa, g3]; simp)
            repeat (with_reducible first | refine c_seq ?_ | refine c_block ?_ | refine c_skip ?_ | refine x_then ?_ | refine x_block ?_)
            refine c_draw [(0, .pure), (1, .pure), (2, .pure), (3, .pure), (4, .pure), (5, .pure), (6, .pure), (7, .pure), (8, .read), (9, .pure), (10, .read), (11, .pure), (12, .pure), (13, .pure), (14, .pure), (15, .pure), (16, .pure), (17, .read), (18, .grow), (19, .pure), (20, .pure)] (by kernel_rfl) (by kernel_rfl) hS ?_
            intro wz15 hS hBz15
            refine w_pure rfl rfl (s_move  h16 ?_)
            refine w_pure rfl rfl (s_move  rfl ?_)
            refine w_pure rfl (gd_yes 97 (by kernel_rfl) rfl g1) (s_move  h17 ?_)
            refine w_pure rfl rfl (s_pick (vb rfl g1) rfl ?_)
            refine w_pure rfl rfl (s_move  rfl ?_)
            refine w_pure rfl (gd_yes 100 (by kernel_rfl) rfl g2) (s_move  h10 ?_)
            refine w_pure rfl (gd_yes 100 (by kernel_rfl) rfl g2) (s_move  h14 ?_)
            refine w_pure rfl (gd_yes 100 (by kernel_rfl) rfl g2) (s_ixr (i := k)  rfl rfl (hr.below hS.below) (by omega) (by first | omega | (simp; done) | (simp; omega)) si_37 ?_)
            refine w_read rfl (gd_yes 100 (by kernel_rfl) rfl g2) (s_lde (v := aggR (ofQ (finQ l cc s k))) (i := k) zRR  rfl vi_26 (hr.below hS.below) (by omega) rfl (by rw [hgk]; rfl) (.inl rfl) ?_)
            refine w_pure rfl (gd_yes 100 (by kernel_rfl) rfl g2) (s_fld  h15 fo_28_2 ?_)
            refine w_read rfl (gd_yes 100 (by kernel_rfl) rfl g2) (s_ldo (k := 0)  rfl vi_26 hS rfl rfl rfl (.inl rfl) ?_)
            refine w_pure rfl (gd_yes 100 (by kernel_rfl) rfl g2) (s_neR  rfl rfl ?_)
            refine w_pure rfl rfl (s_pick (vb rfl g2) rfl ?_)
            refine w_pure rfl rfl (s_move  rfl ?_)
            refine w_no rfl (gno_yes 109 (by kernel_rfl) rfl g3') ?_
            refine w_no rfl (gno_yes 109 (by kernel_rfl) rfl g3') ?_
            refine w_no rfl (gno_yes 109 (by kernel_rfl) rfl g3') ?_
            refine w_no rfl (gno_yes 109 (by kernel_rfl) rfl g3') ?_
            refine w_no rfl (gno_yes 109 (by kernel_rfl) rfl g3') ?_
            refine w_no rfl (gno_yes 109 (by kernel_rfl) rfl g3') ?_
            refine w_pure rfl rfl (s_pick (vb rfl g3') rfl ?_)
            refine w_end ?_
            repeat (with_reducible first | refine c_seq ?_ | refine c_block ?_ | refine c_skip ?_ | refine x_then ?_ | refine x_block ?_)
            exact ⟨_, rfl, by assumption, by assumption, by assumption, by assumption, by assumption, by assumption, by assumption, by assumption, by assumption, by assumption, by assumption, by assumption, rfl, hS⟩
          · have g3' : decide (ofQ (finQ l cc s k) ≠ p.amt) = true := decide_eq_true (by rw [hpa]; exact fun e => g3 (ofQ_inj e))
            have g4 : finQ l cc s i = 0 := (old_law hN hlt hltk g1 g2).resolve_left g3
            repeat (with_reducible first | refine c_seq ?_ | refine c_block ?_ | refine c_skip ?_ | refine x_then ?_ | refine x_block ?_)
            refine c_draw [(0, .pure), (1, .pure), (2, .pure), (3, .pure), (4, .pure), (5, .pure), (6, .pure), (7, .pure), (8, .read), (9, .pure), (10, .read), (11, .pure), (12, .pure), (13, .pure), (14, .pure), (15, .pure), (16, .pure), (17, .read), (18, .grow), (19, .pure), (20, .pure)] (by kernel_rfl) (by kernel_rfl) hS ?_
            intro wz16 hS hBz16
            refine w_pure rfl rfl (s_move  h16 ?_)
            refine w_pure rfl rfl (s_move  rfl ?_)
            refine w_pure rfl (gd_yes 97 (by kernel_rfl) rfl g1) (s_move  h17 ?_)
            refine w_pure rfl rfl (s_pick (vb rfl g1) rfl ?_)
            refine w_pure rfl rfl (s_move  rfl ?_)
            refine w_pure rfl (gd_yes 100 (by kernel_rfl) rfl g2) (s_move  h10 ?_)
            refine w_pure rfl (gd_yes 100 (by kernel_rfl) rfl g2) (s_move  h14 ?_)
            refine w_pure rfl (gd_yes 100 (by kernel_rfl) rfl g2) (s_ixr (i := k)  rfl rfl (hr.below hS.below) (by omega) (by first | omega | (simp; done) | (simp; omega)) si_37 ?_)
            refine w_read rfl (gd_yes 100 (by kernel_rfl) rfl g2) (s_lde (v := aggR (ofQ (finQ l cc s k))) (i := k) zRR  rfl vi_26 (hr.below hS.below) (by omega) rfl (by rw [hgk]; rfl) (.inl rfl) ?_)
            refine w_pure rfl (gd_yes 100 (by kernel_rfl) rfl g2) (s_fld  h15 fo_28_2 ?_)
            refine w_read rfl (gd_yes 100 (by kernel_rfl) rfl g2) (s_ldo (k := 0)  rfl vi_26 hS rfl rfl rfl (.inl rfl) ?_)
            refine w_pure rfl (gd_yes 100 (by kernel_rfl) rfl g2) (s_neR  rfl rfl ?_)
            refine w_pure rfl rfl (s_pick (vb rfl g2) rfl ?_)
            refine w_pure rfl rfl (s_move  rfl ?_)
            refine w_pure rfl (gd_yes 109 (by kernel_rfl) rfl g3') (s_move  h10 ?_)
            refine w_pure rfl (gd_yes 109 (by kernel_rfl) rfl g3') (s_move  h12 ?_)
            refine w_pure rfl (gd_yes 109 (by kernel_rfl) rfl g3') (s_ixr (i := i)  rfl rfl (hr.below hS.below) (by omega) (by first | omega | (simp; done) | (simp; omega)) si_37 ?_)
            refine w_read rfl (gd_yes 109 (by kernel_rfl) rfl g3') (s_lde (i := i) zRR  rfl vi_26 (hr.below hS.below) (by first | omega | (simp; done) | (simp; omega)) rfl rfl (.inl rfl) ?_)
            rw [hgi]
            refine w_grow rfl (gd_yes 109 (by kernel_rfl) rfl g3') (s_call Tryd.call19 rfl (Sign_ok (ofQ (finQ l cc s i)) _ (by rw [Lr_ofQ]; omega)) ?_)
            rintro r w7 ⟨rfl, hB7⟩
            refine ⟨hB7, ?_⟩
            rw [toQ_ofQ, g4]
            replace hS := hS.grow hB7
            refine w_pure rfl (gd_yes 109 (by kernel_rfl) rfl g3') (s_neq  rfl rfl ?_)
            refine w_pure rfl rfl (s_pick (vb rfl g3') rfl ?_)
            refine w_end ?_
            repeat (with_reducible first | refine c_seq ?_ | refine c_block ?_ | refine c_skip ?_ | refine x_then ?_ | refine x_block ?_)
            exact ⟨_, rfl, by assumption, by assumption, by assumption, by assumption, by assumption, by assumption, by assumption, by assumption, by assumption, by assumption, by assumption, by assumption, rfl, hS⟩
        clear hS h7 h8 h9 h10 h41 h42 h43 h12 h13 h48 h49 h50 h14 h15 h16 h17
        rintro ρ w7 ⟨h7, h8, h9, h10, h41, h42, h43, h12, h13, h48, h49, h50, h116, hS⟩
        repeat (with_reducible first | refine c_seq ?_ | refine c_block ?_ | refine c_skip ?_ | refine x_then ?_ | refine x_block ?_)
        refine c_no h116 rfl ?_
        repeat (with_reducible first | refine c_seq ?_ | refine c_block ?_ | refine c_skip ?_ | refine x_then ?_ | refine x_block ?_)
        refine c_reg ?_
        refine l_pure rfl (s_add  h50 rfl (IntWalk.i64_in _ (by omega)) ?_)
        refine l_pure rfl (s_move  rfl ?_)
        refine l_nil ?_
        repeat (with_reducible first | refine c_seq ?_ | refine c_block ?_ | refine c_skip ?_ | refine x_then ?_ | refine x_block ?_)
        exact ⟨k + 1, _, rfl, ⟨hltk, by assumption, by assumption, by assumption, by assumption, by assumption, by assumption, by assumption, by assumption, by assumption, by assumption, by assumption, vi rfl (by omega), hS.drop (List.sublist_cons_self _ _)⟩, by omega⟩
      · refine c_no rfl (decide_eq_false (by omega)) ?_
        repeat (with_reducible first | refine c_seq ?_ | refine c_block ?_ | refine c_skip ?_ | refine x_then ?_ | refine x_block ?_)
        refine c_exit ?_
        repeat (with_reducible first | refine x_then_exit ?_ | refine x_block_exit ?_ | refine x_block_pass rfl ?_)
        repeat (with_reducible first | refine c_seq ?_ | refine c_block ?_ | refine c_skip ?_ | refine x_then ?_ | refine x_block ?_)
        exact ⟨_, rfl, by assumption, by assumption, by assumption, by assumption, by assumption, by assumption, by assumption, hS.drop (List.sublist_cons_self _ _)⟩
    clear hS h7 h8 h9 h10 h41 h42 h43
    rintro ρ w4 ⟨h7, h8, h9, h10, h41, h42, h43, hS⟩
    repeat (with_reducible first | refine c_seq ?_ | refine c_block ?_ | refine c_skip ?_ | refine x_then ?_ | refine x_block ?_)
    refine c_reg ?_
    refine l_pure rfl (s_add  h43 rfl (IntWalk.i64_in _ (by omega)) ?_)
    refine l_pure rfl (s_move  rfl ?_)
    refine l_nil ?_
    repeat (with_reducible first | refine c_seq ?_ | refine c_block ?_ | refine c_skip ?_ | refine x_then ?_ | refine x_block ?_)
    exact ⟨i + 1, _, rfl, ⟨hlt, by assumption, by assumption, by assumption, by assumption, by assumption, by assumption, vi rfl (by omega), hS⟩, by omega⟩
  · refine c_no rfl (decide_eq_false (by omega)) ?_
    repeat (with_reducible first | refine c_seq ?_ | refine c_block ?_ | refine c_skip ?_ | refine x_then ?_ | refine x_block ?_)
    refine c_exit ?_
    repeat (with_reducible first | refine x_then_exit ?_ | refine x_block_exit ?_ | refine x_block_pass rfl ?_)
    repeat (with_reducible first | refine c_seq ?_ | refine c_block ?_ | refine c_skip ?_ | refine x_then ?_ | refine x_block ?_)
    refine c_reg ?_
    refine l_heavy rfl (s_call Tryd.call12 rfl (Oawake_ok _) ?_)
    rintro _ wc17 ⟨rfl, hBc17⟩
    replace hS := hS.grow hBc17
    refine l_pure rfl (s_asg  rfl ?_)
    refine l_nil ?_
    repeat (with_reducible first | refine c_seq ?_ | refine c_block ?_ | refine c_skip ?_ | refine x_then ?_ | refine x_block ?_)
    refine c_ret ?_
    repeat (with_reducible first | refine x_then_ret ?_ | refine x_block_ret ?_)
    refine r_one rfl rfl ?_
    exact ⟨rfl, bt hW hS.below⟩
end Go.Proofs.YtdafaibhiobpaaaDoor
