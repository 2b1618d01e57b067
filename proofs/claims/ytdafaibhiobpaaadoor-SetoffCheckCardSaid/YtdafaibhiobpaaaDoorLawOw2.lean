/-
  Walks: the eligible obligations in their order; sums; reducing.
-/
import Derived.Test.YtdafaibhiobpaaaDoorLawOw1
namespace Go.Proofs.YtdafaibhiobpaaaDoor
open Go Go.RowKit Go.Sx

def zI (L : List Nat) : List Int := L.map fun i : Nat => (i : Int)
theorem zI_len (L : List Nat) : (zI L).length = L.length := List.length_map _
theorem zI_get (L : List Nat) {k : Nat} (h : k < L.length) : (zI L).getD k 0 = ((L.getD k 0 : Nat) : Int) := by
  unfold zI
  rw [List.getD_eq_getElem?_getD, List.getElem?_map, List.getD_eq_getElem?_getD, List.getElem?_eq_getElem h]; rfl
def cmpO (l : List Ob) (x y : Int) : Int := (gO l x.toNat).inc - (gO l y.toNat).inc
theorem ltC_cmpO (l : List Ob) (i k : Nat) : ltC (cmpO l) (i : Int) (k : Int) = older l i k := by
  unfold ltC cmpO older
  rw [decide_eq_decide, Int.toNat_natCast, Int.toNat_natCast]
  omega
theorem sort_zI (l : List Ob) (L : List Nat) : isort (ltC (cmpO l)) (zI L) = zI (isort (older l) L) := isort_map (f := fun i : Nat => (i : Int)) (fun i k => ltC_cmpO l i k) L
/-- All days are days. -/
def Days (l : List Ob) : Prop := ∀ o ∈ l, 0 ≤ o.inc ∧ o.inc ≤ 1048576
theorem eligible1_ok (p i k : Nat) (vl : Value) (l : List Ob) (w : World) (hp : At w ⟨p, 0, none⟩ [vl]) (hl : Sl encOb 8 w vl l) (hd : Days l) (hi : i < l.length) (hk : k < l.length) :
    Ret Tryd.prog 59 #[.int .i64 i, .int .i64 k, .pointer (some ⟨p, 0, none⟩)] w fun v w' => v = .int .i64 ((gO l i).inc - (gO l k).inc) ∧ Below w.heap.size w w' := by
  have hS := St.init w
  have d1 := hd _ (getD_mem l i zOb hi)
  have d2 := hd _ (getD_mem l k zOb hk)
  refine enter Tryd.func59 rfl Tryd.ntmps59 rfl ?_
  repeat (with_reducible first | refine c_seq ?_ | refine c_block ?_ | refine c_skip ?_ | refine x_then ?_ | refine x_block ?_)
  refine c_reg ?_
  refine l_pure rfl (s_asg  rfl ?_)
  refine l_nil ?_
  repeat (with_reducible first | refine c_seq ?_ | refine c_block ?_ | refine c_skip ?_ | refine x_then ?_ | refine x_block ?_)
  refine c_draw [(0, .read), (1, .pure), (2, .pure), (3, .pure), (4, .read), (5, .read), (6, .pure), (7, .pure), (8, .pure), (9, .read), (10, .pure), (11, .pure)] (by kernel_rfl) (by kernel_rfl) hS ?_
  intro wz1 hS hBz1
  refine w_read rfl rfl (s_ld (cs := [vl])  rfl vi_22 (hp.below hS.below) rfl rfl (.inr rfl) ?_)
  refine w_pure rfl rfl (s_move  rfl ?_)
  refine w_pure rfl rfl (s_ixr (i := i)  rfl rfl (hl.below hS.below) (by omega) (by first | omega | (simp; done) | (simp; omega)) si_22 ?_)
  refine w_pure rfl rfl (s_fldr  rfl (spot_el (hl.below hS.below) (fun _ => rfl) (by decide) (by first | omega | (simp; done) | (simp; omega))) fo_28_3 ?_)
  refine w_read rfl rfl (s_ldfe (i := i) (off := 5) zOb  rfl vi_3 (hl.below hS.below) (fun _ => rfl) (by decide) (by first | omega | (simp; done) | (simp; omega)) rfl rfl (.inr rfl) ?_)
  refine w_read rfl rfl (s_ld (cs := [vl])  rfl vi_22 (hp.below hS.below) rfl rfl (.inr rfl) ?_)
  refine w_pure rfl rfl (s_move  rfl ?_)
  refine w_pure rfl rfl (s_ixr (i := k)  rfl rfl (hl.below hS.below) (by omega) (by first | omega | (simp; done) | (simp; omega)) si_22 ?_)
  refine w_pure rfl rfl (s_fldr  rfl (spot_el (hl.below hS.below) (fun _ => rfl) (by decide) (by first | omega | (simp; done) | (simp; omega))) fo_28_3 ?_)
  refine w_read rfl rfl (s_ldfe (i := k) (off := 5) zOb  rfl vi_3 (hl.below hS.below) (fun _ => rfl) (by decide) (by first | omega | (simp; done) | (simp; omega)) rfl rfl (.inr rfl) ?_)
  refine w_pure rfl rfl (s_sub  rfl rfl (IntWalk.i64_in _ (by omega)) ?_)
  refine w_pure rfl rfl (s_asg  rfl ?_)
  refine w_end ?_
  repeat (with_reducible first | refine c_seq ?_ | refine c_block ?_ | refine c_skip ?_ | refine x_then ?_ | refine x_block ?_)
  refine c_ret ?_
  repeat (with_reducible first | refine x_then_ret ?_ | refine x_block_ret ?_)
  refine r_one rfl rfl ?_
  exact ⟨rfl, hS.below⟩
set_option maxHeartbeats 1000000 in
theorem eligible_ok (vl : Value) (l : List Ob) (c s a b : Int) (w : World) (hl : Sl encOb 8 w vl l) (hd : Days l) (h20 : l.length ≤ 20) :
    Ret Tryd.prog 38 #[vl, .int .i64 c, .int .i64 s, .int .i64 a, .int .i64 b] w fun r w' => ∃ LO, Gl enI 3 1 r (zI (ordL l c s a b)) LO ∧ St w w' ([] ++ LO) := by
  have hS := St.init w
  have hcell : vl.cells.toList = [vl] := by obtain ⟨aa, cc, rfl, _⟩ := hl.form; rfl
  refine enter Tryd.func38 rfl Tryd.ntmps38 rfl ?_
  repeat (with_reducible first | refine c_seq ?_ | refine c_block ?_ | refine c_skip ?_ | refine x_then ?_ | refine x_block ?_)
  refine c_reg ?_
  refine l_heavy rfl (s_box  rfl rfl hS ?_)
  intro b5 wz1 hS hBz1
  refine l_pure rfl (s_asg  rfl ?_)
  refine l_nil ?_
  repeat (with_reducible first | refine c_seq ?_ | refine c_block ?_ | refine c_skip ?_ | refine x_then ?_ | refine x_block ?_)
  replace hS : St w _ [(b5, 22, vl.cells.toList)] := hS
  rw [hcell] at hS
  repeat (with_reducible first | refine c_seq ?_ | refine c_block ?_ | refine c_skip ?_ | refine x_then ?_ | refine x_block ?_)
  refine c_reg ?_
  refine l_pure rfl (s_asg  rfl ?_)
  refine l_nil ?_
  repeat (with_reducible first | refine c_seq ?_ | refine c_block ?_ | refine c_skip ?_ | refine x_then ?_ | refine x_block ?_)
  refine c_reg ?_
  refine l_read rfl (s_ldo (k := 0)  rfl vi_22 hS rfl rfl rfl (.inr rfl) ?_)
  refine l_pure rfl (s_lenr  rfl (hl.below hS.below) ⟨_, Tryd.underlying22⟩ ?_)
  refine l_pure rfl (s_move  rfl ?_)
  refine l_nil ?_
  repeat (with_reducible first | refine c_seq ?_ | refine c_skip ?_ | refine x_then ?_ | refine x_block ?_)
  refine c_cut1 (fun ρ w' => ρ 5 = .pointer (some ⟨b5, 0, none⟩) ∧ ∃ sO LO, ρ 11 = sO ∧ Gl enI 3 1 sO (zI (selL l c s a b l.length)) LO ∧ St w w' ([(b5, 22, [vl])] ++ LO)) ?_ ?_
  · repeat (with_reducible first | refine c_seq ?_ | refine c_block ?_ | refine c_skip ?_ | refine x_then ?_ | refine x_block ?_)
    refine c_loop (σ := Nat) (fun i ρ w' => i ≤ l.length ∧ ρ 1 = .int .i64 c ∧ ρ 2 = .int .i64 s ∧ ρ 3 = .int .i64 a ∧ ρ 4 = .int .i64 b ∧ ρ 5 = .pointer (some ⟨b5, 0, none⟩) ∧ ρ 14 = vl ∧ ρ 15 = .int .i64 l.length ∧ ρ 16 = .int .i64 i ∧
        ∃ sO LO, ρ 11 = sO ∧ Gl enI 3 1 sO (zI (selL l c s a b i)) LO ∧ St w w' ([(b5, 22, [vl])] ++ LO)) (fun i => l.length - i) 0
      ⟨Nat.zero_le _, rfl, rfl, rfl, rfl, rfl, rfl, rfl, rfl, ⟨_, [], rfl, Gl.nil _ _ _, hS⟩⟩ ?_
    clear hS
    rintro i ρ w2 ⟨hi, h1, h2, h3, h4, h5, h14, h15, h16, sO, LO, h11, hG, hS⟩
    have hsl := selL_len l c s a b i
    have hzl := zI_len (selL l c s a b i)
    have hsu := selL_succ l c s a b i
    repeat (with_reducible first | refine c_seq ?_ | refine c_block ?_ | refine c_skip ?_ | refine x_then ?_ | refine x_block ?_)
    refine c_reg ?_
    refine l_pure rfl (s_lss  h16 h15 ?_)
    refine l_nil ?_
    repeat (with_reducible first | refine c_seq ?_ | refine c_block ?_ | refine c_skip ?_ | refine x_then ?_ | refine x_block ?_)
    by_cases hlt : i < l.length
    · refine c_yes rfl (decide_eq_true (by omega)) ?_
      repeat (with_reducible first | refine c_seq ?_ | refine c_block ?_ | refine c_skip ?_ | refine x_then ?_ | refine x_block ?_)
      obtain ⟨o, ho⟩ : ∃ o, o = gO l i := ⟨_, rfl⟩
      repeat (with_reducible first | refine c_seq ?_ | refine c_block ?_ | refine c_skip ?_ | refine x_then ?_ | refine x_block ?_)
      refine c_reg ?_
      refine l_pure rfl (s_move  h16 ?_)
      refine l_pure rfl (s_ixr (i := i)  h14 h16 (hl.below hS.below) (by omega) (by first | omega | (simp; done) | (simp; omega)) si_22 ?_)
      refine l_read rfl (s_lde (i := i) zOb  rfl vi_28 (hl.below hS.below) (by first | omega | (simp; done) | (simp; omega)) rfl rfl (.inl rfl) ?_)
      refine l_heavy rfl (s_alloc  vi_28 hS ?_)
      intro b13 wz2 hS hBz2
      refine l_pure rfl (s_asg  rfl ?_)
      refine l_heavy rfl (s_sta (k := 0)  rfl rfl vi_28 hS rfl rfl rfl (Nat.le_of_ble_eq_true rfl) rfl ?_)
      intro wz3 hS
      refine l_nil ?_
      repeat (with_reducible first | refine c_seq ?_ | refine c_block ?_ | refine c_skip ?_ | refine x_then ?_ | refine x_block ?_)
      replace hS : St w _ ([(b13, 28, encOb (gO l i)), (b5, 22, [vl])] ++ LO) := hS
      rw [← ho] at hS
      repeat (with_reducible first | refine c_seq ?_ | refine c_block ?_ | refine c_skip ?_ | refine x_then ?_ | refine x_block ?_)
      refine c_forget (fun ρ' => ρ' 1 = .int .i64 c ∧ ρ' 2 = .int .i64 s ∧ ρ' 3 = .int .i64 a ∧ ρ' 4 = .int .i64 b ∧ ρ' 5 = .pointer (some ⟨b5, 0, none⟩) ∧ ρ' 14 = vl ∧ ρ' 15 = .int .i64 l.length ∧ ρ' 16 = .int .i64 i ∧ ρ' 11 = sO ∧ ρ' 12 = .int .i64 i ∧ ρ' 13 = .pointer (some ⟨b13, 0, none⟩) ∧ True) ⟨h1, h2, h3, h4, h5, h14, h15, h16, h11, rfl, rfl, trivial⟩ ?_
      rintro ρk4 ⟨hk4_1, hk4_2, hk4_3, hk4_4, hk4_5, hk4_14, hk4_15, hk4_16, hk4_11, hk4_12, hk4_13, -⟩
      refine c_cut1 (fun ρ w' => ρ 1 = .int .i64 c ∧ ρ 2 = .int .i64 s ∧ ρ 3 = .int .i64 a ∧ ρ 4 = .int .i64 b ∧ ρ 5 = .pointer (some ⟨b5, 0, none⟩) ∧ ρ 14 = vl ∧ ρ 15 = .int .i64 l.length ∧ ρ 16 = .int .i64 i ∧ ρ 11 = sO ∧ ρ 12 = .int .i64 i ∧ ρ 36 = .bool (goes l c s a b i) ∧ St w w' ([(b13, 28, encOb o), (b5, 22, [vl])] ++ LO)) ?_ ?_
      · have hgo : goes l c s a b i = (decide (o.deb = a) && decide (o.cre = b) && eligB o c s) := by rw [ho]; rfl
        rw [hgo]
        by_cases g1 : o.deb = a
        case neg =>
          repeat (with_reducible first | refine c_seq ?_ | refine c_block ?_ | refine c_skip ?_ | refine x_then ?_ | refine x_block ?_)
          refine c_reg ?_
          refine l_pure rfl (s_fld  hk4_13 fo_28_0 ?_)
          refine l_read rfl (s_ldo (k := 0)  rfl vi_3 hS rfl rfl rfl (.inr rfl) ?_)
          refine l_pure rfl (s_move  hk4_3 ?_)
          refine l_pure rfl (s_eql  rfl rfl ?_)
          refine l_pure rfl (s_move  rfl ?_)
          refine l_no (gno_yes 25 (by kernel_rfl) rfl (decide_eq_false g1)) ?_
          refine l_no (gno_yes 25 (by kernel_rfl) rfl (decide_eq_false g1)) ?_
          refine l_no (gno_yes 25 (by kernel_rfl) rfl (decide_eq_false g1)) ?_
          refine l_no (gno_yes 25 (by kernel_rfl) rfl (decide_eq_false g1)) ?_
          refine l_pure rfl (s_pick (vb rfl (decide_eq_false g1)) rfl ?_)
          refine l_pure rfl (s_move  rfl ?_)
          refine l_no (gno_yes 31 (by kernel_rfl) rfl rfl) ?_
          refine l_no (gno_yes 31 (by kernel_rfl) rfl rfl) ?_
          refine l_no (gno_yes 31 (by kernel_rfl) rfl rfl) ?_
          refine l_no (gno_yes 31 (by kernel_rfl) rfl rfl) ?_
          refine l_pure rfl (s_pick (vb rfl rfl) rfl ?_)
          refine l_nil ?_
          repeat (with_reducible first | refine c_seq ?_ | refine c_block ?_ | refine c_skip ?_ | refine x_then ?_ | refine x_block ?_)
          exact ⟨_, rfl, by assumption, by assumption, by assumption, by assumption, by assumption, by assumption, by assumption, by assumption, by assumption, by assumption, vb rfl (by simp [g1]), hS⟩
        by_cases g2 : o.cre = b
        case neg =>
          repeat (with_reducible first | refine c_seq ?_ | refine c_block ?_ | refine c_skip ?_ | refine x_then ?_ | refine x_block ?_)
          refine c_reg ?_
          refine l_pure rfl (s_fld  hk4_13 fo_28_0 ?_)
          refine l_read rfl (s_ldo (k := 0)  rfl vi_3 hS rfl rfl rfl (.inr rfl) ?_)
          refine l_pure rfl (s_move  hk4_3 ?_)
          refine l_pure rfl (s_eql  rfl rfl ?_)
          refine l_pure rfl (s_move  rfl ?_)
          refine l_pure (gd_yes 25 (by kernel_rfl) rfl (decide_eq_true g1)) (s_fld  hk4_13 fo_28_1 ?_)
          refine l_read (gd_yes 25 (by kernel_rfl) rfl (decide_eq_true g1)) (s_ldo (k := 0)  rfl vi_3 hS rfl rfl rfl (.inr rfl) ?_)
          refine l_pure (gd_yes 25 (by kernel_rfl) rfl (decide_eq_true g1)) (s_move  hk4_4 ?_)
          refine l_pure (gd_yes 25 (by kernel_rfl) rfl (decide_eq_true g1)) (s_eql  rfl rfl ?_)
          refine l_pure rfl (s_pick (vb rfl (decide_eq_true g1)) rfl ?_)
          refine l_pure rfl (s_move  rfl ?_)
          refine l_no (gno_yes 31 (by kernel_rfl) rfl (decide_eq_false g2)) ?_
          refine l_no (gno_yes 31 (by kernel_rfl) rfl (decide_eq_false g2)) ?_
          refine l_no (gno_yes 31 (by kernel_rfl) rfl (decide_eq_false g2)) ?_
          refine l_no (gno_yes 31 (by kernel_rfl) rfl (decide_eq_false g2)) ?_
          refine l_pure rfl (s_pick (vb rfl (decide_eq_false g2)) rfl ?_)
          refine l_nil ?_
          repeat (with_reducible first | refine c_seq ?_ | refine c_block ?_ | refine c_skip ?_ | refine x_then ?_ | refine x_block ?_)
          exact ⟨_, rfl, by assumption, by assumption, by assumption, by assumption, by assumption, by assumption, by assumption, by assumption, by assumption, by assumption, vb rfl (by simp [g2]), hS⟩
        repeat (with_reducible first | refine c_seq ?_ | refine c_block ?_ | refine c_skip ?_ | refine x_then ?_ | refine x_block ?_)
        refine c_reg ?_
        refine l_pure rfl (s_fld  hk4_13 fo_28_0 ?_)
        refine l_read rfl (s_ldo (k := 0)  rfl vi_3 hS rfl rfl rfl (.inr rfl) ?_)
        refine l_pure rfl (s_move  hk4_3 ?_)
        refine l_pure rfl (s_eql  rfl rfl ?_)
        refine l_pure rfl (s_move  rfl ?_)
        refine l_pure (gd_yes 25 (by kernel_rfl) rfl (decide_eq_true g1)) (s_fld  hk4_13 fo_28_1 ?_)
        refine l_read (gd_yes 25 (by kernel_rfl) rfl (decide_eq_true g1)) (s_ldo (k := 0)  rfl vi_3 hS rfl rfl rfl (.inr rfl) ?_)
        refine l_pure (gd_yes 25 (by kernel_rfl) rfl (decide_eq_true g1)) (s_move  hk4_4 ?_)
        refine l_pure (gd_yes 25 (by kernel_rfl) rfl (decide_eq_true g1)) (s_eql  rfl rfl ?_)
        refine l_pure rfl (s_pick (vb rfl (decide_eq_true g1)) rfl ?_)
        refine l_pure rfl (s_move  rfl ?_)
        refine l_read (gd_yes 31 (by kernel_rfl) rfl (decide_eq_true g2)) (s_ldo (k := 0)  hk4_13 vi_28 hS rfl rfl rfl (.inl rfl) ?_)
        refine l_pure (gd_yes 31 (by kernel_rfl) rfl (decide_eq_true g2)) (s_move  hk4_1 ?_)
        refine l_pure (gd_yes 31 (by kernel_rfl) rfl (decide_eq_true g2)) (s_move  hk4_2 ?_)
        refine l_heavy (gd_yes 31 (by kernel_rfl) rfl (decide_eq_true g2)) (s_call Tryd.call13 rfl (Eligible_ok o c s _) ?_)
        rintro _ wc5 ⟨rfl, hBc5⟩
        replace hS := hS.grow hBc5
        refine l_pure rfl (s_pick (vb rfl (decide_eq_true g2)) rfl ?_)
        refine l_nil ?_
        repeat (with_reducible first | refine c_seq ?_ | refine c_block ?_ | refine c_skip ?_ | refine x_then ?_ | refine x_block ?_)
        exact ⟨_, rfl, by assumption, by assumption, by assumption, by assumption, by assumption, by assumption, by assumption, by assumption, by assumption, by assumption, vb rfl (by simp [g1, g2]), hS⟩
      clear hS h1 h2 h3 h4 h5 h14 h15 h16 h11
      rintro ρ w4 ⟨h1, h2, h3, h4, h5, h14, h15, h16, h11, h12, h36, hS⟩
      repeat (with_reducible first | refine c_seq ?_ | refine c_block ?_ | refine c_skip ?_ | refine x_then ?_ | refine x_block ?_)
      replace hS : St w w4 ([(b5, 22, [vl])] ++ LO) := hS.drop (List.sublist_cons_self _ _)
      cases hgo : goes l c s a b i with
      | true =>
        refine c_yes h36 hgo ?_
        repeat (with_reducible first | refine c_seq ?_ | refine c_block ?_ | refine c_skip ?_ | refine x_then ?_ | refine x_block ?_)
        rw [if_pos hgo] at hsu
        have e2 : zI (selL l c s a b i) ++ [(i : Int)] = zI (selL l c s a b (i + 1)) := by rw [hsu]; unfold zI; rw [List.map_append]; rfl
        repeat (with_reducible first | refine c_seq ?_ | refine c_block ?_ | refine c_skip ?_ | refine x_then ?_ | refine x_block ?_)
        refine c_reg ?_
        refine l_pure rfl (s_move  h11 ?_)
        refine l_pure rfl (s_move  h12 ?_)
        refine l_heavy rfl (s_bsl (vs := [.int .i64 (i : Int)])  rfl si_63 rfl (by decide) (by decide) (by decide) (by simp [Value.cells]) rfl hS ?_)
        intro bx wz6 hS hBz6
        refine l_heavy rfl (s_appl [(i : Int)]  rfl rfl si_63 (by decide) hG hS rfl rfl enI_len (enI_one [(i : Int)]) (by first | omega | (simp only [List.length_cons, List.length_nil]; omega)) (by first | omega | (simp only [List.length_cons, List.length_nil]; omega)) ?_)
        intro va7 La7 wa7 hG hS hga7
        refine l_pure rfl (s_asg  rfl ?_)
        refine l_nil ?_
        repeat (with_reducible first | refine c_seq ?_ | refine c_block ?_ | refine c_skip ?_ | refine x_then ?_ | refine x_block ?_)
        rw [e2] at hG
        repeat (with_reducible first | refine c_seq ?_ | refine c_block ?_ | refine c_skip ?_ | refine x_then ?_ | refine x_block ?_)
        refine c_reg ?_
        refine l_pure rfl (s_add  h16 rfl (IntWalk.i64_in _ (by omega)) ?_)
        refine l_pure rfl (s_move  rfl ?_)
        refine l_nil ?_
        repeat (with_reducible first | refine c_seq ?_ | refine c_block ?_ | refine c_skip ?_ | refine x_then ?_ | refine x_block ?_)
        exact ⟨i + 1, _, rfl, ⟨hlt, by assumption, by assumption, by assumption, by assumption, by assumption, by assumption, by assumption, vi rfl (by omega), ⟨_, _, rfl, hG, hS⟩⟩, by omega⟩
      | false =>
        refine c_no h36 hgo ?_
        repeat (with_reducible first | refine c_seq ?_ | refine c_block ?_ | refine c_skip ?_ | refine x_then ?_ | refine x_block ?_)
        rw [if_neg (by rw [hgo]; decide)] at hsu
        rw [← hsu] at hG
        repeat (with_reducible first | refine c_seq ?_ | refine c_block ?_ | refine c_skip ?_ | refine x_then ?_ | refine x_block ?_)
        refine c_reg ?_
        refine l_pure rfl (s_add  h16 rfl (IntWalk.i64_in _ (by omega)) ?_)
        refine l_pure rfl (s_move  rfl ?_)
        refine l_nil ?_
        repeat (with_reducible first | refine c_seq ?_ | refine c_block ?_ | refine c_skip ?_ | refine x_then ?_ | refine x_block ?_)
        exact ⟨i + 1, _, rfl, ⟨hlt, by assumption, by assumption, by assumption, by assumption, by assumption, by assumption, by assumption, vi rfl (by omega), ⟨_, _, h11, hG, hS⟩⟩, by omega⟩
    · refine c_no rfl (decide_eq_false (by omega)) ?_
      repeat (with_reducible first | refine c_seq ?_ | refine c_block ?_ | refine c_skip ?_ | refine x_then ?_ | refine x_block ?_)
      refine c_exit ?_
      repeat (with_reducible first | refine x_then_exit ?_ | refine x_block_exit ?_ | refine x_block_pass rfl ?_)
      repeat (with_reducible first | refine c_seq ?_ | refine c_block ?_ | refine c_skip ?_ | refine x_then ?_ | refine x_block ?_)
      obtain rfl : i = l.length := by omega
      exact ⟨_, rfl, h5, ⟨_, _, h11, hG, hS⟩⟩
  clear hS
  rintro ρ w2 ⟨h5, sO, LO, h11, hG, hS⟩
  repeat (with_reducible first | refine c_seq ?_ | refine c_block ?_ | refine c_skip ?_ | refine x_then ?_ | refine x_block ?_)
  have hsl := selL_len l c s a b l.length
  have hc : ∀ b', CmpOk 59 [.pointer (some ⟨b5, 0, none⟩)] (cmpO l) (zI (selL l c s a b l.length)) w b' 3 [(b5, 22, [vl])] := fun b' => by
    refine ⟨Tryd.call59, fun cs x y w' hS' hx hy => ?_⟩
    obtain ⟨i, hi, rfl⟩ := List.mem_map.1 hx
    obtain ⟨k, hk, rfl⟩ := List.mem_map.1 hy
    have h5' := hS'.at (k := 1) rfl 0 1
    have := eligible1_ok b5 i k vl l w' h5' (hl.below hS'.below) hd (selL_mem.1 hi).1 (selL_mem.1 hk).1
    unfold cmpO
    rw [Int.toNat_natCast, Int.toNat_natCast]
    exact this
  have hsort : Ret Tryd.prog 58 #[sO, .func (.func 59) #[] #[.pointer (some ⟨b5, 0, none⟩)]] w2 _ := SortStable_gl hc hG (by rw [zI_len]; omega) w2 hS
  repeat (with_reducible first | refine c_seq ?_ | refine c_block ?_ | refine c_skip ?_ | refine x_then ?_ | refine x_block ?_)
  refine c_reg ?_
  refine l_pure rfl (s_move  h11 ?_)
  refine l_pure rfl (s_mkf1  h5 ?_)
  refine l_heavy rfl (s_call Tryd.call58 rfl (hsort) ?_)
  rintro r w3 ⟨rfl, LB, hG2, hS2⟩
  rw [sort_zI] at hG2
  refine l_nil ?_
  repeat (with_reducible first | refine c_seq ?_ | refine c_block ?_ | refine c_skip ?_ | refine x_then ?_ | refine x_block ?_)
  refine c_reg ?_
  refine l_pure rfl (s_move  h11 ?_)
  refine l_pure rfl (s_asg  rfl ?_)
  refine l_nil ?_
  repeat (with_reducible first | refine c_seq ?_ | refine c_block ?_ | refine c_skip ?_ | refine x_then ?_ | refine x_block ?_)
  refine c_ret ?_
  repeat (with_reducible first | refine x_then_ret ?_ | refine x_block_ret ?_)
  refine r_one rfl rfl ?_
  exact ⟨LB, hG2, hS2.drop (List.sublist_append_right _ _)⟩
theorem total_ok (vr vi_ : Value) (q : Nat → Rat) (n K : Nat) (J : List Nat) (w : World) (hr : Sl encR 3 w vr (tab n fun i => ofQ (q i))) (hJ : Sl enI 1 w vi_ (zI J)) (hJn : ∀ i ∈ J, i < n) (hq : ∀ i, i < n → L (q i) ≤ K) (hK : J.length * (K + 1) + K + 1 ≤ MX) :
    Ret Tryd.prog 40 #[vr, vi_] w fun r w' => r = aggR (ofQ (totS q J)) ∧ Below w.heap.size w w' := by
  have hmax := hJ.maxLen
  have hzl := zI_len J
  have hS := St.init w
  refine enter Tryd.func40 rfl Tryd.ntmps40 rfl ?_
  repeat (with_reducible first | refine c_seq ?_ | refine c_block ?_ | refine c_skip ?_ | refine x_then ?_ | refine x_block ?_)
  refine c_reg ?_
  refine l_heavy rfl (s_alloc  vi_26 hS ?_)
  intro b4 wz1 hS hBz1
  refine l_nil ?_
  repeat (with_reducible first | refine c_seq ?_ | refine c_block ?_ | refine c_skip ?_ | refine x_then ?_ | refine x_block ?_)
  refine c_reg ?_
  refine l_pure rfl (s_build  rfl bz_26 ?_)
  refine l_heavy rfl (s_alloc  vi_26 hS ?_)
  intro b5 wz2 hS hBz2
  refine l_heavy rfl (s_sta (k := 0)  rfl rfl vi_26 hS rfl rfl rfl (Nat.le_of_ble_eq_true rfl) rfl ?_)
  intro wz3 hS
  refine l_nil ?_
  repeat (with_reducible first | refine c_seq ?_ | refine c_block ?_ | refine c_skip ?_ | refine x_then ?_ | refine x_block ?_)
  replace hS : St w _ [(b5, 26, encR zRR), (b4, 26, encR zRR)] := hS
  rw [encR_zero] at hS
  repeat (with_reducible first | refine c_seq ?_ | refine c_block ?_ | refine c_skip ?_ | refine x_then ?_ | refine x_block ?_)
  refine c_reg ?_
  refine l_pure rfl (s_move  rfl ?_)
  refine l_pure rfl (s_lenr  rfl (hJ.below hS.below) ⟨_, Tryd.underlying63⟩ ?_)
  refine l_pure rfl (s_move  rfl ?_)
  refine l_nil ?_
  repeat (with_reducible first | refine c_seq ?_ | refine c_block ?_ | refine c_skip ?_ | refine x_then ?_ | refine x_block ?_)
  refine c_loop (σ := Nat) (fun k ρ w' => k ≤ J.length ∧ ρ 0 = vr ∧ ρ 9 = vi_ ∧ ρ 10 = .int .i64 J.length ∧ ρ 11 = .int .i64 k ∧ ρ 4 = .pointer (some ⟨b4, 0, none⟩) ∧ ρ 5 = .pointer (some ⟨b5, 0, none⟩) ∧
      St w w' [(b5, 26, encR (ofQ (totS q (J.take k)))), (b4, 26, encR (ofQ 0))]) (fun k => J.length - k) 0
    ⟨Nat.zero_le _, rfl, rfl, vi rfl (by rw [hzl]), rfl, rfl, rfl, hS⟩ ?_
  clear hS
  rintro k ρ w2 ⟨hk, h0, h9, h10, h11, h4, h5, hS⟩
  repeat (with_reducible first | refine c_seq ?_ | refine c_block ?_ | refine c_skip ?_ | refine x_then ?_ | refine x_block ?_)
  refine c_reg ?_
  refine l_pure rfl (s_lss  h11 h10 ?_)
  refine l_nil ?_
  repeat (with_reducible first | refine c_seq ?_ | refine c_block ?_ | refine c_skip ?_ | refine x_then ?_ | refine x_block ?_)
  by_cases hlt : k < J.length
  · refine c_yes rfl (decide_eq_true (by omega)) ?_
    repeat (with_reducible first | refine c_seq ?_ | refine c_block ?_ | refine c_skip ?_ | refine x_then ?_ | refine x_block ?_)
    have hzg := zI_get J hlt
    obtain ⟨i, hi⟩ : ∃ i, i = J.getD k 0 := ⟨_, rfl⟩
    have hin : i < n := hJn i (by rw [hi]; exact getD_mem J k 0 hlt)
    rw [← hi] at hzg
    have e1 : (tab n fun i => ofQ (q i)).getD i zRR = ofQ (q i) := tab_get _ _ hin
    have htl : (tab n fun i => ofQ (q i)).length = n := tab_len _ _
    have e2 : totS q (J.take (k + 1)) = totS q (J.take k) + q i := by
      unfold totS
      rw [take_succ' J k 0 hlt, List.map_append, List.map_cons, List.map_nil, sumQ_snoc, ← hi]
    have l1 : L (totS q (J.take k)) ≤ k * (K + 1) + 1 := by
      have h := L_sumQ' (l := J.map q) (K := K) (fun x hx => by obtain ⟨j, hj, rfl⟩ := List.mem_map.1 hx; exact hq j (hJn j hj)) k
      rwa [← List.map_take] at h
    have l2 : k * (K + 1) ≤ J.length * (K + 1) := Nat.mul_le_mul_right _ (by omega)
    have l3 := hq i hin
    repeat (with_reducible first | refine c_seq ?_ | refine c_block ?_ | refine c_skip ?_ | refine x_then ?_ | refine x_block ?_)
    refine c_reg ?_
    refine l_pure rfl (s_ixr (i := k)  h9 h11 (hJ.below hS.below) (by omega) (by first | omega | (simp; done) | (simp; omega)) si_63 ?_)
    refine l_read rfl (s_lde (i := k) 0  rfl vi_3 (hJ.below hS.below) (by first | omega | (simp; done) | (simp; omega)) rfl rfl (.inr rfl) ?_)
    refine l_pure rfl (s_asg  rfl ?_)
    refine l_nil ?_
    repeat (with_reducible first | refine c_seq ?_ | refine c_block ?_ | refine c_skip ?_ | refine x_then ?_ | refine x_block ?_)
    rw [hzg]
    repeat (with_reducible first | refine c_seq ?_ | refine c_block ?_ | refine c_skip ?_ | refine x_then ?_ | refine x_block ?_)
    refine c_draw [(0, .read), (1, .pure), (2, .pure), (3, .pure), (4, .read), (5, .grow), (6, .free)] (by kernel_rfl) (by kernel_rfl) hS ?_
    intro wz4 hS hBz4
    refine w_read rfl rfl (s_ldo (k := 0)  h5 vi_26 hS rfl rfl rfl (.inl rfl) ?_)
    refine w_pure rfl rfl (s_move  h0 ?_)
    refine w_pure rfl rfl (s_move  rfl ?_)
    refine w_pure rfl rfl (s_ixr (i := i)  rfl rfl (hr.below hS.below) (by omega) (by first | omega | (simp; done) | (simp; omega)) si_37 ?_)
    refine w_read rfl rfl (s_lde (i := i) zRR  rfl vi_26 (hr.below hS.below) (by first | omega | (simp; done) | (simp; omega)) rfl rfl (.inl rfl) ?_)
    rw [e1]
    refine w_grow rfl rfl (s_call Tryd.call24 rfl (QAdd_ok (ofQ (totS q (J.take k))) (ofQ (q i)) _ (by rw [Lr_ofQ, Lr_ofQ]; omega)) ?_)
    rintro r w3 ⟨rfl, hB3⟩
    refine ⟨hB3, ?_⟩
    rw [toQ_ofQ, toQ_ofQ, ← e2]
    replace hS := hS.grow hB3
    refine w_free rfl rfl (s_sta (k := 0)  h5 rfl vi_26 hS rfl rfl rfl (Nat.le_of_ble_eq_true rfl) rfl ?_)
    intro wz5 hS
    refine w_end ?_
    repeat (with_reducible first | refine c_seq ?_ | refine c_block ?_ | refine c_skip ?_ | refine x_then ?_ | refine x_block ?_)
    refine c_reg ?_
    refine l_pure rfl (s_add  h11 rfl (IntWalk.i64_in _ (by omega)) ?_)
    refine l_pure rfl (s_move  rfl ?_)
    refine l_nil ?_
    repeat (with_reducible first | refine c_seq ?_ | refine c_block ?_ | refine c_skip ?_ | refine x_then ?_ | refine x_block ?_)
    exact ⟨k + 1, _, rfl, ⟨hlt, h0, h9, h10, vi rfl (by omega), h4, h5, hS⟩, by omega⟩
  · refine c_no rfl (decide_eq_false (by omega)) ?_
    repeat (with_reducible first | refine c_seq ?_ | refine c_block ?_ | refine c_skip ?_ | refine x_then ?_ | refine x_block ?_)
    refine c_exit ?_
    repeat (with_reducible first | refine x_then_exit ?_ | refine x_block_exit ?_ | refine x_block_pass rfl ?_)
    repeat (with_reducible first | refine c_seq ?_ | refine c_block ?_ | refine c_skip ?_ | refine x_then ?_ | refine x_block ?_)
    have e : J.take k = J := List.take_of_length_le (by omega)
    rw [e] at hS
    repeat (with_reducible first | refine c_seq ?_ | refine c_block ?_ | refine c_skip ?_ | refine x_then ?_ | refine x_block ?_)
    refine c_reg ?_
    refine l_read rfl (s_ldo (k := 0)  h5 vi_26 hS rfl rfl rfl (.inl rfl) ?_)
    refine l_heavy rfl (s_sta (k := 1)  h4 rfl vi_26 hS rfl rfl rfl (Nat.le_of_ble_eq_true rfl) rfl ?_)
    intro wz6 hS
    refine l_nil ?_
    repeat (with_reducible first | refine c_seq ?_ | refine c_block ?_ | refine c_skip ?_ | refine x_then ?_ | refine x_block ?_)
    refine c_ret ?_
    repeat (with_reducible first | refine x_then_ret ?_ | refine x_block_ret ?_)
    refine r_cell (k := 1) rfl h4 vi_26 hS rfl rfl ?_
    exact ⟨rfl, hS.below⟩
theorem amounts_ok (vl : Value) (l : List Ob) (K : Nat) (w : World) (hl : Sl encOb 8 w vl l) (hB : ObB K l) (hK : K + 1 ≤ MX) (hn : l.length ≤ 1000000) :
    Ret Tryd.prog 37 #[vl] w fun r w' => ∃ b, r = .slice (some ⟨b, 0, none⟩) l.length l.length ∧ St w w' [(b, 26, (tab l.length fun i => ofQ (oQ l i)).flatMap encR)] := by
  have hmax := hl.maxLen
  have hS := St.init w
  refine enter Tryd.func37 rfl Tryd.ntmps37 rfl ?_
  repeat (with_reducible first | refine c_seq ?_ | refine c_block ?_ | refine c_skip ?_ | refine x_then ?_ | refine x_block ?_)
  refine c_reg ?_
  refine l_pure rfl (s_asg  rfl ?_)
  refine l_nil ?_
  repeat (with_reducible first | refine c_seq ?_ | refine c_block ?_ | refine c_skip ?_ | refine x_then ?_ | refine x_block ?_)
  refine c_reg ?_
  refine l_pure rfl (s_move  rfl ?_)
  refine l_pure rfl (s_lenr  rfl (hl.below hS.below) ⟨_, Tryd.underlying22⟩ ?_)
  refine l_heavy rfl (s_makeE (enc := encR) (n := l.length) zRR  rfl rfl si_37 rfl (by omega) (by omega) (by omega) (by omega) hS ?_)
  intro b3 wz1 hS hBz1
  refine l_pure rfl (s_asg  rfl ?_)
  refine l_nil ?_
  repeat (with_reducible first | refine c_seq ?_ | refine c_block ?_ | refine c_skip ?_ | refine x_then ?_ | refine x_block ?_)
  rw [tab_rep] at hS
  repeat (with_reducible first | refine c_seq ?_ | refine c_block ?_ | refine c_skip ?_ | refine x_then ?_ | refine x_block ?_)
  refine c_reg ?_
  refine l_pure rfl (s_move  rfl ?_)
  refine l_pure rfl (s_lenr  rfl (hl.below hS.below) ⟨_, Tryd.underlying22⟩ ?_)
  refine l_pure rfl (s_move  rfl ?_)
  refine l_nil ?_
  repeat (with_reducible first | refine c_seq ?_ | refine c_block ?_ | refine c_skip ?_ | refine x_then ?_ | refine x_block ?_)
  refine c_loop (σ := Nat) (fun i ρ w' => i ≤ l.length ∧ ρ 3 = .slice (some ⟨b3, 0, none⟩) l.length l.length ∧ ρ 9 = vl ∧ ρ 10 = .int .i64 l.length ∧ ρ 11 = .int .i64 i ∧
      St w w' [(b3, 26, (tab l.length fun j => if j < i then ofQ (oQ l j) else zRR).flatMap encR)]) (fun i => l.length - i) 0
    ⟨Nat.zero_le _, rfl, rfl, rfl, rfl, hS⟩ ?_
  clear hS
  rintro i ρ w2 ⟨hi, h3, h9, h10, h11, hS⟩
  repeat (with_reducible first | refine c_seq ?_ | refine c_block ?_ | refine c_skip ?_ | refine x_then ?_ | refine x_block ?_)
  refine c_reg ?_
  refine l_pure rfl (s_lss  h11 h10 ?_)
  refine l_nil ?_
  repeat (with_reducible first | refine c_seq ?_ | refine c_block ?_ | refine c_skip ?_ | refine x_then ?_ | refine x_block ?_)
  by_cases hlt : i < l.length
  · refine c_yes rfl (decide_eq_true (by omega)) ?_
    repeat (with_reducible first | refine c_seq ?_ | refine c_block ?_ | refine c_skip ?_ | refine x_then ?_ | refine x_block ?_)
    have htl : (tab l.length fun j => if j < i then ofQ (oQ l j) else zRR).length = l.length := tab_len _ _
    obtain ⟨o, ho⟩ : ∃ o, o = l.getD i zOb := ⟨_, rfl⟩
    have hoB : Lr o.amt ≤ K := by rw [ho]; exact hB _ (getD_mem l i zOb hlt)
    have hset : (tab l.length fun j => if j < i then ofQ (oQ l j) else zRR).set i (ofQ (oQ l i)) = tab l.length fun j => if j < i + 1 then ofQ (oQ l j) else zRR := by
      rw [tab_set]
      refine tab_congr fun j _ => ?_
      by_cases e : j = i
      · subst e; rw [if_pos rfl, if_pos (by omega)]
      · rw [if_neg e]
        by_cases e2 : j < i
        · rw [if_pos e2, if_pos (by omega)]
        · rw [if_neg e2, if_neg (by omega)]
    repeat (with_reducible first | refine c_seq ?_ | refine c_block ?_ | refine c_skip ?_ | refine x_then ?_ | refine x_block ?_)
    refine c_reg ?_
    refine l_pure rfl (s_move  h11 ?_)
    refine l_pure rfl (s_ixr (i := i)  h9 h11 (hl.below hS.below) (by omega) (by first | omega | (simp; done) | (simp; omega)) si_22 ?_)
    refine l_read rfl (s_lde (i := i) zOb  rfl vi_28 (hl.below hS.below) (by first | omega | (simp; done) | (simp; omega)) rfl rfl (.inl rfl) ?_)
    refine l_heavy rfl (s_alloc  vi_28 hS ?_)
    intro b5 wz2 hS hBz2
    refine l_pure rfl (s_asg  rfl ?_)
    refine l_heavy rfl (s_sta (k := 0)  rfl rfl vi_28 hS rfl rfl rfl (Nat.le_of_ble_eq_true rfl) rfl ?_)
    intro wz3 hS
    refine l_nil ?_
    repeat (with_reducible first | refine c_seq ?_ | refine c_block ?_ | refine c_skip ?_ | refine x_then ?_ | refine x_block ?_)
    replace hS : St w _ [(b5, 28, encOb (l.getD i zOb)), (b3, 26, (tab l.length fun j => if j < i then ofQ (oQ l j) else zRR).flatMap encR)] := hS
    rw [← ho] at hS
    have hL0 : Lr zRR = 1 := Lr_zRR
    repeat (with_reducible first | refine c_seq ?_ | refine c_block ?_ | refine c_skip ?_ | refine x_then ?_ | refine x_block ?_)
    refine c_reg ?_
    refine l_pure rfl (s_move  h3 ?_)
    refine l_pure rfl (s_move  rfl ?_)
    refine l_pure rfl (s_fld  rfl fo_28_2 ?_)
    refine l_read rfl (s_ldo (k := 0)  rfl vi_26 hS rfl rfl rfl (.inl rfl) ?_)
    refine l_pure rfl (s_build  rfl bz_26 ?_)
    refine l_heavy rfl (s_call Tryd.call24 rfl (QAdd_ok o.amt zRR _ (by omega)) ?_)
    rintro r w3 ⟨rfl, hB3⟩
    rw [toQ_zRR, show toQ o.amt + 0 = oQ l i by unfold oQ gO; rw [← ho]; grind]
    replace hS := hS.grow hB3
    refine l_pure rfl (s_ixo (i := i)  rfl rfl (by omega) (by first | omega | (simp; done) | (simp; omega)) si_37 ?_)
    refine l_heavy rfl (s_stE (k := 1) (i := i) (enc := encR) (ofQ (oQ l i)) (fun _ => rfl)  rfl rfl vi_26 hS rfl (by first | omega | simp) (by first | omega | (simp; done) | (simp; omega)) rfl rfl ?_)
    intro wz4 hS
    refine l_nil ?_
    repeat (with_reducible first | refine c_seq ?_ | refine c_block ?_ | refine c_skip ?_ | refine x_then ?_ | refine x_block ?_)
    replace hS : St w _ [(b5, 28, encOb o), (b3, 26, ((tab l.length fun j => if j < i then ofQ (oQ l j) else zRR).set i (ofQ (oQ l i))).flatMap encR)] := hS
    rw [hset] at hS
    repeat (with_reducible first | refine c_seq ?_ | refine c_block ?_ | refine c_skip ?_ | refine x_then ?_ | refine x_block ?_)
    refine c_reg ?_
    refine l_pure rfl (s_add  h11 rfl (IntWalk.i64_in _ (by omega)) ?_)
    refine l_pure rfl (s_move  rfl ?_)
    refine l_nil ?_
    repeat (with_reducible first | refine c_seq ?_ | refine c_block ?_ | refine c_skip ?_ | refine x_then ?_ | refine x_block ?_)
    exact ⟨i + 1, _, rfl, ⟨hlt, h3, h9, h10, vi rfl (by omega), hS.drop (List.sublist_cons_self _ _)⟩, by omega⟩
  · refine c_no rfl (decide_eq_false (by omega)) ?_
    repeat (with_reducible first | refine c_seq ?_ | refine c_block ?_ | refine c_skip ?_ | refine x_then ?_ | refine x_block ?_)
    refine c_exit ?_
    repeat (with_reducible first | refine x_then_exit ?_ | refine x_block_exit ?_ | refine x_block_pass rfl ?_)
    repeat (with_reducible first | refine c_seq ?_ | refine c_block ?_ | refine c_skip ?_ | refine x_then ?_ | refine x_block ?_)
    obtain rfl : i = l.length := by omega
    rw [tab_congr (g := fun i => ofQ (oQ l i)) (fun j hj => if_pos hj)] at hS
    repeat (with_reducible first | refine c_seq ?_ | refine c_block ?_ | refine c_skip ?_ | refine x_then ?_ | refine x_block ?_)
    refine c_reg ?_
    refine l_pure rfl (s_move  h3 ?_)
    refine l_pure rfl (s_asg  rfl ?_)
    refine l_nil ?_
    repeat (with_reducible first | refine c_seq ?_ | refine c_block ?_ | refine c_skip ?_ | refine x_then ?_ | refine x_block ?_)
    refine c_ret ?_
    repeat (with_reducible first | refine x_then_ret ?_ | refine x_block_ret ?_)
    refine r_one rfl rfl ?_
    exact ⟨b3, rfl, hS⟩
set_option maxHeartbeats 1000000 in
theorem reduce_ok (b n K : Nat) (vi_ : Value) (s : RS) (J : List Nat) (w0 w : World) (H : List Blk) (hS : St w0 w ((b, 26, (tab n fun i => ofQ (s.rest i)).flatMap encR) :: H))
    (hJ : ∀ cs w', St w0 w' ((b, 26, cs) :: H) → Sl enI 1 w' vi_ (zI J)) (hJn : ∀ i ∈ J, i < n) (hL : ∀ k, (∀ i, i < n → L ((redu s (J.take k)).rest i) ≤ K) ∧ L (redu s (J.take k)).amt ≤ K) (hK : 2 * K ≤ MX) :
    Ret Tryd.prog 41 #[.slice (some ⟨b, 0, none⟩) n n, vi_, aggR (ofQ s.amt)] w fun r w' => r = .tuple #[] ∧ St w0 w' ((b, 26, (tab n fun i => ofQ ((redu s J).rest i)).flatMap encR) :: H) := by
  have hzl := zI_len J
  have hmax := (hJ _ _ hS).maxLen
  have hJ2 : ∀ (x : Blk) cs w', St w0 w' (x :: (b, 26, cs) :: H) → Sl enI 1 w' vi_ (zI J) := fun x cs w' h => hJ cs w' (h.drop (List.sublist_cons_self _ _))
  refine enter Tryd.func41 rfl Tryd.ntmps41 rfl ?_
  repeat (with_reducible first | refine c_seq ?_ | refine c_block ?_ | refine c_skip ?_ | refine x_then ?_ | refine x_block ?_)
  refine c_reg ?_
  refine l_heavy rfl (s_box  rfl rfl hS ?_)
  intro b5 wz1 hS hBz1
  refine l_nil ?_
  repeat (with_reducible first | refine c_seq ?_ | refine c_block ?_ | refine c_skip ?_ | refine x_then ?_ | refine x_block ?_)
  replace hS : St w0 _ ((b5, 26, encR (ofQ s.amt)) :: (b, 26, (tab n fun i => ofQ (s.rest i)).flatMap encR) :: H) := hS
  repeat (with_reducible first | refine c_seq ?_ | refine c_block ?_ | refine c_skip ?_ | refine x_then ?_ | refine x_block ?_)
  refine c_reg ?_
  refine l_pure rfl (s_move  rfl ?_)
  refine l_pure rfl (s_lenr  rfl (hJ2 _ _ _ hS) ⟨_, Tryd.underlying63⟩ ?_)
  refine l_pure rfl (s_move  rfl ?_)
  refine l_nil ?_
  repeat (with_reducible first | refine c_seq ?_ | refine c_block ?_ | refine c_skip ?_ | refine x_then ?_ | refine x_block ?_)
  refine c_loop (σ := Nat) (fun k ρ w' => k ≤ J.length ∧ ρ 0 = .slice (some ⟨b, 0, none⟩) n n ∧ ρ 9 = vi_ ∧ ρ 10 = .int .i64 J.length ∧ ρ 11 = .int .i64 k ∧ ρ 5 = .pointer (some ⟨b5, 0, none⟩) ∧
      St w0 w' ((b5, 26, encR (ofQ (redu s (J.take k)).amt)) :: (b, 26, (tab n fun i => ofQ ((redu s (J.take k)).rest i)).flatMap encR) :: H)) (fun k => J.length - k) 0
    ⟨Nat.zero_le _, rfl, rfl, vi rfl (by rw [hzl]), rfl, rfl, hS⟩ ?_
  clear hS
  rintro k ρ w2 ⟨hk, h0, h9, h10, h11, h5, hS⟩
  repeat (with_reducible first | refine c_seq ?_ | refine c_block ?_ | refine c_skip ?_ | refine x_then ?_ | refine x_block ?_)
  refine c_reg ?_
  refine l_pure rfl (s_lss  h11 h10 ?_)
  refine l_nil ?_
  repeat (with_reducible first | refine c_seq ?_ | refine c_block ?_ | refine c_skip ?_ | refine x_then ?_ | refine x_block ?_)
  by_cases hlt : k < J.length
  · refine c_yes rfl (decide_eq_true (by omega)) ?_
    repeat (with_reducible first | refine c_seq ?_ | refine c_block ?_ | refine c_skip ?_ | refine x_then ?_ | refine x_block ?_)
    have hzg := zI_get J hlt
    obtain ⟨i, hi⟩ : ∃ i, i = J.getD k 0 := ⟨_, rfl⟩
    have hin : i < n := hJn i (by rw [hi]; exact getD_mem J k 0 hlt)
    rw [← hi] at hzg
    obtain ⟨hL1, hL2⟩ := hL k
    obtain ⟨hL3, hL4⟩ := hL (k + 1)
    have e2 : redu s (J.take (k + 1)) = rstp (redu s (J.take k)) i := by rw [take_succ' J k 0 hlt, redu_snoc, ← hi]
    rw [e2] at hL3 hL4
    obtain ⟨S, hSe⟩ : ∃ S, S = redu s (J.take k) := ⟨_, rfl⟩
    rw [← hSe] at hS e2 hL1 hL2 hL3 hL4
    have e1 : (tab n fun i => ofQ (S.rest i)).getD i zRR = ofQ (S.rest i) := tab_get _ _ hin
    have htl : (tab n fun i => ofQ (S.rest i)).length = n := tab_len _ _
    have l1 := hL1 i hin
    obtain ⟨p, hp⟩ : ∃ p, p = minQ (S.rest i) S.amt := ⟨_, rfl⟩
    have lp : L p ≤ K := by
      have := L_min (S.rest i) S.amt
      rw [hp]; omega
    have hset : (tab n fun i => ofQ (S.rest i)).set i (ofQ (S.rest i - p)) = tab n fun j => ofQ ((rstp S i).rest j) := by
      rw [tab_set]
      refine tab_congr fun j _ => ?_
      show _ = ofQ (if j = i then S.rest i - minQ (S.rest i) S.amt else S.rest j)
      rw [← hp]
      split <;> rfl
    have hamt : (rstp S i).amt = S.amt - p := by rw [hp]; rfl
    repeat (with_reducible first | refine c_seq ?_ | refine c_block ?_ | refine c_skip ?_ | refine x_then ?_ | refine x_block ?_)
    refine c_reg ?_
    refine l_pure rfl (s_ixr (i := k)  h9 h11 (hJ2 _ _ _ hS) (by omega) (by first | omega | (simp; done) | (simp; omega)) si_63 ?_)
    refine l_read rfl (s_lde (i := k) 0  rfl vi_3 (hJ2 _ _ _ hS) (by first | omega | (simp; done) | (simp; omega)) rfl rfl (.inr rfl) ?_)
    refine l_pure rfl (s_asg  rfl ?_)
    refine l_nil ?_
    repeat (with_reducible first | refine c_seq ?_ | refine c_block ?_ | refine c_skip ?_ | refine x_then ?_ | refine x_block ?_)
    rw [hzg]
    repeat (with_reducible first | refine c_seq ?_ | refine c_block ?_ | refine c_skip ?_ | refine x_then ?_ | refine x_block ?_)
    refine c_forget (fun ρ' => ρ' 0 = .slice (some ⟨b, 0, none⟩) n n ∧ ρ' 9 = vi_ ∧ ρ' 10 = .int .i64 J.length ∧ ρ' 11 = .int .i64 k ∧ ρ' 5 = .pointer (some ⟨b5, 0, none⟩) ∧ ρ' 7 = .int .i64 i ∧ True) ⟨h0, h9, h10, h11, h5, rfl, trivial⟩ ?_
    rintro ρk2 ⟨hk2_0, hk2_9, hk2_10, hk2_11, hk2_5, hk2_7, -⟩
    refine c_cut1 (fun ρ w' => ρ 0 = .slice (some ⟨b, 0, none⟩) n n ∧ ρ 9 = vi_ ∧ ρ 10 = .int .i64 J.length ∧ ρ 11 = .int .i64 k ∧ ρ 5 = .pointer (some ⟨b5, 0, none⟩) ∧ ρ 7 = .int .i64 i ∧ ∃ b8, ρ 8 = .pointer (some ⟨b8, 0, none⟩) ∧
        St w0 w' ((b8, 26, encR (ofQ p)) :: (b5, 26, encR (ofQ S.amt)) :: (b, 26, (tab n fun i => ofQ (S.rest i)).flatMap encR) :: H)) ?_ ?_
    · repeat (with_reducible first | refine c_seq ?_ | refine c_block ?_ | refine c_skip ?_ | refine x_then ?_ | refine x_block ?_)
      refine c_float 6 [(0, .pure), (1, .pure), (2, .pure), (3, .read), (4, .read), (5, .grow), (7, .free)] (by kernel_rfl) (by kernel_rfl) hS ?_
      intro wz3 hS hBz3
      refine wx_pure (by kernel_rfl) rfl rfl (s_move  hk2_0 ?_)
      refine wx_pure (by kernel_rfl) rfl rfl (s_move  hk2_7 ?_)
      refine wx_pure (by kernel_rfl) rfl rfl (s_ixo (i := i)  rfl rfl (by omega) (by first | omega | (simp; done) | (simp; omega)) si_37 ?_)
      refine wx_read (by kernel_rfl) rfl rfl (s_ldE (k := 1) (i := i) (enc := encR) zRR (fun _ => rfl)  rfl vi_26 hS rfl (by first | omega | simp) (by first | omega | (simp; done) | (simp; omega)) rfl (.inl rfl) ?_)
      refine wx_read (by kernel_rfl) rfl rfl (s_ldo (k := 0)  hk2_5 vi_26 hS rfl rfl rfl (.inl rfl) ?_)
      rw [e1]
      refine wx_fork rfl rfl ?_ ?_
      · refine w_grow rfl rfl (s_alloc  vi_26 hS ?_)
        intro b8 wz4 hS hBz4
        refine ⟨hBz4, ?_⟩
        refine w_grow rfl rfl (s_call Tryd.call39 rfl (QMin_ok (ofQ (S.rest i)) (ofQ S.amt) _ (by rw [Lr_ofQ, Lr_ofQ]; omega)) ?_)
        rintro r w6 ⟨rfl, hB6⟩
        refine ⟨hB6, ?_⟩
        rw [toQ_ofQ, toQ_ofQ, ← hp]
        replace hS := hS.grow hB6
        refine w_free rfl rfl (s_sta (k := 0)  rfl rfl vi_26 hS rfl rfl rfl (Nat.le_of_ble_eq_true rfl) rfl ?_)
        intro wz5 hS
        refine w_end ?_
        repeat (with_reducible first | refine c_seq ?_ | refine c_block ?_ | refine c_skip ?_ | refine x_then ?_ | refine x_block ?_)
        exact ⟨_, rfl, by assumption, by assumption, by assumption, by assumption, by assumption, by assumption, b8, rfl, hS⟩
      · refine s_call Tryd.call39 rfl (QMin_ok (ofQ (S.rest i)) (ofQ S.amt) _ (by rw [Lr_ofQ, Lr_ofQ]; omega)) ?_
        rintro r w6 ⟨rfl, hB6⟩
        refine ⟨hB6, ?_⟩
        rw [toQ_ofQ, toQ_ofQ, ← hp]
        replace hS := hS.grow hB6
        refine wx_now (by kernel_rfl) ?_
        refine w_grow rfl rfl (s_alloc  vi_26 hS ?_)
        intro b8 wz6 hS hBz6
        refine ⟨hBz6, ?_⟩
        refine w_free rfl rfl (s_sta (k := 0)  rfl rfl vi_26 hS rfl rfl rfl (Nat.le_of_ble_eq_true rfl) rfl ?_)
        intro wz7 hS
        refine w_end ?_
        repeat (with_reducible first | refine c_seq ?_ | refine c_block ?_ | refine c_skip ?_ | refine x_then ?_ | refine x_block ?_)
        exact ⟨_, rfl, by assumption, by assumption, by assumption, by assumption, by assumption, by assumption, b8, rfl, hS⟩
    clear hS h0 h9 h10 h11 h5
    rintro ρ w3 ⟨h0, h9, h10, h11, h5, h7, b8, h8, hS⟩
    repeat (with_reducible first | refine c_seq ?_ | refine c_block ?_ | refine c_skip ?_ | refine x_then ?_ | refine x_block ?_)
    refine c_draw [(0, .pure), (1, .pure), (2, .pure), (3, .pure), (4, .pure), (5, .read), (6, .read), (7, .grow), (8, .pure), (9, .free)] (by kernel_rfl) (by kernel_rfl) hS ?_
    intro wz8 hS hBz8
    refine w_pure rfl rfl (s_move  h0 ?_)
    refine w_pure rfl rfl (s_move  h7 ?_)
    refine w_pure rfl rfl (s_move  h0 ?_)
    refine w_pure rfl rfl (s_move  h7 ?_)
    refine w_pure rfl rfl (s_ixo (i := i)  rfl rfl (by omega) (by first | omega | (simp; done) | (simp; omega)) si_37 ?_)
    refine w_read rfl rfl (s_ldE (k := 2) (i := i) (enc := encR) zRR (fun _ => rfl)  rfl vi_26 hS rfl (by first | omega | simp) (by first | omega | (simp; done) | (simp; omega)) rfl (.inl rfl) ?_)
    refine w_read rfl rfl (s_ldo (k := 0)  h8 vi_26 hS rfl rfl rfl (.inl rfl) ?_)
    rw [e1]
    refine w_grow rfl rfl (s_call Tryd.call25 rfl (QSubtract_ok (ofQ (S.rest i)) (ofQ p) _ (by rw [Lr_ofQ, Lr_ofQ]; omega)) ?_)
    rintro r w4 ⟨rfl, hB4⟩
    refine ⟨hB4, ?_⟩
    rw [toQ_ofQ, toQ_ofQ]
    replace hS := hS.grow hB4
    refine w_pure rfl rfl (s_ixo (i := i)  rfl rfl (by omega) (by first | omega | (simp; done) | (simp; omega)) si_37 ?_)
    refine w_free rfl rfl (s_stE (k := 2) (i := i) (enc := encR) (ofQ (S.rest i - p)) (fun _ => rfl)  rfl rfl vi_26 hS rfl (by first | omega | simp) (by first | omega | (simp; done) | (simp; omega)) rfl rfl ?_)
    intro wz9 hS
    refine w_end ?_
    repeat (with_reducible first | refine c_seq ?_ | refine c_block ?_ | refine c_skip ?_ | refine x_then ?_ | refine x_block ?_)
    replace hS : St w0 _ ((b8, 26, encR (ofQ p)) :: (b5, 26, encR (ofQ S.amt)) :: (b, 26, ((tab n fun i => ofQ (S.rest i)).set i (ofQ (S.rest i - p))).flatMap encR) :: H) := hS
    rw [hset] at hS
    repeat (with_reducible first | refine c_seq ?_ | refine c_block ?_ | refine c_skip ?_ | refine x_then ?_ | refine x_block ?_)
    refine c_reg ?_
    refine l_read rfl (s_ldo (k := 1)  h5 vi_26 hS rfl rfl rfl (.inl rfl) ?_)
    refine l_read rfl (s_ldo (k := 0)  h8 vi_26 hS rfl rfl rfl (.inl rfl) ?_)
    refine l_heavy rfl (s_call Tryd.call25 rfl (QSubtract_ok (ofQ S.amt) (ofQ p) _ (by rw [Lr_ofQ, Lr_ofQ]; omega)) ?_)
    rintro r w5 ⟨rfl, hB5⟩
    rw [toQ_ofQ, toQ_ofQ, ← hamt]
    replace hS := hS.grow hB5
    refine l_heavy rfl (s_sta (k := 1)  h5 rfl vi_26 hS rfl rfl rfl (Nat.le_of_ble_eq_true rfl) rfl ?_)
    intro wz10 hS
    refine l_nil ?_
    repeat (with_reducible first | refine c_seq ?_ | refine c_block ?_ | refine c_skip ?_ | refine x_then ?_ | refine x_block ?_)
    replace hS : St w0 _ ((b8, 26, encR (ofQ p)) :: (b5, 26, encR (ofQ (rstp S i).amt)) :: (b, 26, (tab n fun j => ofQ ((rstp S i).rest j)).flatMap encR) :: H) := hS
    repeat (with_reducible first | refine c_seq ?_ | refine c_block ?_ | refine c_skip ?_ | refine x_then ?_ | refine x_block ?_)
    refine c_reg ?_
    refine l_pure rfl (s_add  h11 rfl (IntWalk.i64_in _ (by omega)) ?_)
    refine l_pure rfl (s_move  rfl ?_)
    refine l_nil ?_
    repeat (with_reducible first | refine c_seq ?_ | refine c_block ?_ | refine c_skip ?_ | refine x_then ?_ | refine x_block ?_)
    exact ⟨k + 1, _, rfl, ⟨hlt, by assumption, by assumption, by assumption, vi rfl (by omega), by assumption, by rw [e2]; exact hS.drop (List.sublist_cons_self _ _)⟩, by omega⟩
  · refine c_no rfl (decide_eq_false (by omega)) ?_
    repeat (with_reducible first | refine c_seq ?_ | refine c_block ?_ | refine c_skip ?_ | refine x_then ?_ | refine x_block ?_)
    refine c_exit ?_
    repeat (with_reducible first | refine x_then_exit ?_ | refine x_block_exit ?_ | refine x_block_pass rfl ?_)
    repeat (with_reducible first | refine c_seq ?_ | refine c_block ?_ | refine c_skip ?_ | refine x_then ?_ | refine x_block ?_)
    have e : J.take k = J := List.take_of_length_le (by omega)
    rw [e] at hS
    exact r_none rfl ⟨rfl, hS.drop (List.sublist_cons_self _ _)⟩
end Go.Proofs.YtdafaibhiobpaaaDoor
