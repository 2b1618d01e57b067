/-
  Part 8 of the texts that the law's proof is made of: the framework and the walks.
-/
import Derived.Test.YtmghobajmhdbfaaGreatDoorPd7
namespace Go.Proofs.YtmghobajmhdbfaaGreatDoor
open Go Go.RowKit Go.Sx
theorem totF_owF {X : List It} {owed : List RR} (hp : Pos owed) {c : Nat} (hc : c < owed.length) : totF X owed c ≤ owF owed c := by
  have h1 := sets_all (X := X) hp fun k => decide (k = c)
  have h2 : capQ X owed (fun k => decide (k = c)) ≤ capF X owed (fun k => decide (k = c)) 0 := mins_le _ _ _ (.inr rfl)
  have h3 := sumIf_upd (n := owed.length) (p := fun k => decide (k = c)) (f := fun _ => 0) (g := fun k => if k = c then totF X owed c else 0) hc fun i _ hne => if_neg hne
  have h4 : sumIf owed.length (fun k => decide (k = c)) (totF X owed) = sumIf owed.length (fun k => decide (k = c)) fun k => if k = c then totF X owed c else 0 := sumIf_eqIf fun i _ => by
    by_cases e : i = c
    · subst e; simp
    · simp [e]
  rw [sumIf_f0 (fun _ _ _ => rfl), if_pos (by simp), if_pos rfl] at h3
  have h5 : capF X owed (fun k => decide (k = c)) 0 ≤ owF owed c := by
    have g1 := sumIf_upd (n := owed.length) (p := fun k => decide (k = c) && outs X 0 k) (f := fun _ => 0) (g := fun k => if k = c then owF owed c else 0) hc fun i _ hne => if_neg hne
    have g2 : sumIf owed.length (fun k => decide (k = c) && outs X 0 k) (owF owed) = sumIf owed.length (fun k => decide (k = c) && outs X 0 k) fun k => if k = c then owF owed c else 0 := sumIf_eqIf fun i _ => by
      by_cases e : i = c
      · subst e; simp
      · simp [e]
    rw [sumIf_f0 (fun _ _ _ => rfl), if_pos rfl] at g1
    have := hp c hc
    rw [capF_eq, payF_zero, g2, g1]
    split <;> grind
  grind
theorem sum_tt (f : Nat → Rat) (n : Nat) : sumQ ((tab n fun i => ofQ (f i)).map toQ) = sumIf n tt f := by
  induction n with
  | zero => rfl
  | succ n ih => rw [tab_succ, List.map_append, List.map_cons, List.map_nil, sumQ_snoc, ih, toQ_ofQ, sumIf, if_pos (show tt n = true from rfl)]
theorem L_sumTT {f : Nat → Rat} {B : Nat} : ∀ {k : Nat}, (∀ i, i < k → L (f i) ≤ B) → L (sumIf k tt f) ≤ k * (B + 1) + 1
  | 0, _ => by show L 0 ≤ _; rw [L_zero]; omega
  | k + 1, h => by
    have h1 := L_sumTT (k := k) fun i hi => h i (by omega)
    have h2 := h k (by omega)
    have h3 := L_add (sumIf k tt f) (f k)
    rw [sumIf, if_pos (show tt k = true from rfl), Nat.add_mul]
    omega
def gotT (P : Nat → Nat → Rat) (i k c : Nat) : Rat := sumIf (if c < k then i + 1 else i) tt fun a => P a c
set_option maxHeartbeats 4000000 in
theorem MarshalDistribute_ok (vl va : Value) (l : List (Nat → Nat)) (a : List Nat) (w : World) (hl : Sl enc6 6 w vl l) (ha : Sl (uk .u16) 1 w va a) (hlb : ∀ x ∈ l, ∀ i, i < 6 → x i < 65536) (hab : ∀ x ∈ a, x < 65536)
    (hT : At w ⟨2, 0, none⟩ (Kr .u8 tzTab)) :
    Ret Tryz.prog 3 #[vl, va] w fun v w' => v = .bool true ∧ Below w.heap.size w w' := by
  have hM : MX = 1099511627776 := rfl
  have hK1 : 80 * 1 + 90 ≤ MX := by rw [hM]; decide
  have hK2 : 600 * 1 + 600 ≤ MX := by rw [hM]; decide
  have hS := St.init w
  refine enter Tryz.func3 rfl Tryz.ntmps3 rfl ?_
  repeat (with_reducible first | refine c_seq ?_ | refine c_block ?_ | refine c_skip ?_ | refine x_then ?_ | refine x_block ?_)
  refine c_reg ?_
  refine l_pure rfl (s_asg  rfl ?_)
  refine l_nil ?_
  repeat (with_reducible first | refine c_seq ?_ | refine c_block ?_ | refine c_skip ?_ | refine x_then ?_ | refine x_block ?_)
  refine c_reg ?_
  refine l_pure rfl (s_move  rfl ?_)
  refine l_heavy rfl (s_call Tryz.call5 rfl (Amounts_ok va a 6 _ ha hab (by decide)) ?_)
  rintro vo w1 ⟨ho, hB1⟩
  replace hS := hS.grow hB1
  have hm6 : (amts a 6).length ≤ 6 := by rw [amts_len]; omega
  refine l_pure rfl (s_asg  rfl ?_)
  refine l_nil ?_
  repeat (with_reducible first | refine c_seq ?_ | refine c_block ?_ | refine c_skip ?_ | refine x_then ?_ | refine x_block ?_)
  refine c_reg ?_
  refine l_pure rfl (s_move  rfl ?_)
  refine l_pure rfl (s_move  rfl ?_)
  refine l_pure rfl (s_lenr  rfl ho ⟨_, Tryz.underlying24⟩ ?_)
  refine l_heavy rfl (s_call Tryz.call6 rfl (Items_ok vl l (amts a 6).length _ (hl.below hS.below) hlb (by omega)) ?_)
  rintro vit w2 ⟨⟨cvs, hI⟩, hB2⟩
  replace hS := hS.grow hB2
  replace ho := ho.below hB2
  have hck := items_check l a 4 6 (by decide) (by decide)
  have hIB := items_B l (amts a 6).length 4
  have hoB := amts_RB a 6
  have hpos := amts_pos a 6
  have hl4 : (itemsL l (amts a 6).length 4).length ≤ 4 := by rw [itemsL_len]; omega
  refine l_pure rfl (s_asg  rfl ?_)
  refine l_nil ?_
  repeat (with_reducible first | refine c_seq ?_ | refine c_block ?_ | refine c_skip ?_ | refine x_then ?_ | refine x_block ?_)
  refine c_forget (fun ρ' => ρ' 5 = vo ∧ ρ' 6 = vit ∧ True) ⟨rfl, rfl, trivial⟩ ?_
  rintro ρk1 ⟨hk1_5, hk1_6, -⟩
  repeat (with_reducible first | refine c_seq ?_ | refine c_block ?_ | refine c_skip ?_ | refine x_then ?_ | refine x_block ?_)
  refine c_reg ?_
  refine l_pure rfl (s_move  hk1_6 ?_)
  refine l_pure rfl (s_move  hk1_5 ?_)
  refine l_heavy rfl (s_call Tryz.call7 rfl (Distribute_ok _ _ _ cvs _ 1 _ hI ho hIB hoB hK2 (hT.below hS.below)) ?_)
  rintro r w3 ⟨⟨vm, rfl, hd⟩, hB3⟩
  rw [hck]
  obtain ⟨P, lf, vs, hMt, hfl, hLP⟩ := hd hck
  replace hS := hS.grow hB3
  replace ho := ho.below hB3
  replace hI := hI.below hB3
  refine l_pure rfl (s_move  rfl ?_)
  refine l_pure rfl (s_ext  rfl rfl ?_)
  refine l_pure rfl (s_ext  rfl rfl ?_)
  refine l_pure rfl (s_asg  rfl ?_)
  refine l_pure rfl (s_asg  rfl ?_)
  refine l_nil ?_
  repeat (with_reducible first | refine c_seq ?_ | refine c_block ?_ | refine c_skip ?_ | refine x_then ?_ | refine x_block ?_)
  refine c_forget (fun ρ' => ρ' 5 = vo ∧ ρ' 6 = vit ∧ ρ' 7 = vm ∧ ρ' 8 = .int .i64 0 ∧ True) ⟨hk1_5, hk1_6, rfl, rfl, trivial⟩ ?_
  rintro ρk2 ⟨hk2_5, hk2_6, hk2_7, hk2_8, -⟩
  repeat (with_reducible first | refine c_seq ?_ | refine c_block ?_ | refine c_skip ?_ | refine x_then ?_ | refine x_block ?_)
  refine c_reg ?_
  refine l_pure rfl (s_move  hk2_6 ?_)
  refine l_pure rfl (s_move  hk2_5 ?_)
  refine l_heavy rfl (s_call Tryz.call8 rfl (Totals_ok _ _ _ cvs _ 1 _ hI ho hIB hoB hK1 (hT.below hS.below)) ?_)
  rintro r w5 ⟨⟨vt, rfl, ht⟩, hB5⟩
  rw [hck]
  rw [totL_eq hck] at ht
  replace hS := hS.grow hB5
  replace ho := ho.below hB5
  replace hI := hI.below hB5
  replace hMt := hMt.below hB5
  have hW := hS.below
  replace hT := hT.below hW
  obtain ⟨X, hX⟩ : ∃ X, X = itemsL l (amts a 6).length 4 := ⟨_, rfl⟩
  rw [← hX] at ht hIB hl4 hI hMt hfl hLP
  obtain ⟨O, hO⟩ : ∃ O, O = amts a 6 := ⟨_, rfl⟩
  rw [← hO] at ht hoB hpos hm6 ho hMt hfl hLP
  have hLa := L_totF hIB hoB (by omega) (by omega)
  have htl : (tab O.length fun c => ofQ (totF X O c)).length = O.length := tab_len _ _
  have hvl := hMt.len
  rw [tabM_len] at hvl
  have hzl := hI.zlen
  have hrow : ∀ i, i < X.length → ∀ wx, Below w5.heap.size w5 wx → Sl encR 3 wx (vs.getD i undef) (tab O.length fun k => ofQ (P i k)) := fun i hi wx hb => by
    have := hMt.row i (by rw [tabM_len]; exact hi)
    rw [tabM_row _ hi] at this
    exact this.below hb
  clear hS
  have hS := St.init w5
  refine l_pure rfl (s_move  rfl ?_)
  refine l_pure rfl (s_ext  rfl rfl ?_)
  refine l_pure rfl (s_ext  rfl rfl ?_)
  refine l_pure rfl (s_asg  rfl ?_)
  refine l_pure rfl (s_asg  rfl ?_)
  refine l_nil ?_
  repeat (with_reducible first | refine c_seq ?_ | refine c_block ?_ | refine c_skip ?_ | refine x_then ?_ | refine x_block ?_)
  refine c_forget (fun ρ' => ρ' 5 = vo ∧ ρ' 6 = vit ∧ ρ' 7 = vm ∧ ρ' 8 = .int .i64 0 ∧ ρ' 9 = vt ∧ ρ' 10 = .int .i64 0 ∧ True) ⟨hk2_5, hk2_6, hk2_7, hk2_8, rfl, rfl, trivial⟩ ?_
  rintro ρk3 ⟨hk3_5, hk3_6, hk3_7, hk3_8, hk3_9, hk3_10, -⟩
  repeat (with_reducible first | refine c_seq ?_ | refine c_block ?_ | refine c_skip ?_ | refine x_then ?_ | refine x_block ?_)
  refine c_reg ?_
  refine l_pure rfl (s_move  hk3_8 ?_)
  refine l_pure rfl (s_neq  rfl rfl ?_)
  refine l_pure rfl (s_move  rfl ?_)
  refine l_pure (gd_yes 37 (by kernel_rfl) rfl rfl) (s_move  hk3_10 ?_)
  refine l_pure (gd_yes 37 (by kernel_rfl) rfl rfl) (s_neq  rfl rfl ?_)
  refine l_pure rfl (s_pick (vb rfl rfl) rfl ?_)
  refine l_pure rfl (s_move  rfl ?_)
  refine l_pure (gd_yes 41 (by kernel_rfl) rfl rfl) (s_move  hk3_7 ?_)
  refine l_pure (gd_yes 41 (by kernel_rfl) rfl rfl) (s_lenr  rfl hMt.sl ⟨_, Tryz.underlying28⟩ ?_)
  refine l_pure (gd_yes 41 (by kernel_rfl) rfl rfl) (s_move  hk3_6 ?_)
  refine l_pure (gd_yes 41 (by kernel_rfl) rfl rfl) (s_lenr  rfl hI.sl ⟨_, Tryz.underlying26⟩ ?_)
  refine l_pure (gd_yes 41 (by kernel_rfl) rfl rfl) (s_neq  rfl rfl ?_)
  refine l_pure rfl (s_pick (vb rfl rfl) rfl ?_)
  refine l_pure rfl (s_move  rfl ?_)
  refine l_pure (gd_yes 48 (by kernel_rfl) rfl (decide_eq_false (by omega))) (s_move  hk3_9 ?_)
  refine l_pure (gd_yes 48 (by kernel_rfl) rfl (decide_eq_false (by omega))) (s_lenr  rfl ht ⟨_, Tryz.underlying24⟩ ?_)
  refine l_pure (gd_yes 48 (by kernel_rfl) rfl (decide_eq_false (by omega))) (s_move  hk3_5 ?_)
  refine l_pure (gd_yes 48 (by kernel_rfl) rfl (decide_eq_false (by omega))) (s_lenr  rfl ho ⟨_, Tryz.underlying24⟩ ?_)
  refine l_pure (gd_yes 48 (by kernel_rfl) rfl (decide_eq_false (by omega))) (s_neq  rfl rfl ?_)
  refine l_pure rfl (s_pick (vb rfl (decide_eq_false (by omega))) rfl ?_)
  refine l_nil ?_
  repeat (with_reducible first | refine c_seq ?_ | refine c_block ?_ | refine c_skip ?_ | refine x_then ?_ | refine x_block ?_)
  refine c_no rfl (decide_eq_false (by omega)) ?_
  repeat (with_reducible first | refine c_seq ?_ | refine c_block ?_ | refine c_skip ?_ | refine x_then ?_ | refine x_block ?_)
  refine c_reg ?_
  refine l_pure rfl (s_move  hk3_5 ?_)
  refine l_pure rfl (s_lenr  rfl ho ⟨_, Tryz.underlying24⟩ ?_)
  refine l_heavy rfl (s_makeE (enc := encR) (n := O.length) zRR  rfl rfl si_24 rfl (by omega) (by omega) (by omega) (by omega) hS ?_)
  intro b11 wz4 hS hBz4
  refine l_pure rfl (s_asg  rfl ?_)
  refine l_nil ?_
  repeat (with_reducible first | refine c_seq ?_ | refine c_block ?_ | refine c_skip ?_ | refine x_then ?_ | refine x_block ?_)
  refine c_reg ?_
  refine l_pure rfl (s_move  hk3_7 ?_)
  refine l_pure rfl (s_lenr  rfl (hMt.sl.below hS.below) ⟨_, Tryz.underlying28⟩ ?_)
  refine l_pure rfl (s_move  rfl ?_)
  refine l_nil ?_
  repeat (with_reducible first | refine c_seq ?_ | refine c_skip ?_ | refine x_then ?_ | refine x_block ?_)
  rw [hvl]
  have hz0 : List.replicate O.length zRR = tab O.length fun c => ofQ (gotT P 0 0 c) := by rw [tab_rep]; exact tab_congr fun c _ => by unfold gotT; rw [if_neg (Nat.not_lt_zero _), sumIf, ofQ_zero]; rfl
  rw [hz0] at hS
  refine c_cut1 (fun ρ w' => ρ 5 = vo ∧ ρ 9 = vt ∧ ρ 11 = .slice (some ⟨b11, 0, none⟩) O.length O.length ∧ St w5 w' [(b11, 36, (tab O.length fun c => ofQ (gotT P X.length 0 c)).flatMap encR)]) ?_ ?_
  · repeat (with_reducible first | refine c_seq ?_ | refine c_block ?_ | refine c_skip ?_ | refine x_then ?_ | refine x_block ?_)
    refine c_loop (σ := Nat) (fun i ρ w' => i ≤ X.length ∧ ρ 5 = vo ∧ ρ 6 = vit ∧ ρ 9 = vt ∧ ρ 11 = .slice (some ⟨b11, 0, none⟩) O.length O.length ∧ ρ 58 = vm ∧ ρ 59 = .int .i64 X.length ∧ ρ 60 = .int .i64 i ∧ St w5 w' [(b11, 36, (tab O.length fun c => ofQ (gotT P i 0 c)).flatMap encR)]) (fun i => X.length - i) 0
      ⟨Nat.zero_le _, by assumption, by assumption, by assumption, rfl, rfl, rfl, rfl, hS⟩ ?_
    clear hS
    rintro i ρ w6 ⟨hi, h5, h6, h9, h11, h58, h59, h60, hS⟩
    repeat (with_reducible first | refine c_seq ?_ | refine c_block ?_ | refine c_skip ?_ | refine x_then ?_ | refine x_block ?_)
    refine c_reg ?_
    refine l_pure rfl (s_lss  h60 h59 ?_)
    refine l_nil ?_
    repeat (with_reducible first | refine c_seq ?_ | refine c_block ?_ | refine c_skip ?_ | refine x_then ?_ | refine x_block ?_)
    by_cases hlt : i < X.length
    · refine c_yes rfl (decide_eq_true (by omega)) ?_
      repeat (with_reducible first | refine c_seq ?_ | refine c_block ?_ | refine c_skip ?_ | refine x_then ?_ | refine x_block ?_)
      obtain ⟨x, hx⟩ : ∃ x, x = X.getD i zIt := ⟨_, rfl⟩
      obtain ⟨cv, hcv⟩ : ∃ cv, cv = cvs.getD i undef := ⟨_, rfl⟩
      have hch := hI.ch i hlt
      rw [← hx, ← hcv] at hch
      obtain ⟨ca, ccap, hcve, _⟩ := hch.form
      subst hcve
      have hzg := hI.zget hlt
      rw [← hx, ← hcv] at hzg
      have hpx : procQ x = prF X i := by rw [hx]; rfl
      have hxB := hIB x (by rw [hx]; exact getD_mem X i zIt hlt)
      have hri := hrow i hlt
      have hrl := tab_len O.length fun k => ofQ (P i k)
      have hsum := sum_tt (P i) O.length
      have hle : sumIf O.length tt (P i) ≤ prF X i := by
        have h1 := hfl.row i hlt
        have h2 := hfl.l0 i hlt
        grind
      have hLs := L_sumTT (f := P i) (B := 268) (k := O.length) fun k hk => hLP i hlt k hk
      have hlB : O.length * (268 + 1) ≤ 6 * (268 + 1) := Nat.mul_le_mul_right _ hm6
      have hsL : sumL (tab O.length fun k => ofQ (P i k)) + 1 ≤ MX := by
        have := sumL_bound (l := tab O.length fun k => ofQ (P i k)) (K := 268) (fun r hr => by
          obtain ⟨k, hk, rfl⟩ := List.mem_map.1 hr
          rw [Lr_ofQ]; exact hLP i hlt k (List.mem_range.1 hk))
        rw [hrl] at this
        omega
      have hLpr := L_prF hIB hlt
      repeat (with_reducible first | refine c_seq ?_ | refine c_block ?_ | refine c_skip ?_ | refine x_then ?_ | refine x_block ?_)
      refine c_reg ?_
      refine l_pure rfl (s_move  h60 ?_)
      refine l_pure rfl (s_ixr (i := i)  h58 h60 (hMt.sl.below hS.below) (by omega) (by first | omega | (simp; done) | (simp; omega)) si_28 ?_)
      refine l_read rfl (s_lde (i := i) undef  rfl vi_24 (hMt.sl.below hS.below) (by first | omega | (simp; done) | (simp; omega)) rfl rfl (.inr rfl) ?_)
      refine l_pure rfl (s_asg  rfl ?_)
      refine l_pure rfl (s_asg  rfl ?_)
      refine l_nil ?_
      repeat (with_reducible first | refine c_seq ?_ | refine c_block ?_ | refine c_skip ?_ | refine x_then ?_ | refine x_block ?_)
      refine c_forget (fun ρ' => ρ' 5 = vo ∧ ρ' 6 = vit ∧ ρ' 9 = vt ∧ ρ' 11 = .slice (some ⟨b11, 0, none⟩) O.length O.length ∧ ρ' 58 = vm ∧ ρ' 59 = .int .i64 X.length ∧ ρ' 60 = .int .i64 i ∧ ρ' 12 = .int .i64 i ∧ ρ' 13 = vs.getD i undef ∧ True) ⟨h5, h6, h9, h11, h58, h59, h60, rfl, rfl, trivial⟩ ?_
      rintro ρk5 ⟨hk5_5, hk5_6, hk5_9, hk5_11, hk5_58, hk5_59, hk5_60, hk5_12, hk5_13, -⟩
      repeat (with_reducible first | refine c_seq ?_ | refine c_block ?_ | refine c_skip ?_ | refine x_then ?_ | refine x_block ?_)
      refine c_draw [(0, .pure), (1, .pure), (2, .pure), (3, .pure), (4, .pure), (5, .pure), (6, .pure), (8, .pure), (9, .pure), (10, .pure), (11, .read), (7, .grow), (12, .grow), (13, .grow), (14, .pure), (15, .pure)] (by kernel_rfl) (by kernel_rfl) hS ?_
      intro wz6 hS hBz6
      refine w_pure rfl rfl (s_move  hk5_13 ?_)
      refine w_pure rfl rfl (s_lenr  rfl (hri _ hS.below) ⟨_, Tryz.underlying24⟩ ?_)
      refine w_pure rfl rfl (s_move  hk5_5 ?_)
      refine w_pure rfl rfl (s_lenr  rfl (ho.below hS.below) ⟨_, Tryz.underlying24⟩ ?_)
      refine w_pure rfl rfl (s_neq  rfl rfl ?_)
      refine w_pure rfl rfl (s_move  rfl ?_)
      refine w_pure rfl (gd_yes 70 (by kernel_rfl) rfl (decide_eq_false (by omega))) (s_move  hk5_13 ?_)
      refine w_pure rfl (gd_yes 70 (by kernel_rfl) rfl (decide_eq_false (by omega))) (s_move  hk5_6 ?_)
      refine w_pure rfl (gd_yes 70 (by kernel_rfl) rfl (decide_eq_false (by omega))) (s_move  hk5_12 ?_)
      refine w_pure rfl (gd_yes 70 (by kernel_rfl) rfl (decide_eq_false (by omega))) (s_ixr (i := i) rfl rfl (hI.sl.below hS.below) (by omega) (by omega) si_26 ?_)
      refine w_read rfl (gd_yes 70 (by kernel_rfl) rfl (decide_eq_false (by omega))) (s_lde (v := aggIt x (.slice ca x.charges.length ccap)) (i := i) (zIt, undef)  rfl vi_41 (hI.sl.below hS.below) (by omega) rfl (by rw [hzg]; rfl) (.inl rfl) ?_)
      refine w_grow rfl (gd_yes 70 (by kernel_rfl) rfl (decide_eq_false (by omega))) (s_call Tryz.call10 rfl (QSum_ok _ (tab O.length fun k => ofQ (P i k)) _ (hri _ hS.below) hsL) ?_)
      rintro r w7 ⟨rfl, hB7⟩
      refine ⟨hB7, ?_⟩
      rw [hsum]
      replace hS := hS.grow hB7
      refine w_grow rfl (gd_yes 70 (by kernel_rfl) rfl (decide_eq_false (by omega))) (s_call Tryz.call11 rfl (Proceeds_ok x ca _ ccap _ (by have := hxB.1; have := hxB.2.1; omega)) ?_)
      rintro r w8 ⟨rfl, hB8⟩
      refine ⟨hB8, ?_⟩
      rw [hpx]
      replace hS := hS.grow hB8
      refine w_grow rfl (gd_yes 70 (by kernel_rfl) rfl (decide_eq_false (by omega))) (s_call Tryz.call9 rfl (QCompare_ok (ofQ (sumIf O.length tt (P i))) (ofQ (prF X i)) _ (by rw [Lr_ofQ, Lr_ofQ]; omega)) ?_)
      rintro r w9 ⟨rfl, hB9⟩
      refine ⟨hB9, ?_⟩
      rw [toQ_ofQ, toQ_ofQ]
      replace hS := hS.grow hB9
      refine w_pure rfl (gd_yes 70 (by kernel_rfl) rfl (decide_eq_false (by omega))) (s_gtr  rfl rfl ?_)
      refine w_pure rfl rfl (s_pick (vb rfl (decide_eq_false (by omega))) rfl ?_)
      refine w_end ?_
      repeat (with_reducible first | refine c_seq ?_ | refine c_block ?_ | refine c_skip ?_ | refine x_then ?_ | refine x_block ?_)
      refine c_no rfl (decide_eq_false (Int.not_lt.2 (cmpQ_le.2 hle))) ?_
      repeat (with_reducible first | refine c_seq ?_ | refine c_block ?_ | refine c_skip ?_ | refine x_then ?_ | refine x_block ?_)
      refine c_reg ?_
      refine l_pure rfl (s_move  hk5_13 ?_)
      refine l_pure rfl (s_lenr  rfl (hri _ hS.below) ⟨_, Tryz.underlying24⟩ ?_)
      refine l_pure rfl (s_move  rfl ?_)
      refine l_nil ?_
      repeat (with_reducible first | refine c_seq ?_ | refine c_skip ?_ | refine x_then ?_ | refine x_block ?_)
      rw [hrl]
      refine c_cut1 (fun ρ w' => ρ 5 = vo ∧ ρ 6 = vit ∧ ρ 9 = vt ∧ ρ 11 = .slice (some ⟨b11, 0, none⟩) O.length O.length ∧ ρ 58 = vm ∧ ρ 59 = .int .i64 X.length ∧ ρ 60 = .int .i64 i ∧ St w5 w' [(b11, 36, (tab O.length fun c => ofQ (gotT P i O.length c)).flatMap encR)]) ?_ ?_
      · repeat (with_reducible first | refine c_seq ?_ | refine c_block ?_ | refine c_skip ?_ | refine x_then ?_ | refine x_block ?_)
        refine c_loop (σ := Nat) (fun k ρ w' => k ≤ O.length ∧ ρ 5 = vo ∧ ρ 6 = vit ∧ ρ 9 = vt ∧ ρ 11 = .slice (some ⟨b11, 0, none⟩) O.length O.length ∧ ρ 58 = vm ∧ ρ 59 = .int .i64 X.length ∧ ρ 60 = .int .i64 i ∧ ρ 12 = .int .i64 i ∧ ρ 81 = vs.getD i undef ∧ ρ 82 = .int .i64 O.length ∧ ρ 83 = .int .i64 k ∧ St w5 w' [(b11, 36, (tab O.length fun c => ofQ (gotT P i k c)).flatMap encR)]) (fun k => O.length - k) 0
          ⟨Nat.zero_le _, by assumption, by assumption, by assumption, by assumption, by assumption, by assumption, by assumption, by assumption, rfl, rfl, rfl, hS⟩ ?_
        clear hS h5 h6 h9 h11 h58 h59 h60
        rintro k ρ w10 ⟨hk, h5, h6, h9, h11, h58, h59, h60, h12, h81, h82, h83, hS⟩
        have hgl := tab_len O.length fun c => ofQ (gotT P i k c)
        repeat (with_reducible first | refine c_seq ?_ | refine c_block ?_ | refine c_skip ?_ | refine x_then ?_ | refine x_block ?_)
        refine c_reg ?_
        refine l_pure rfl (s_lss  h83 h82 ?_)
        refine l_nil ?_
        repeat (with_reducible first | refine c_seq ?_ | refine c_block ?_ | refine c_skip ?_ | refine x_then ?_ | refine x_block ?_)
        by_cases hkl : k < O.length
        · refine c_yes rfl (decide_eq_true (by omega)) ?_
          repeat (with_reducible first | refine c_seq ?_ | refine c_block ?_ | refine c_skip ?_ | refine x_then ?_ | refine x_block ?_)
          have hgp : (tab O.length fun k => ofQ (P i k)).getD k zRR = ofQ (P i k) := tab_get _ _ hkl
          have hgg : (tab O.length fun c => ofQ (gotT P i k c)).getD k zRR = ofQ (gotT P i k k) := tab_get _ _ hkl
          have hp0 := hfl.p0 i hlt k hkl
          have hLk := hLP i hlt k hkl
          repeat (with_reducible first | refine c_seq ?_ | refine c_block ?_ | refine c_skip ?_ | refine x_then ?_ | refine x_block ?_)
          refine c_reg ?_
          refine l_pure rfl (s_move  h83 ?_)
          refine l_pure rfl (s_ixr (i := k)  h81 h83 (hri _ hS.below) (by omega) (by first | omega | (simp; done) | (simp; omega)) si_24 ?_)
          refine l_read rfl (s_lde (i := k) zRR  rfl vi_36 (hri _ hS.below) (by first | omega | (simp; done) | (simp; omega)) rfl rfl (.inl rfl) ?_)
          refine l_heavy rfl (s_alloc  vi_36 hS ?_)
          intro b15 wz7 hS hBz7
          refine l_pure rfl (s_asg  rfl ?_)
          refine l_heavy rfl (s_sta (k := 0)  rfl rfl vi_36 hS rfl rfl rfl (Nat.le_of_ble_eq_true rfl) rfl ?_)
          intro wz8 hS
          refine l_nil ?_
          repeat (with_reducible first | refine c_seq ?_ | refine c_block ?_ | refine c_skip ?_ | refine x_then ?_ | refine x_block ?_)
          rw [hgp] at hS
          replace hS : St w5 _ [(b15, 36, encR (ofQ (P i k))), (b11, 36, (tab O.length fun c => ofQ (gotT P i k c)).flatMap encR)] := hS
          repeat (with_reducible first | refine c_seq ?_ | refine c_block ?_ | refine c_skip ?_ | refine x_then ?_ | refine x_block ?_)
          refine c_forget (fun ρ' => ρ' 5 = vo ∧ ρ' 6 = vit ∧ ρ' 9 = vt ∧ ρ' 11 = .slice (some ⟨b11, 0, none⟩) O.length O.length ∧ ρ' 58 = vm ∧ ρ' 59 = .int .i64 X.length ∧ ρ' 60 = .int .i64 i ∧ ρ' 12 = .int .i64 i ∧ ρ' 81 = vs.getD i undef ∧ ρ' 82 = .int .i64 O.length ∧ ρ' 83 = .int .i64 k ∧ ρ' 14 = .int .i64 k ∧ ρ' 15 = .pointer (some ⟨b15, 0, none⟩) ∧ True) ⟨h5, h6, h9, h11, h58, h59, h60, h12, h81, h82, h83, rfl, rfl, trivial⟩ ?_
          rintro ρk9 ⟨hk9_5, hk9_6, hk9_9, hk9_11, hk9_58, hk9_59, hk9_60, hk9_12, hk9_81, hk9_82, hk9_83, hk9_14, hk9_15, -⟩
          refine c_cut1 (fun ρ w' => ρ 5 = vo ∧ ρ 6 = vit ∧ ρ 9 = vt ∧ ρ 11 = .slice (some ⟨b11, 0, none⟩) O.length O.length ∧ ρ 58 = vm ∧ ρ 59 = .int .i64 X.length ∧ ρ 60 = .int .i64 i ∧ ρ 12 = .int .i64 i ∧ ρ 81 = vs.getD i undef ∧ ρ 82 = .int .i64 O.length ∧ ρ 83 = .int .i64 k ∧ ρ 14 = .int .i64 k ∧ ρ 15 = .pointer (some ⟨b15, 0, none⟩) ∧ ρ 104 = .bool false ∧ St w5 w' [(b15, 36, encR (ofQ (P i k))), (b11, 36, (tab O.length fun c => ofQ (gotT P i k c)).flatMap encR)]) ?_ ?_
          · have hng : ¬ sgnQ (P i k) < 0 := fun g => by have := sgnQ_neg.1 g; grind
            by_cases hpp : 0 < P i k
            · have hsc : secures x k = true := by
                cases hse : secures x k with
                | true => rfl
                | false =>
                  have := hfl.sc i hlt k hkl (by show secures (X.getD i zIt) k = false; rw [← hx]; exact hse)
                  rw [this] at hpp
                  exact absurd hpp Rat.lt_irrefl
              repeat (with_reducible first | refine c_seq ?_ | refine c_block ?_ | refine c_skip ?_ | refine x_then ?_ | refine x_block ?_)
              refine c_reg ?_
              refine l_read rfl (s_ldo (k := 0)  hk9_15 vi_36 hS rfl rfl rfl (.inl rfl) ?_)
              refine l_heavy rfl (s_call Tryz.call12 rfl (Sign_ok (ofQ (P i k)) _ (by rw [Lr_ofQ]; omega)) ?_)
              rintro r wa ⟨rfl, hBa⟩
              rw [toQ_ofQ]
              replace hS := hS.grow hBa
              refine l_pure rfl (s_lss  rfl rfl ?_)
              refine l_pure rfl (s_move  rfl ?_)
              refine l_read (gd_yes 91 (by kernel_rfl) rfl (decide_eq_false hng)) (s_ldo (k := 0)  hk9_15 vi_36 hS rfl rfl rfl (.inl rfl) ?_)
              refine l_heavy (gd_yes 91 (by kernel_rfl) rfl (decide_eq_false hng)) (s_call Tryz.call12 rfl (Sign_ok (ofQ (P i k)) _ (by rw [Lr_ofQ]; omega)) ?_)
              rintro r wb ⟨rfl, hBb⟩
              rw [toQ_ofQ]
              replace hS := hS.grow hBb
              refine l_pure (gd_yes 91 (by kernel_rfl) rfl (decide_eq_false hng)) (s_gtr  rfl rfl ?_)
              refine l_pure (gd_yes 91 (by kernel_rfl) rfl (decide_eq_false hng)) (s_move  rfl ?_)
              refine l_pure (gd_yes 95 (by kernel_rfl) rfl (decide_eq_true (sgnQ_pos.2 hpp))) (s_move  hk9_6 ?_)
              refine l_pure (gd_yes 95 (by kernel_rfl) rfl (decide_eq_true (sgnQ_pos.2 hpp))) (s_move  hk9_12 ?_)
              refine l_pure (gd_yes 95 (by kernel_rfl) rfl (decide_eq_true (sgnQ_pos.2 hpp))) (s_ixr (i := i) rfl rfl (hI.sl.below hS.below) (by omega) (by omega) si_26 ?_)
              refine l_read (gd_yes 95 (by kernel_rfl) rfl (decide_eq_true (sgnQ_pos.2 hpp))) (s_lde (v := aggIt x (.slice ca x.charges.length ccap)) (i := i) (zIt, undef)  rfl vi_41 (hI.sl.below hS.below) (by omega) rfl (by rw [hzg]; rfl) (.inl rfl) ?_)
              refine l_pure (gd_yes 95 (by kernel_rfl) rfl (decide_eq_true (sgnQ_pos.2 hpp))) (s_move  hk9_14 ?_)
              refine l_heavy (gd_yes 95 (by kernel_rfl) rfl (decide_eq_true (sgnQ_pos.2 hpp))) (s_call Tryz.call13 rfl (Secures_ok x _ k _ (hch.below hS.below)) ?_)
              rintro r wc ⟨rfl, hBc⟩
              rw [hsc]
              replace hS := hS.grow hBc
              refine l_pure (gd_yes 95 (by kernel_rfl) rfl (decide_eq_true (sgnQ_pos.2 hpp))) (s_not  rfl ?_)
              refine l_pure (gd_yes 91 (by kernel_rfl) rfl (decide_eq_false hng)) (s_pick (vb rfl (decide_eq_true (sgnQ_pos.2 hpp))) rfl ?_)
              refine l_pure rfl (s_pick (vb rfl (decide_eq_false hng)) rfl ?_)
              refine l_nil ?_
              repeat (with_reducible first | refine c_seq ?_ | refine c_block ?_ | refine c_skip ?_ | refine x_then ?_ | refine x_block ?_)
              exact ⟨_, rfl, by assumption, by assumption, by assumption, by assumption, by assumption, by assumption, by assumption, by assumption, by assumption, by assumption, by assumption, by assumption, by assumption, rfl, hS⟩
            · have hnp : ¬ 0 < sgnQ (P i k) := fun g => hpp (sgnQ_pos.1 g)
              repeat (with_reducible first | refine c_seq ?_ | refine c_block ?_ | refine c_skip ?_ | refine x_then ?_ | refine x_block ?_)
              refine c_reg ?_
              refine l_read rfl (s_ldo (k := 0)  hk9_15 vi_36 hS rfl rfl rfl (.inl rfl) ?_)
              refine l_heavy rfl (s_call Tryz.call12 rfl (Sign_ok (ofQ (P i k)) _ (by rw [Lr_ofQ]; omega)) ?_)
              rintro r wa ⟨rfl, hBa⟩
              rw [toQ_ofQ]
              replace hS := hS.grow hBa
              refine l_pure rfl (s_lss  rfl rfl ?_)
              refine l_pure rfl (s_move  rfl ?_)
              refine l_read (gd_yes 91 (by kernel_rfl) rfl (decide_eq_false hng)) (s_ldo (k := 0)  hk9_15 vi_36 hS rfl rfl rfl (.inl rfl) ?_)
              refine l_heavy (gd_yes 91 (by kernel_rfl) rfl (decide_eq_false hng)) (s_call Tryz.call12 rfl (Sign_ok (ofQ (P i k)) _ (by rw [Lr_ofQ]; omega)) ?_)
              rintro r wb ⟨rfl, hBb⟩
              rw [toQ_ofQ]
              replace hS := hS.grow hBb
              refine l_pure (gd_yes 91 (by kernel_rfl) rfl (decide_eq_false hng)) (s_gtr  rfl rfl ?_)
              refine l_pure (gd_yes 91 (by kernel_rfl) rfl (decide_eq_false hng)) (s_move  rfl ?_)
              refine l_no (gno_yes 95 (by kernel_rfl) rfl (decide_eq_false hnp)) ?_
              refine l_no (gno_yes 95 (by kernel_rfl) rfl (decide_eq_false hnp)) ?_
              refine l_no (gno_yes 95 (by kernel_rfl) rfl (decide_eq_false hnp)) ?_
              refine l_no (gno_yes 95 (by kernel_rfl) rfl (decide_eq_false hnp)) ?_
              refine l_no (gno_yes 95 (by kernel_rfl) rfl (decide_eq_false hnp)) ?_
              refine l_no (gno_yes 95 (by kernel_rfl) rfl (decide_eq_false hnp)) ?_
              refine l_no (gno_yes 95 (by kernel_rfl) rfl (decide_eq_false hnp)) ?_
              refine l_pure (gd_yes 91 (by kernel_rfl) rfl (decide_eq_false hng)) (s_pick (vb rfl (decide_eq_false hnp)) rfl ?_)
              refine l_pure rfl (s_pick (vb rfl (decide_eq_false hng)) rfl ?_)
              refine l_nil ?_
              repeat (with_reducible first | refine c_seq ?_ | refine c_block ?_ | refine c_skip ?_ | refine x_then ?_ | refine x_block ?_)
              exact ⟨_, rfl, by assumption, by assumption, by assumption, by assumption, by assumption, by assumption, by assumption, by assumption, by assumption, by assumption, by assumption, by assumption, by assumption, rfl, hS⟩
          clear hS h5 h6 h9 h11 h58 h59 h60 h12 h81 h82 h83
          rintro ρ w11 ⟨h5, h6, h9, h11, h58, h59, h60, h12, h81, h82, h83, h14, h15, h104, hS⟩
          repeat (with_reducible first | refine c_seq ?_ | refine c_block ?_ | refine c_skip ?_ | refine x_then ?_ | refine x_block ?_)
          refine c_no h104 rfl ?_
          repeat (with_reducible first | refine c_seq ?_ | refine c_block ?_ | refine c_skip ?_ | refine x_then ?_ | refine x_block ?_)
          have hLg := L_sumTT (f := fun a => P a k) (B := 268) (k := i) fun j hj => hLP j (by omega) k hkl
          have hib : i * (268 + 1) ≤ 4 * (268 + 1) := Nat.mul_le_mul_right _ (by omega)
          have hgk : gotT P i k k = sumIf i tt fun a => P a k := by unfold gotT; rw [if_neg (Nat.lt_irrefl _)]
          repeat (with_reducible first | refine c_seq ?_ | refine c_block ?_ | refine c_skip ?_ | refine x_then ?_ | refine x_block ?_)
          refine c_draw [(0, .pure), (1, .pure), (2, .pure), (3, .pure), (4, .pure), (5, .read), (6, .read), (7, .grow), (8, .pure), (9, .free)] (by kernel_rfl) (by kernel_rfl) hS ?_
          intro wz10 hS hBz10
          refine w_pure rfl rfl (s_move  h11 ?_)
          refine w_pure rfl rfl (s_move  h14 ?_)
          refine w_pure rfl rfl (s_move  h11 ?_)
          refine w_pure rfl rfl (s_move  h14 ?_)
          refine w_pure rfl rfl (s_ixo (i := k)  rfl rfl (by omega) (by first | omega | (simp; done) | (simp; omega)) si_24 ?_)
          refine w_read rfl rfl (s_ldE (k := 1) (i := k) (enc := encR) zRR (fun _ => rfl)  rfl vi_36 hS rfl (by first | omega | simp) (by first | omega | (simp; done) | (simp; omega)) rfl (.inl rfl) ?_)
          refine w_read rfl rfl (s_ldo (k := 0)  h15 vi_36 hS rfl rfl rfl (.inl rfl) ?_)
          refine w_grow rfl rfl (s_call Tryz.call14 rfl (QAdd_ok ((tab O.length fun c => ofQ (gotT P i k c)).getD k zRR) (ofQ (P i k)) _ (by rw [hgg, Lr_ofQ, Lr_ofQ, hgk]; omega)) ?_)
          rintro r wd ⟨rfl, hBd⟩
          refine ⟨hBd, ?_⟩
          rw [hgg, toQ_ofQ, toQ_ofQ]
          replace hS := hS.grow hBd
          refine w_pure rfl rfl (s_ixo (i := k)  rfl rfl (by omega) (by first | omega | (simp; done) | (simp; omega)) si_24 ?_)
          refine w_free rfl rfl (s_stE (k := 1) (i := k) (enc := encR) (ofQ (gotT P i k k + P i k)) (fun _ => rfl)  rfl rfl vi_36 hS rfl (by first | omega | simp) (by first | omega | (simp; done) | (simp; omega)) rfl rfl ?_)
          intro wz11 hS
          refine w_end ?_
          repeat (with_reducible first | refine c_seq ?_ | refine c_block ?_ | refine c_skip ?_ | refine x_then ?_ | refine x_block ?_)
          have hset : (tab O.length fun c => ofQ (gotT P i k c)).set k (ofQ (gotT P i k k + P i k)) = tab O.length fun c => ofQ (gotT P i (k + 1) c) := by
            rw [tab_set]
            refine tab_congr fun c _ => ?_
            by_cases e : c = k
            · rw [if_pos e, e, hgk]
              unfold gotT
              rw [if_pos (Nat.lt_succ_self _), sumIf, if_pos (show tt i = true from rfl)]
            · rw [if_neg e]
              unfold gotT
              by_cases e2 : c < k
              · rw [if_pos e2, if_pos (by omega)]
              · rw [if_neg e2, if_neg (by omega)]
          replace hS : St w5 _ [(b15, 36, encR (ofQ (P i k))), (b11, 36, ((tab O.length fun c => ofQ (gotT P i k c)).set k (ofQ (gotT P i k k + P i k))).flatMap encR)] := hS
          rw [hset] at hS
          repeat (with_reducible first | refine c_seq ?_ | refine c_block ?_ | refine c_skip ?_ | refine x_then ?_ | refine x_block ?_)
          refine c_reg ?_
          refine l_pure rfl (s_add  h83 rfl (IntWalk.i64_in _ (by omega)) ?_)
          refine l_pure rfl (s_move  rfl ?_)
          refine l_nil ?_
          repeat (with_reducible first | refine c_seq ?_ | refine c_block ?_ | refine c_skip ?_ | refine x_then ?_ | refine x_block ?_)
          exact ⟨k + 1, _, rfl, ⟨hkl, by assumption, by assumption, by assumption, by assumption, by assumption, by assumption, by assumption, by assumption, by assumption, by assumption, vi rfl (by omega), hS.drop (List.sublist_cons_self _ _)⟩, by omega⟩
        · refine c_no rfl (decide_eq_false (by omega)) ?_
          repeat (with_reducible first | refine c_seq ?_ | refine c_block ?_ | refine c_skip ?_ | refine x_then ?_ | refine x_block ?_)
          refine c_exit ?_
          repeat (with_reducible first | refine x_then_exit ?_ | refine x_block_exit ?_ | refine x_block_pass rfl ?_)
          repeat (with_reducible first | refine c_seq ?_ | refine c_block ?_ | refine c_skip ?_ | refine x_then ?_ | refine x_block ?_)
          obtain rfl : k = O.length := by omega
          exact ⟨_, rfl, h5, h6, h9, h11, h58, h59, h60, hS⟩
      clear hS h5 h6 h9 h11 h58 h59 h60
      rintro ρ w10 ⟨h5, h6, h9, h11, h58, h59, h60, hS⟩
      repeat (with_reducible first | refine c_seq ?_ | refine c_block ?_ | refine c_skip ?_ | refine x_then ?_ | refine x_block ?_)
      refine c_reg ?_
      refine l_pure rfl (s_add  h60 rfl (IntWalk.i64_in _ (by omega)) ?_)
      refine l_pure rfl (s_move  rfl ?_)
      refine l_nil ?_
      repeat (with_reducible first | refine c_seq ?_ | refine c_block ?_ | refine c_skip ?_ | refine x_then ?_ | refine x_block ?_)
      rw [show (tab O.length fun c => ofQ (gotT P i O.length c)) = tab O.length fun c => ofQ (gotT P (i + 1) 0 c) from tab_congr fun c hc => by unfold gotT; rw [if_pos hc, if_neg (Nat.not_lt_zero _)]] at hS
      exact ⟨i + 1, _, rfl, ⟨hlt, by assumption, by assumption, by assumption, by assumption, by assumption, by assumption, vi rfl (by omega), hS⟩, by omega⟩
    · refine c_no rfl (decide_eq_false (by omega)) ?_
      repeat (with_reducible first | refine c_seq ?_ | refine c_block ?_ | refine c_skip ?_ | refine x_then ?_ | refine x_block ?_)
      refine c_exit ?_
      repeat (with_reducible first | refine x_then_exit ?_ | refine x_block_exit ?_ | refine x_block_pass rfl ?_)
      repeat (with_reducible first | refine c_seq ?_ | refine c_block ?_ | refine c_skip ?_ | refine x_then ?_ | refine x_block ?_)
      obtain rfl : i = X.length := by omega
      exact ⟨_, rfl, h5, h9, h11, hS⟩
  clear hS
  rintro ρ w6 ⟨h5, h9, h11, hS⟩
  rw [show (tab O.length fun c => ofQ (gotT P X.length 0 c)) = tab O.length fun c => ofQ (totF X O c) from tab_congr fun c hc => by unfold gotT; rw [if_neg (Nat.not_lt_zero _), hfl.col c hc]] at hS
  repeat (with_reducible first | refine c_seq ?_ | refine c_block ?_ | refine c_skip ?_ | refine x_then ?_ | refine x_block ?_)
  refine c_reg ?_
  refine l_pure rfl (s_move  h5 ?_)
  refine l_pure rfl (s_lenr  rfl (ho.below hS.below) ⟨_, Tryz.underlying24⟩ ?_)
  refine l_pure rfl (s_move  rfl ?_)
  refine l_nil ?_
  repeat (with_reducible first | refine c_seq ?_ | refine c_skip ?_ | refine x_then ?_ | refine x_block ?_)
  refine c_cut1 (fun ρ w' => St w5 w' [(b11, 36, (tab O.length fun c => ofQ (totF X O c)).flatMap encR)]) ?_ ?_
  · repeat (with_reducible first | refine c_seq ?_ | refine c_block ?_ | refine c_skip ?_ | refine x_then ?_ | refine x_block ?_)
    refine c_loop (σ := Nat) (fun c ρ w' => c ≤ O.length ∧ ρ 5 = vo ∧ ρ 9 = vt ∧ ρ 11 = .slice (some ⟨b11, 0, none⟩) O.length O.length ∧ ρ 117 = .int .i64 O.length ∧ ρ 118 = .int .i64 c ∧ St w5 w' [(b11, 36, (tab O.length fun c => ofQ (totF X O c)).flatMap encR)]) (fun c => O.length - c) 0
      ⟨Nat.zero_le _, by assumption, by assumption, by assumption, rfl, rfl, hS⟩ ?_
    clear hS h5 h9 h11
    rintro c ρ w7 ⟨hc, h5, h9, h11, h117, h118, hS⟩
    repeat (with_reducible first | refine c_seq ?_ | refine c_block ?_ | refine c_skip ?_ | refine x_then ?_ | refine x_block ?_)
    refine c_reg ?_
    refine l_pure rfl (s_lss  h118 h117 ?_)
    refine l_nil ?_
    repeat (with_reducible first | refine c_seq ?_ | refine c_block ?_ | refine c_skip ?_ | refine x_then ?_ | refine x_block ?_)
    by_cases hlt : c < O.length
    · refine c_yes rfl (decide_eq_true (by omega)) ?_
      repeat (with_reducible first | refine c_seq ?_ | refine c_block ?_ | refine c_skip ?_ | refine x_then ?_ | refine x_block ?_)
      have hgt : (tab O.length fun c => ofQ (totF X O c)).getD c zRR = ofQ (totF X O c) := tab_get _ _ hlt
      have hle : cmpQ (totF X O c) (owF O c) ≤ 0 := cmpQ_le.2 (totF_owF hpos hlt)
      have hLo := hoB _ (getD_mem O c zRR hlt)
      have hLt := hLa c
      repeat (with_reducible first | refine c_seq ?_ | refine c_block ?_ | refine c_skip ?_ | refine x_then ?_ | refine x_block ?_)
      refine c_reg ?_
      refine l_pure rfl (s_move  h118 ?_)
      refine l_pure rfl (s_asg  rfl ?_)
      refine l_nil ?_
      repeat (with_reducible first | refine c_seq ?_ | refine c_block ?_ | refine c_skip ?_ | refine x_then ?_ | refine x_block ?_)
      refine c_draw [(0, .pure), (1, .pure), (2, .pure), (3, .read), (4, .pure), (5, .pure), (6, .pure), (7, .read), (8, .pure), (9, .pure), (10, .pure), (11, .pure), (12, .pure), (13, .read), (14, .pure), (15, .pure), (16, .pure), (17, .read), (18, .grow), (19, .pure), (20, .pure)] (by kernel_rfl) (by kernel_rfl) hS ?_
      intro wz12 hS hBz12
      refine w_pure rfl rfl (s_move  h11 ?_)
      refine w_pure rfl rfl (s_move  rfl ?_)
      refine w_pure rfl rfl (s_ixo (i := c)  rfl rfl (by omega) (by first | omega | (simp; done) | (simp; omega)) si_24 ?_)
      refine w_read rfl rfl (s_ldE (k := 0) (i := c) (enc := encR) zRR (fun _ => rfl)  rfl vi_36 hS rfl (by first | omega | simp) (by first | omega | (simp; done) | (simp; omega)) rfl (.inl rfl) ?_)
      refine w_pure rfl rfl (s_move  h9 ?_)
      refine w_pure rfl rfl (s_move  rfl ?_)
      refine w_pure rfl rfl (s_ixr (i := c)  rfl rfl (ht.below hS.below) (by omega) (by first | omega | (simp; done) | (simp; omega)) si_24 ?_)
      refine w_read rfl rfl (s_lde (i := c) zRR  rfl vi_36 (ht.below hS.below) (by first | omega | (simp; done) | (simp; omega)) rfl rfl (.inl rfl) ?_)
      refine w_pure rfl rfl (s_neR  rfl rfl ?_)
      refine w_pure rfl rfl (s_move  rfl ?_)
      refine w_pure rfl (gd_yes 130 (by kernel_rfl) rfl (decide_eq_false (fun h => h rfl))) (s_move  h11 ?_)
      refine w_pure rfl (gd_yes 130 (by kernel_rfl) rfl (decide_eq_false (fun h => h rfl))) (s_move  rfl ?_)
      refine w_pure rfl (gd_yes 130 (by kernel_rfl) rfl (decide_eq_false (fun h => h rfl))) (s_ixo (i := c)  rfl rfl (by omega) (by first | omega | (simp; done) | (simp; omega)) si_24 ?_)
      refine w_read rfl (gd_yes 130 (by kernel_rfl) rfl (decide_eq_false (fun h => h rfl))) (s_ldE (k := 0) (i := c) (enc := encR) zRR (fun _ => rfl)  rfl vi_36 hS rfl (by first | omega | simp) (by first | omega | (simp; done) | (simp; omega)) rfl (.inl rfl) ?_)
      refine w_pure rfl (gd_yes 130 (by kernel_rfl) rfl (decide_eq_false (fun h => h rfl))) (s_move  h5 ?_)
      refine w_pure rfl (gd_yes 130 (by kernel_rfl) rfl (decide_eq_false (fun h => h rfl))) (s_move  rfl ?_)
      refine w_pure rfl (gd_yes 130 (by kernel_rfl) rfl (decide_eq_false (fun h => h rfl))) (s_ixr (i := c)  rfl rfl (ho.below hS.below) (by omega) (by first | omega | (simp; done) | (simp; omega)) si_24 ?_)
      refine w_read rfl (gd_yes 130 (by kernel_rfl) rfl (decide_eq_false (fun h => h rfl))) (s_lde (i := c) zRR  rfl vi_36 (ho.below hS.below) (by first | omega | (simp; done) | (simp; omega)) rfl rfl (.inl rfl) ?_)
      refine w_grow rfl (gd_yes 130 (by kernel_rfl) rfl (decide_eq_false (fun h => h rfl))) (s_call Tryz.call9 rfl (QCompare_ok ((tab O.length fun c => ofQ (totF X O c)).getD c zRR) (O.getD c zRR) _ (by rw [hgt, Lr_ofQ]; omega)) ?_)
      rintro r w8 ⟨rfl, hB8⟩
      refine ⟨hB8, ?_⟩
      rw [hgt, toQ_ofQ]
      replace hS := hS.grow hB8
      refine w_pure rfl (gd_yes 130 (by kernel_rfl) rfl (decide_eq_false (fun h => h rfl))) (s_gtr  rfl rfl ?_)
      refine w_pure rfl rfl (s_pick (vb rfl (decide_eq_false (fun h => h rfl))) rfl ?_)
      refine w_end ?_
      repeat (with_reducible first | refine c_seq ?_ | refine c_block ?_ | refine c_skip ?_ | refine x_then ?_ | refine x_block ?_)
      refine c_no rfl (decide_eq_false (Int.not_lt.2 hle)) ?_
      repeat (with_reducible first | refine c_seq ?_ | refine c_block ?_ | refine c_skip ?_ | refine x_then ?_ | refine x_block ?_)
      refine c_reg ?_
      refine l_pure rfl (s_add  h118 rfl (IntWalk.i64_in _ (by omega)) ?_)
      refine l_pure rfl (s_move  rfl ?_)
      refine l_nil ?_
      repeat (with_reducible first | refine c_seq ?_ | refine c_block ?_ | refine c_skip ?_ | refine x_then ?_ | refine x_block ?_)
      exact ⟨c + 1, _, rfl, ⟨hlt, by assumption, by assumption, by assumption, by assumption, vi rfl (by omega), hS⟩, by omega⟩
    · refine c_no rfl (decide_eq_false (by omega)) ?_
      repeat (with_reducible first | refine c_seq ?_ | refine c_block ?_ | refine c_skip ?_ | refine x_then ?_ | refine x_block ?_)
      refine c_exit ?_
      repeat (with_reducible first | refine x_then_exit ?_ | refine x_block_exit ?_ | refine x_block_pass rfl ?_)
      repeat (with_reducible first | refine c_seq ?_ | refine c_block ?_ | refine c_skip ?_ | refine x_then ?_ | refine x_block ?_)
      exact ⟨_, rfl, hS⟩
  clear hS
  rintro ρ w7 hS
  repeat (with_reducible first | refine c_seq ?_ | refine c_block ?_ | refine c_skip ?_ | refine x_then ?_ | refine x_block ?_)
  refine c_reg ?_
  refine l_heavy rfl (s_call Tryz.call15 rfl (awake_ok _ (hT.below hS.below)) ?_)
  rintro _ wc13 ⟨rfl, hBc13⟩
  replace hS := hS.grow hBc13
  refine l_pure rfl (s_asg  rfl ?_)
  refine l_nil ?_
  repeat (with_reducible first | refine c_seq ?_ | refine c_block ?_ | refine c_skip ?_ | refine x_then ?_ | refine x_block ?_)
  refine c_ret ?_
  repeat (with_reducible first | refine x_then_ret ?_ | refine x_block_ret ?_)
  refine r_one rfl rfl ?_
  exact ⟨rfl, bt hW hS.below⟩
end Go.Proofs.YtmghobajmhdbfaaGreatDoor
