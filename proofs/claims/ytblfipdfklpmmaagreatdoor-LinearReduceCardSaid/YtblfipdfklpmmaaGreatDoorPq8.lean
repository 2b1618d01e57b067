/-
  Part 8 of the texts that the law's proof is made of: the framework and the walks.
-/
import Derived.Test.YtblfipdfklpmmaaGreatDoorPq7
namespace Go.Proofs.YtblfipdfklpmmaaGreatDoor
open Go Go.RowKit Go.Sx
theorem mC_row {α : Type} {R : List (Rw α)} {so : List Value} {i : Nat} (hi : i < R.length) : (R.map Rw.v ++ so)[i]? = some (R.getD i zRw).v := by
  rw [List.getElem?_append_left (by rw [List.length_map]; exact hi)]; exact mB_row hi
theorem mC_swp {α : Type} {enc : α → List Value} {tR tS : TypeId} {bo : Nat} {R R0 : List (Rw α)} {so : List Value} {H pre : List Blk} {w0 w : World} {p r : Nat} (hv : R.map Rw.v = R0.map Rw.v) (hp : p < R.length) (hr : r < R.length)
    (h : St w0 w (pre ++ mD enc tR tS bo (((R0.map Rw.v ++ so).set p (R0.getD r zRw).v).set r (R0.getD p zRw).v) R H)) : St w0 w (pre ++ mD enc tR tS bo ((swpL R p r).map Rw.v ++ so) (swpL R p r) H) := by
  have hl : R0.length = R.length := by have := congrArg List.length hv; rw [List.length_map, List.length_map] at this; exact this.symm
  have hvi : ∀ i, i < R.length → (R0.getD i zRw).v = (R.getD i zRw).v := fun i hi => by
    have h1 := mB_row (R := R) hi
    rw [hv, mB_row (by rw [hl]; exact hi)] at h1
    exact Option.some.inj h1
  have e : ((R0.map Rw.v ++ so).set p (R0.getD r zRw).v).set r (R0.getD p zRw).v = (swpL R p r).map Rw.v ++ so := by
    rw [hvi r hr, hvi p hp, ← hv, List.set_append_left _ _ (by rw [List.length_map]; exact hp), List.set_append_left _ _ (by rw [List.length_set, List.length_map]; exact hr)]
    unfold swpL
    rw [List.map_set, List.map_set]
  rw [e] at h
  refine h.perm (List.Perm.append_left _ (List.Perm.cons _ (List.Perm.append_right _ (List.Perm.map _ ?_))))
  unfold swpL
  rw [getD_ge R zRw hp, getD_ge R zRw hr]
  exact (List.set_set_perm hp hr).symm
theorem perm_row {α : Type} (A B : List α) (z : α) : (A ++ B ++ [z]).Perm (z :: A ++ B) := List.perm_append_singleton _ _
def zC (X : Mx) (r c : Nat) (a : Rat) (i k : Nat) : Mx := fun x b => if x = i ∧ b < k then X i b - X i c * (X r b / a) else elF X r c a i x b
set_option maxHeartbeats 16000000 in
theorem rechelon_ok (v : Value) (n m : Nat) (M : Mx) (vs : List Value) (K : Nat) (w : World) (hA : Mts encR 3 w v (tabM n m (qM M)) vs) (hn1 : 1 ≤ n) (hn : n ≤ 1000) (hm1 : 1 ≤ m) (hm : m ≤ 1000) (hL : ∀ i, i < n → ∀ j, j < m → L (M i j) ≤ K) (hK : 8 * BB K n ≤ MX) :
    Ret Tryz.prog 47 #[v] w fun u w' => (∃ vm vs' vp, u = .tuple #[vm, vp] ∧ Mts encR 3 w' vm (tabM n m (qM (rdc n M m).M)) vs' ∧ Sl enI 1 w' vp (nI (rdc n M m).P)) ∧ Below w.heap.size w w' := by
  have hM : MX = 1099511627776 := rfl
  have hlen := hA.len
  rw [tabM_len] at hlen
  have hS := St.init w
  refine enter Tryz.func47 rfl Tryz.ntmps47 rfl ?_
  repeat (with_reducible first | refine c_seq ?_ | refine c_block ?_ | refine c_skip ?_ | refine x_then ?_ | refine x_block ?_)
  refine c_reg ?_
  refine l_pure rfl (s_asg  rfl ?_)
  refine l_pure rfl (s_asg  rfl ?_)
  refine l_nil ?_
  repeat (with_reducible first | refine c_seq ?_ | refine c_block ?_ | refine c_skip ?_ | refine x_then ?_ | refine x_block ?_)
  refine c_reg ?_
  refine l_pure rfl (s_asg  rfl ?_)
  refine l_nil ?_
  repeat (with_reducible first | refine c_seq ?_ | refine c_block ?_ | refine c_skip ?_ | refine x_then ?_ | refine x_block ?_)
  refine c_reg ?_
  refine l_pure rfl (s_asg  rfl ?_)
  refine l_nil ?_
  repeat (with_reducible first | refine c_seq ?_ | refine c_block ?_ | refine c_skip ?_ | refine x_then ?_ | refine x_block ?_)
  refine c_reg ?_
  refine l_pure rfl (s_asg  rfl ?_)
  refine l_nil ?_
  repeat (with_reducible first | refine c_seq ?_ | refine c_skip ?_ | refine x_then ?_ | refine x_block ?_)
  refine c_cut1 (fun ρ w' => ρ 5 = .slice none 0 0 ∧ ∃ bo cap so R, ρ 4 = .slice (some ⟨bo, 0, none⟩) n cap ∧ n ≤ cap ∧ cap ≤ 9223372036854775807 ∧ MatG R n m (qM M) ∧ St w w' (mD encR 49 23 bo (R.map Rw.v ++ so) R [])) ?_ ?_
  · repeat (with_reducible first | refine c_seq ?_ | refine c_block ?_ | refine c_skip ?_ | refine x_then ?_ | refine x_block ?_)
    refine c_loop (σ := Nat) (fun i ρ w' => i ≤ n ∧ ρ 0 = v ∧ ρ 5 = .slice none 0 0 ∧ ρ 6 = .int .i64 i ∧ ∃ vo LO R, ρ 4 = vo ∧ MatG R i m (qM M) ∧ Gl enV 23 1 vo (R.map Rw.v) LO ∧ St w w' (R.map (Rw.blk encR 49) ++ LO)) (fun i => n - i) 0
      ⟨Nat.zero_le _, rfl, rfl, rfl, _, [], [], rfl, ⟨rfl, fun i hi => absurd hi (Nat.not_lt_zero _), fun i hi => absurd hi (Nat.not_lt_zero _)⟩, Gl.nil _ _ _, hS⟩ ?_
    clear hS
    rintro i ρ w2 ⟨hi, h0, h5, h6, vo, LO, R, h4, hR, hG, hS⟩
    have hvl : (R.map Rw.v).length = i := by rw [List.length_map, hR.len]
    repeat (with_reducible first | refine c_seq ?_ | refine c_block ?_ | refine c_skip ?_ | refine x_then ?_ | refine x_block ?_)
    refine c_reg ?_
    refine l_pure rfl (s_move  h6 ?_)
    refine l_pure rfl (s_move  h0 ?_)
    refine l_pure rfl (s_lenr  rfl (hA.sl.below hS.below) ⟨_, Tryz.underlying22⟩ ?_)
    refine l_pure rfl (s_lss  rfl rfl ?_)
    refine l_nil ?_
    repeat (with_reducible first | refine c_seq ?_ | refine c_block ?_ | refine c_skip ?_ | refine x_then ?_ | refine x_block ?_)
    by_cases hlt : i < n
    · refine c_yes rfl (decide_eq_true (by omega)) ?_
      repeat (with_reducible first | refine c_seq ?_ | refine c_block ?_ | refine c_skip ?_ | refine x_then ?_ | refine x_block ?_)
      have hri := hA.row i (by rw [tabM_len]; exact hlt)
      rw [tabM_row _ hlt] at hri
      have hrl := tab_len m (qM M i)
      repeat (with_reducible first | refine c_seq ?_ | refine c_block ?_ | refine c_skip ?_ | refine x_then ?_ | refine x_block ?_)
      refine c_reg ?_
      refine l_pure rfl (s_move  h4 ?_)
      refine l_pure rfl (s_move  h0 ?_)
      refine l_pure rfl (s_move  h6 ?_)
      refine l_pure rfl (s_ixr (i := i)  rfl rfl (hA.sl.below hS.below) (by omega) (by first | omega | (simp; done) | (simp; omega)) si_22 ?_)
      refine l_read rfl (s_lde (i := i) undef  rfl vi_23 (hA.sl.below hS.below) (by first | omega | (simp; done) | (simp; omega)) rfl rfl (.inr rfl) ?_)
      refine l_heavy rfl (s_appn  rfl rfl si_23 (by decide) hS (hri.below hS.below) encR_len (encR_one _) (by first | omega | (simp only [List.length_cons, List.length_nil]; omega)) (by first | omega | (simp only [List.length_cons, List.length_nil]; omega)) ?_)
      intro va1 La1 wa1 hGa hS hBa1
      obtain ⟨nr, hX, rfl, rfl, hc1, hc2, _⟩ := Gl_blk hGa (by intro e; have := congrArg List.length e; rw [tab_len] at this; simp at this; omega) ; replace hS := hS.perm (perm_row (R.map (Rw.blk encR 49)) LO (nr.blk encR 49))
      refine l_heavy rfl (s_bsl (vs := [nr.v])  rfl si_22 rfl (by decide) (by decide) (by decide) (by simp [Value.cells, Rw.v]) rfl hS ?_)
      intro b28 wz2 hS hBz2
      refine l_heavy rfl (s_appl [nr.v]  rfl rfl si_22 (by decide) hG hS rfl rfl (fun _ => rfl) (fun u hu => by rw [List.mem_singleton.1 (show u ∈ [nr.v] from hu)]; rfl) (by first | omega | (simp only [List.length_cons, List.length_nil]; omega)) (by first | omega | (simp only [List.length_cons, List.length_nil]; omega)) ?_)
      intro va3 La3 wa3 hG hS hga3
      refine l_pure rfl (s_asg  rfl ?_)
      refine l_nil ?_
      repeat (with_reducible first | refine c_seq ?_ | refine c_block ?_ | refine c_skip ?_ | refine x_then ?_ | refine x_block ?_)
      have hR2 := MatG_snoc hR hX ⟨by rw [hX, tab_len] at hc1; exact hc1, hc2⟩
      rw [show R.map Rw.v ++ [nr.v] = (R ++ [nr]).map Rw.v by rw [List.map_append]; rfl] at hG
      have eb : ∀ T : List Blk, (nr.blk encR 49 :: R.map (Rw.blk encR 49) ++ T).Perm ((R ++ [nr]).map (Rw.blk encR 49) ++ T) := by
        intro T
        rw [List.map_append]
        exact List.Perm.append_right _ (List.perm_append_singleton _ _).symm
      replace hS := hS.perm (eb _)
      repeat (with_reducible first | refine c_seq ?_ | refine c_block ?_ | refine c_skip ?_ | refine x_then ?_ | refine x_block ?_)
      refine c_reg ?_
      refine l_pure rfl (s_move  h6 ?_)
      refine l_pure rfl (s_add  rfl rfl (IntWalk.i64_in _ (by omega)) ?_)
      refine l_pure rfl (s_asg  rfl ?_)
      refine l_nil ?_
      repeat (with_reducible first | refine c_seq ?_ | refine c_block ?_ | refine c_skip ?_ | refine x_then ?_ | refine x_block ?_)
      exact ⟨i + 1, _, rfl, ⟨hlt, by assumption, by assumption, vi rfl (by omega), _, _, R ++ [nr], rfl, hR2, hG, hS⟩, by omega⟩
    · refine c_no rfl (decide_eq_false (by omega)) ?_
      repeat (with_reducible first | refine c_seq ?_ | refine c_block ?_ | refine c_skip ?_ | refine x_then ?_ | refine x_block ?_)
      refine c_exit ?_
      repeat (with_reducible first | refine x_then_exit ?_ | refine x_block_exit ?_ | refine x_block_pass rfl ?_)
      repeat (with_reducible first | refine c_seq ?_ | refine c_block ?_ | refine c_skip ?_ | refine x_then ?_ | refine x_block ?_)
      obtain rfl : n = i := by omega
      obtain ⟨_, ⟨_, h2, _⟩ | ⟨bo, cap, so, rfl, rfl, h5', h6', _⟩⟩ := hG
      · omega
      · rw [enV_flat] at hS
        rw [hvl] at h4 h5'
        refine ⟨_, rfl, h5, bo, cap, so, R, h4, h5', by unfold Go.maxLen at h6'; omega, hR, hS.perm ?_⟩
        unfold mD
        rw [List.append_nil]
        exact List.perm_append_singleton _ _
  clear hS
  rintro ρ w2 ⟨h5, bo, cap, so, R0, h4, hcap1, hcap2, hR0, hS⟩
  repeat (with_reducible first | refine c_seq ?_ | refine c_block ?_ | refine c_skip ?_ | refine x_then ?_ | refine x_block ?_)
  refine c_reg ?_
  refine l_pure rfl (s_asg  rfl ?_)
  refine l_nil ?_
  repeat (with_reducible first | refine c_seq ?_ | refine c_block ?_ | refine c_skip ?_ | refine x_then ?_ | refine x_block ?_)
  refine c_reg ?_
  refine l_pure rfl (s_asg  rfl ?_)
  refine l_nil ?_
  repeat (with_reducible first | refine c_seq ?_ | refine c_skip ?_ | refine x_then ?_ | refine x_block ?_)
  refine c_cut1 (fun ρ w' => ρ 4 = .slice (some ⟨bo, 0, none⟩) n cap ∧ ∃ vp LP R, ρ 5 = vp ∧ Gl enI 3 1 vp (nI (rdc n M m).P) LP ∧ MatG R n m (qM (rdc n M m).M) ∧ St w w' (mD encR 49 23 bo (R.map Rw.v ++ so) R LP)) ?_ ?_
  · repeat (with_reducible first | refine c_seq ?_ | refine c_block ?_ | refine c_skip ?_ | refine x_then ?_ | refine x_block ?_)
    refine c_loop (σ := Nat) (fun c ρ w' => c ≤ m ∧ ρ 4 = .slice (some ⟨bo, 0, none⟩) n cap ∧ ρ 7 = .int .i64 (rdc n M c).P.length ∧ ρ 8 = .int .i64 c ∧ ∃ vp LP R, ρ 5 = vp ∧ Gl enI 3 1 vp (nI (rdc n M c).P) LP ∧ MatG R n m (qM (rdc n M c).M) ∧ St w w' (mD encR 49 23 bo (R.map Rw.v ++ so) R LP)) (fun c => m - c) 0
      ⟨Nat.zero_le _, by assumption, rfl, rfl, _, [], R0, by assumption, Gl.nil _ _ _, hR0, hS⟩ ?_
    clear hS hR0
    rintro c ρ w3 ⟨hc, h4, h7, h8, vp, LP, R, h5, hG, hR, hS⟩
    have hlen := (rinv n M c).len
    obtain ⟨hB1, hB2⟩ := rdc_L hL c (by omega)
    obtain ⟨r, hr⟩ : ∃ r, r = (rdc n M c).P.length := ⟨_, rfl⟩
    have hpl := nI_len (rdc n M c).P
    rw [← hr] at hlen hB1 hB2 h7
    have hl0 : 0 < R.length := by rw [hR.len]; omega
    repeat (with_reducible first | refine c_seq ?_ | refine c_block ?_ | refine c_skip ?_ | refine x_then ?_ | refine x_block ?_)
    by_cases hrn : r < n
    · by_cases hcm : c < m
      · have htl0 := tab_len m (qM (rdc n M c).M 0)
        repeat (with_reducible first | refine c_seq ?_ | refine c_block ?_ | refine c_skip ?_ | refine x_then ?_ | refine x_block ?_)
        refine c_reg ?_
        refine l_pure rfl (s_move  h7 ?_)
        refine l_pure rfl (s_move  h4 ?_)
        refine l_pure rfl (s_leno  rfl ⟨_, Tryz.underlying22⟩ ?_)
        refine l_pure rfl (s_lss  rfl rfl ?_)
        refine l_pure rfl (s_move  rfl ?_)
        refine l_pure (gd_yes 34 (by kernel_rfl) rfl (decide_eq_true (by omega))) (s_move  h8 ?_)
        refine l_pure (gd_yes 34 (by kernel_rfl) rfl (decide_eq_true (by omega))) (s_move  h4 ?_)
        refine l_pure (gd_yes 34 (by kernel_rfl) rfl (decide_eq_true (by omega))) (s_ixo (i := 0)  rfl rfl (by omega) (by first | omega | (simp; done) | (simp; omega)) si_22 ?_)
        refine l_read (gd_yes 34 (by kernel_rfl) rfl (decide_eq_true (by omega))) (s_mrowD []  rfl vi_23 hS (by omega) (mC_row hl0) ?_)
        refine l_pure (gd_yes 34 (by kernel_rfl) rfl (decide_eq_true (by omega))) (s_lenr  rfl (hR.slD [] hS encR_len (by omega : 0 < n)) ⟨_, Tryz.underlying23⟩ ?_)
        refine l_pure (gd_yes 34 (by kernel_rfl) rfl (decide_eq_true (by omega))) (s_lss  rfl rfl ?_)
        refine l_pure rfl (s_pick (vb rfl (decide_eq_true (by omega))) rfl ?_)
        refine l_nil ?_
        repeat (with_reducible first | refine c_seq ?_ | refine c_block ?_ | refine c_skip ?_ | refine x_then ?_ | refine x_block ?_)
        refine c_yes rfl (decide_eq_true (by omega)) ?_
        repeat (with_reducible first | refine c_seq ?_ | refine c_block ?_ | refine c_skip ?_ | refine x_then ?_ | refine x_block ?_)
        refine c_reg ?_
        refine l_pure rfl (s_move  h7 ?_)
        refine l_pure rfl (s_asg  rfl ?_)
        refine l_nil ?_
        repeat (with_reducible first | refine c_seq ?_ | refine c_skip ?_ | refine x_then ?_ | refine x_block ?_)
        refine c_cut1 (fun ρ w' => ρ 4 = .slice (some ⟨bo, 0, none⟩) n cap ∧ ρ 5 = vp ∧ ρ 7 = .int .i64 r ∧ ρ 8 = .int .i64 c ∧ ρ 9 = .int .i64 (pv (rdc n M c).M c n r) ∧ St w w' (mD encR 49 23 bo (R.map Rw.v ++ so) R LP)) ?_ ?_
        · repeat (with_reducible first | refine c_seq ?_ | refine c_block ?_ | refine c_skip ?_ | refine x_then ?_ | refine x_block ?_)
          refine c_loop (σ := Nat) (fun p ρ w' => r ≤ p ∧ p ≤ n ∧ (∀ l, r ≤ l → l < p → (rdc n M c).M l c = 0) ∧ ρ 4 = .slice (some ⟨bo, 0, none⟩) n cap ∧ ρ 5 = vp ∧ ρ 7 = .int .i64 r ∧ ρ 8 = .int .i64 c ∧ ρ 9 = .int .i64 p ∧ St w w' (mD encR 49 23 bo (R.map Rw.v ++ so) R LP)) (fun p => n - p) r
            ⟨Nat.le_refl _, by omega, fun l h1 h2 => absurd h2 (by omega), by assumption, by assumption, by assumption, by assumption, rfl, hS⟩ ?_
          clear hS
          rintro p ρ w4 ⟨hrp, hpn, hz, h4, h5, h7, h8, h9, hS⟩
          repeat (with_reducible first | refine c_seq ?_ | refine c_block ?_ | refine c_skip ?_ | refine x_then ?_ | refine x_block ?_)
          by_cases hpl' : p < n
          · have hlp : p < R.length := by rw [hR.len]; exact hpl'
            have htlp := tab_len m (qM (rdc n M c).M p)
            have hgp : (tab m (qM (rdc n M c).M p)).getD c zRR = ofQ ((rdc n M c).M p c) := tab_get _ _ hcm
            repeat (with_reducible first | refine c_seq ?_ | refine c_block ?_ | refine c_skip ?_ | refine x_then ?_ | refine x_block ?_)
            refine c_reg ?_
            refine l_pure rfl (s_move  h9 ?_)
            refine l_pure rfl (s_move  h4 ?_)
            refine l_pure rfl (s_leno  rfl ⟨_, Tryz.underlying22⟩ ?_)
            refine l_pure rfl (s_lss  rfl rfl ?_)
            refine l_pure rfl (s_move  rfl ?_)
            refine l_pure (gd_yes 49 (by kernel_rfl) rfl (decide_eq_true (by omega))) (s_move  h4 ?_)
            refine l_pure (gd_yes 49 (by kernel_rfl) rfl (decide_eq_true (by omega))) (s_move  h9 ?_)
            refine l_pure (gd_yes 49 (by kernel_rfl) rfl (decide_eq_true (by omega))) (s_ixo (i := p)  rfl rfl (by omega) (by first | omega | (simp; done) | (simp; omega)) si_22 ?_)
            refine l_read (gd_yes 49 (by kernel_rfl) rfl (decide_eq_true (by omega))) (s_mrowD []  rfl vi_23 hS (by omega) (mC_row hlp) ?_)
            refine l_pure (gd_yes 49 (by kernel_rfl) rfl (decide_eq_true (by omega))) (s_move  h8 ?_)
            refine l_pure (gd_yes 49 (by kernel_rfl) rfl (decide_eq_true (by omega))) (s_ixr (i := c)  rfl rfl (hR.slD [] hS encR_len hpl') (by omega) (by first | omega | (simp; done) | (simp; omega)) si_23 ?_)
            refine l_pure (gd_yes 49 (by kernel_rfl) rfl (decide_eq_true (by omega))) (s_fldr  rfl (spot_el (hR.slD [] hS encR_len hpl') (fun _ => rfl) (by decide) (by first | omega | (simp; done) | (simp; omega))) fo_49_1 ?_)
            refine l_read (gd_yes 49 (by kernel_rfl) rfl (decide_eq_true (by omega))) (s_ldfe (i := c) (off := 1) zRR  rfl vi_9 (hR.slD [] hS encR_len hpl') (fun _ => rfl) (by decide) (by first | omega | (simp; done) | (simp; omega)) rfl rfl (.inr rfl) ?_)
            refine l_pure (gd_yes 49 (by kernel_rfl) rfl (decide_eq_true (by omega))) (s_eqs  rfl rfl ?_)
            refine l_pure rfl (s_pick (vb rfl (decide_eq_true (by omega))) rfl ?_)
            refine l_nil ?_
            repeat (with_reducible first | refine c_seq ?_ | refine c_block ?_ | refine c_skip ?_ | refine x_then ?_ | refine x_block ?_)
            rw [hgp]
            by_cases hzz : (rdc n M c).M p c = 0
            · refine c_yes rfl (decide_eq_true (ofQ_num_nil.2 hzz)) ?_
              repeat (with_reducible first | refine c_seq ?_ | refine c_block ?_ | refine c_skip ?_ | refine x_then ?_ | refine x_block ?_)
              refine c_reg ?_
              refine l_pure rfl (s_move  h9 ?_)
              refine l_pure rfl (s_add  rfl rfl (IntWalk.i64_in _ (by omega)) ?_)
              refine l_pure rfl (s_asg  rfl ?_)
              refine l_nil ?_
              repeat (with_reducible first | refine c_seq ?_ | refine c_block ?_ | refine c_skip ?_ | refine x_then ?_ | refine x_block ?_)
              exact ⟨p + 1, _, rfl, ⟨by omega, hpl', fun l h1 h2 => by
                by_cases e : l = p
                · rw [e]; exact hzz
                · exact hz l h1 (by omega), by assumption, by assumption, by assumption, by assumption, vi rfl (by omega), hS⟩, by omega⟩
            · refine c_no rfl (decide_eq_false (fun g => hzz (ofQ_num_nil.1 g))) ?_
              repeat (with_reducible first | refine c_seq ?_ | refine c_block ?_ | refine c_skip ?_ | refine x_then ?_ | refine x_block ?_)
              refine c_exit ?_
              repeat (with_reducible first | refine x_then_exit ?_ | refine x_block_exit ?_ | refine x_block_pass rfl ?_)
              repeat (with_reducible first | refine c_seq ?_ | refine c_block ?_ | refine c_skip ?_ | refine x_then ?_ | refine x_block ?_)
              have hp : pv (rdc n M c).M c n r = p := pv_uniq hrp (by omega) hz fun _ => hzz
              rw [hp]
              exact ⟨_, rfl, by assumption, by assumption, by assumption, by assumption, by assumption, hS⟩
          · repeat (with_reducible first | refine c_seq ?_ | refine c_block ?_ | refine c_skip ?_ | refine x_then ?_ | refine x_block ?_)
            refine c_reg ?_
            refine l_pure rfl (s_move  h9 ?_)
            refine l_pure rfl (s_move  h4 ?_)
            refine l_pure rfl (s_leno  rfl ⟨_, Tryz.underlying22⟩ ?_)
            refine l_pure rfl (s_lss  rfl rfl ?_)
            refine l_pure rfl (s_move  rfl ?_)
            refine l_no (gno_yes 49 (by kernel_rfl) rfl (decide_eq_false (by omega))) ?_
            refine l_no (gno_yes 49 (by kernel_rfl) rfl (decide_eq_false (by omega))) ?_
            refine l_no (gno_yes 49 (by kernel_rfl) rfl (decide_eq_false (by omega))) ?_
            refine l_no (gno_yes 49 (by kernel_rfl) rfl (decide_eq_false (by omega))) ?_
            refine l_no (gno_yes 49 (by kernel_rfl) rfl (decide_eq_false (by omega))) ?_
            refine l_no (gno_yes 49 (by kernel_rfl) rfl (decide_eq_false (by omega))) ?_
            refine l_no (gno_yes 49 (by kernel_rfl) rfl (decide_eq_false (by omega))) ?_
            refine l_no (gno_yes 49 (by kernel_rfl) rfl (decide_eq_false (by omega))) ?_
            refine l_no (gno_yes 49 (by kernel_rfl) rfl (decide_eq_false (by omega))) ?_
            refine l_pure rfl (s_pick (vb rfl (decide_eq_false (by omega))) rfl ?_)
            refine l_nil ?_
            repeat (with_reducible first | refine c_seq ?_ | refine c_block ?_ | refine c_skip ?_ | refine x_then ?_ | refine x_block ?_)
            refine c_no rfl (rfl) ?_
            repeat (with_reducible first | refine c_seq ?_ | refine c_block ?_ | refine c_skip ?_ | refine x_then ?_ | refine x_block ?_)
            refine c_exit ?_
            repeat (with_reducible first | refine x_then_exit ?_ | refine x_block_exit ?_ | refine x_block_pass rfl ?_)
            repeat (with_reducible first | refine c_seq ?_ | refine c_block ?_ | refine c_skip ?_ | refine x_then ?_ | refine x_block ?_)
            obtain rfl : n = p := by omega
            have hp : pv (rdc n M c).M c n r = n := pv_uniq hrp (Nat.le_refl _) hz fun h => absurd h (Nat.lt_irrefl _)
            rw [hp]
            exact ⟨_, rfl, by assumption, by assumption, by assumption, by assumption, by assumption, hS⟩
        clear hS
        rintro ρ w4 ⟨h4, h5, h7, h8, h9, hS⟩
        obtain ⟨p, hp⟩ : ∃ p, p = pv (rdc n M c).M c n r := ⟨_, rfl⟩
        have hps := pv_spec (rdc n M c).M c (n := n) (r := r) (by omega)
        rw [← hp] at hps h9
        obtain ⟨hrp, hpn', _, ha⟩ := hps
        repeat (with_reducible first | refine c_seq ?_ | refine c_block ?_ | refine c_skip ?_ | refine x_then ?_ | refine x_block ?_)
        refine c_reg ?_
        refine l_pure rfl (s_move  h9 ?_)
        refine l_pure rfl (s_move  h4 ?_)
        refine l_pure rfl (s_leno  rfl ⟨_, Tryz.underlying22⟩ ?_)
        refine l_pure rfl (s_eql  rfl rfl ?_)
        refine l_nil ?_
        repeat (with_reducible first | refine c_seq ?_ | refine c_block ?_ | refine c_skip ?_ | refine x_then ?_ | refine x_block ?_)
        by_cases hpn : p < n
        · refine c_no rfl (decide_eq_false (by omega)) ?_
          repeat (with_reducible first | refine c_seq ?_ | refine c_block ?_ | refine c_skip ?_ | refine x_then ?_ | refine x_block ?_)
          replace ha := ha hpn
          have hyes := rstp_yes (n := n) (c := c) (M := M) (by rw [← hr, ← hp]; exact hpn)
          rw [← hr, ← hp] at hyes
          obtain ⟨s, hs⟩ : ∃ s, s = rdc n M c := ⟨_, rfl⟩
          rw [← hs] at hyes hB1 hB2 hR hG ha hr hpl
          obtain ⟨a, ha'⟩ : ∃ a, a = s.M p c := ⟨_, rfl⟩
          obtain ⟨X, hX⟩ : ∃ X, X = swpR s.M r p := ⟨_, rfl⟩
          rw [← ha', ← hX] at hyes
          rw [← ha'] at ha
          have hbm := BB_mono K (r := r + 1) (s := n) hrn
          rw [BB_succ] at hbm
          obtain ⟨b, hb⟩ : ∃ b, b = BB K r := ⟨_, rfl⟩
          rw [← hb] at hB1 hB2 hbm
          have hLs : ∀ i, i < n → ∀ j, j < m → L (s.M i j) ≤ b - 1 := fun i hi j hj => by have := hB1 i hi j hj; omega
          have hLX : ∀ i, i < n → ∀ j, j < m → L (X i j) ≤ b - 1 := by rw [hX]; exact L_swp hpn hrn hLs
          have hLa : L a ≤ b - 1 := by rw [ha']; exact hLs p hpn c (by omega)
          have hb1 : 1 ≤ b := by have := hB1 p hpn c (by omega); omega
          have hXa : X r c = a := by rw [hX, ha', swpR_at]
          have hlp : p < R.length := by rw [hR.len]; exact hpn
          have hlr : r < R.length := by rw [hR.len]; exact hrn
          obtain ⟨bp, hbp⟩ : ∃ x, x = (R.getD p zRw).b := ⟨_, rfl⟩
          obtain ⟨cp, hcp⟩ : ∃ x, x = (R.getD p zRw).cap := ⟨_, rfl⟩
          have hvp := hR.v hpn
          rw [← hbp, ← hcp] at hvp
          obtain ⟨cs, hcs⟩ : ∃ cs, cs = (R.map Rw.v ++ so).set p (R.getD r zRw).v := ⟨_, rfl⟩
          have htp := tab_len m (qM s.M p)
          have hgp : (tab m (qM s.M p)).getD c zRR = ofQ a := by rw [tab_get _ _ hcm, ha']
          have hcl : (R.map Rw.v ++ so).length = n + so.length := by rw [List.length_append, List.length_map, hR.len]
          repeat (with_reducible first | refine c_seq ?_ | refine c_block ?_ | refine c_skip ?_ | refine x_then ?_ | refine x_block ?_)
          refine c_reg ?_
          refine l_pure rfl (s_move  h4 ?_)
          refine l_pure rfl (s_move  h9 ?_)
          refine l_pure rfl (s_ixo (i := p)  rfl rfl (by omega) (by first | omega | (simp; done) | (simp; omega)) si_22 ?_)
          refine l_read rfl (s_mrowD []  rfl vi_23 hS (by omega) (mC_row hlp) ?_)
          refine l_pure rfl (s_asg  rfl ?_)
          refine l_nil ?_
          repeat (with_reducible first | refine c_seq ?_ | refine c_block ?_ | refine c_skip ?_ | refine x_then ?_ | refine x_block ?_)
          refine c_reg ?_
          refine l_pure rfl (s_move  h4 ?_)
          refine l_pure rfl (s_move  h9 ?_)
          refine l_pure rfl (s_move  h4 ?_)
          refine l_pure rfl (s_move  h7 ?_)
          refine l_pure rfl (s_ixo (i := r)  rfl rfl (by omega) (by first | omega | (simp; done) | (simp; omega)) si_22 ?_)
          refine l_read rfl (s_mrowD []  rfl vi_23 hS (by omega) (mC_row hlr) ?_)
          refine l_pure rfl (s_ixo (i := p)  rfl rfl (by omega) (by first | omega | (simp; done) | (simp; omega)) si_22 ?_)
          refine l_heavy rfl (s_mrowstP [] (i := p)  rfl rfl vi_23 hS (by omega) (by omega) (Rw_one _) ?_)
          intro wz4 hS
          refine l_nil ?_
          repeat (with_reducible first | refine c_seq ?_ | refine c_block ?_ | refine c_skip ?_ | refine x_then ?_ | refine x_block ?_)
          replace hS : St w _ (mD encR 49 23 bo ((R.map Rw.v ++ so).set p (R.getD r zRw).v) R LP) := hS
          rw [← hcs] at hS
          rw [hvp]
          have hrow := hR.slD [] hS encR_len hpn
          rw [hvp] at hrow
          repeat (with_reducible first | refine c_seq ?_ | refine c_block ?_ | refine c_skip ?_ | refine x_then ?_ | refine x_block ?_)
          refine c_reg ?_
          refine l_pure rfl (s_move  rfl ?_)
          refine l_pure rfl (s_move  h8 ?_)
          refine l_pure rfl (s_ixr (i := c)  rfl rfl hrow (by omega) (by first | omega | (simp; done) | (simp; omega)) si_23 ?_)
          refine l_read rfl (s_lde (i := c) zRR  rfl vi_49 hrow (by first | omega | (simp; done) | (simp; omega)) rfl rfl (.inl rfl) ?_)
          refine l_heavy rfl (s_alloc  vi_49 hS ?_)
          intro b11 wz5 hS hBz5
          refine l_heavy rfl (s_sta (k := 0)  rfl rfl vi_49 hS rfl rfl rfl (Nat.le_of_ble_eq_true rfl) rfl ?_)
          intro wz6 hS
          refine l_nil ?_
          repeat (with_reducible first | refine c_seq ?_ | refine c_block ?_ | refine c_skip ?_ | refine x_then ?_ | refine x_block ?_)
          rw [hgp] at hS
          replace hS : St w _ ([(b11, 49, encR (ofQ a))] ++ mD encR 49 23 bo cs R LP) := hS
          repeat (with_reducible first | refine c_seq ?_ | refine c_block ?_ | refine c_skip ?_ | refine x_then ?_ | refine x_block ?_)
          refine c_forget (fun ρ' => ρ' 4 = .slice (some ⟨bo, 0, none⟩) n cap ∧ ρ' 5 = vp ∧ ρ' 7 = .int .i64 r ∧ ρ' 8 = .int .i64 c ∧ ρ' 10 = .slice (some ⟨bp, 0, none⟩) m cp ∧ ρ' 11 = .pointer (some ⟨b11, 0, none⟩) ∧ True) ⟨h4, h5, h7, h8, rfl, rfl, trivial⟩ ?_
          rintro ρk7 ⟨hk7_4, hk7_5, hk7_7, hk7_8, hk7_10, hk7_11, -⟩
          repeat (with_reducible first | refine c_seq ?_ | refine c_block ?_ | refine c_skip ?_ | refine x_then ?_ | refine x_block ?_)
          refine c_reg ?_
          refine l_pure rfl (s_asg  rfl ?_)
          refine l_nil ?_
          repeat (with_reducible first | refine c_seq ?_ | refine c_skip ?_ | refine x_then ?_ | refine x_block ?_)
          refine c_cut1 (fun ρ w' => ρ 4 = .slice (some ⟨bo, 0, none⟩) n cap ∧ ρ 5 = vp ∧ ρ 7 = .int .i64 r ∧ ρ 8 = .int .i64 c ∧ ρ 10 = .slice (some ⟨bp, 0, none⟩) m cp ∧
            ∃ R', R'.map Rw.v = R.map Rw.v ∧ (R'.getD p zRw).b = bp ∧ (R'.getD p zRw).cap = cp ∧ MatG R' n m (qM (divF s.M p a m)) ∧ St w w' (mD encR 49 23 bo cs R' LP)) ?_ ?_
          · repeat (with_reducible first | refine c_seq ?_ | refine c_block ?_ | refine c_skip ?_ | refine x_then ?_ | refine x_block ?_)
            refine c_loop (σ := Nat) (fun k ρ w' => k ≤ m ∧ ρ 4 = .slice (some ⟨bo, 0, none⟩) n cap ∧ ρ 5 = vp ∧ ρ 7 = .int .i64 r ∧ ρ 8 = .int .i64 c ∧ ρ 10 = .slice (some ⟨bp, 0, none⟩) m cp ∧ ρ 11 = .pointer (some ⟨b11, 0, none⟩) ∧ ρ 12 = .int .i64 k ∧
              ∃ R', R'.map Rw.v = R.map Rw.v ∧ (R'.getD p zRw).b = bp ∧ (R'.getD p zRw).cap = cp ∧ MatG R' n m (qM (divF s.M p a k)) ∧ St w w' ([(b11, 49, encR (ofQ a))] ++ mD encR 49 23 bo cs R' LP)) (fun k => m - k) 0
              ⟨Nat.zero_le _, by assumption, by assumption, by assumption, by assumption, by assumption, by assumption, rfl, R, rfl, hbp.symm, hcp.symm, hR.congr fun i _ j _ => by show ofQ (s.M i j) = ofQ (divF s.M p a 0 i j); unfold divF; rw [if_neg (by omega)], hS⟩ ?_
            clear hS hrow
            rintro k ρ w5 ⟨hk, h4, h5, h7, h8, h10, h11, h12, R', hmv, hb', hc', hR', hS⟩
            have hlp' : p < R'.length := by rw [hR'.len]; exact hpn
            have hvk := hR'.v hpn
            rw [hb', hc'] at hvk
            have hrow := fun wx (h : St w wx ([(b11, 49, encR (ofQ a))] ++ mD encR 49 23 bo cs R' LP)) => hR'.slD [(b11, 49, encR (ofQ a))] h encR_len hpn
            rw [hvk] at hrow
            have htk := tab_len m (qM (divF s.M p a k) p)
            have hxk := hR'.xlen hpn
            repeat (with_reducible first | refine c_seq ?_ | refine c_block ?_ | refine c_skip ?_ | refine x_then ?_ | refine x_block ?_)
            refine c_reg ?_
            refine l_pure rfl (s_move  h12 ?_)
            refine l_pure rfl (s_move  h10 ?_)
            refine l_pure rfl (s_leno  rfl ⟨_, Tryz.underlying23⟩ ?_)
            refine l_pure rfl (s_lss  rfl rfl ?_)
            refine l_nil ?_
            repeat (with_reducible first | refine c_seq ?_ | refine c_block ?_ | refine c_skip ?_ | refine x_then ?_ | refine x_block ?_)
            by_cases hkl : k < m
            · refine c_yes rfl (decide_eq_true (by omega)) ?_
              repeat (with_reducible first | refine c_seq ?_ | refine c_block ?_ | refine c_skip ?_ | refine x_then ?_ | refine x_block ?_)
              have hgk : (tab m (qM (divF s.M p a k) p)).getD k zRR = ofQ (s.M p k) := by rw [tab_get _ _ hkl]; show ofQ (divF s.M p a k p k) = _; unfold divF; rw [if_neg (by omega)]
              have hLk := hLs p hpn k hkl
              have hov := fun w => rOver_ok (s.M p k) a w (by omega) ha
              repeat (with_reducible first | refine c_seq ?_ | refine c_block ?_ | refine c_skip ?_ | refine x_then ?_ | refine x_block ?_)
              refine c_draw [(0, .pure), (1, .pure), (2, .pure), (3, .pure), (4, .pure), (5, .read), (6, .read), (7, .grow), (8, .pure), (9, .free)] (by kernel_rfl) (by kernel_rfl) hS ?_
              intro wz8 hS hBz8
              refine w_pure rfl rfl (s_move  h10 ?_)
              refine w_pure rfl rfl (s_move  h12 ?_)
              refine w_pure rfl rfl (s_move  h10 ?_)
              refine w_pure rfl rfl (s_move  h12 ?_)
              refine w_pure rfl rfl (s_ixr (i := k)  rfl rfl (hrow _ hS) (by omega) (by first | omega | (simp; done) | (simp; omega)) si_23 ?_)
              refine w_read rfl rfl (s_lde (i := k) zRR  rfl vi_49 (hrow _ hS) (by first | omega | (simp; done) | (simp; omega)) rfl rfl (.inl rfl) ?_)
              refine w_read rfl rfl (s_ldo (k := 0)  h11 vi_49 hS rfl rfl rfl (.inl rfl) ?_)
              rw [hgk]
              refine w_grow rfl rfl (s_call Tryz.call51 rfl (hov _) ?_)
              rintro _ wc9 ⟨rfl, hBc9⟩
              replace hS := hS.grow hBc9
              refine ⟨hBc9, ?_⟩
              refine w_pure rfl rfl (s_ixo (i := k) rfl rfl (by omega) (by omega) si_23 ?_)
              refine w_free rfl rfl (s_mstD [_] (i := p) (j := k) (ofQ (s.M p k / a)) encR_len  rfl rfl vi_49 hS hb' hlp' (by omega) (by omega) rfl rfl ?_)
              intro wz10 hS
              refine w_end ?_
              repeat (with_reducible first | refine c_seq ?_ | refine c_block ?_ | refine c_skip ?_ | refine x_then ?_ | refine x_block ?_)
              refine c_reg ?_
              refine l_pure rfl (s_move  h12 ?_)
              refine l_pure rfl (s_add  rfl rfl (IntWalk.i64_in _ (by omega)) ?_)
              refine l_pure rfl (s_asg  rfl ?_)
              refine l_nil ?_
              repeat (with_reducible first | refine c_seq ?_ | refine c_block ?_ | refine c_skip ?_ | refine x_then ?_ | refine x_block ?_)
              refine ⟨k + 1, _, rfl, ⟨hkl, by assumption, by assumption, by assumption, by assumption, by assumption, by assumption, vi rfl (by omega), _, ?_, ?_, ?_, (hR'.put hpn k (ofQ (s.M p k / a))).congr fun i _ j _ => ?_, hS⟩, by omega⟩
              · rw [map_put_v R' k _ hlp']; exact hmv
              · rw [getD_setL _ _ _ hlp', if_pos rfl]; exact hb'
              · rw [getD_setL _ _ _ hlp', if_pos rfl]; exact hc'
              · show (if i = p ∧ j = k then ofQ (s.M p k / a) else ofQ (divF s.M p a k i j)) = ofQ (divF s.M p a (k + 1) i j)
                unfold divF
                by_cases g : i = p ∧ j = k
                · rw [if_pos g, if_pos (by omega), g.2]
                · rw [if_neg g]
                  by_cases g2 : i = p ∧ j < k
                  · rw [if_pos g2, if_pos (by omega)]
                  · rw [if_neg g2, if_neg (by omega)]
            · refine c_no rfl (decide_eq_false (by omega)) ?_
              repeat (with_reducible first | refine c_seq ?_ | refine c_block ?_ | refine c_skip ?_ | refine x_then ?_ | refine x_block ?_)
              refine c_exit ?_
              repeat (with_reducible first | refine x_then_exit ?_ | refine x_block_exit ?_ | refine x_block_pass rfl ?_)
              repeat (with_reducible first | refine c_seq ?_ | refine c_block ?_ | refine c_skip ?_ | refine x_then ?_ | refine x_block ?_)
              obtain rfl : m = k := by omega
              exact ⟨_, rfl, h4, h5, h7, h8, h10, R', hmv, hb', hc', hR', hS.drop (List.sublist_cons_self _ _)⟩
          clear hS hrow
          rintro ρ w5 ⟨h4, h5, h7, h8, h10, R1, hmv, hb1', hc1', hR1, hS⟩
          have hl1p : p < R1.length := by rw [hR1.len]; exact hpn
          have hl1r : r < R1.length := by rw [hR1.len]; exact hrn
          have hcsl : cs.length = n + so.length := by rw [hcs, List.length_set]; exact hcl
          repeat (with_reducible first | refine c_seq ?_ | refine c_block ?_ | refine c_skip ?_ | refine x_then ?_ | refine x_block ?_)
          refine c_reg ?_
          refine l_pure rfl (s_move  h4 ?_)
          refine l_pure rfl (s_move  h7 ?_)
          refine l_pure rfl (s_move  h10 ?_)
          refine l_pure rfl (s_ixo (i := r)  rfl rfl (by omega) (by first | omega | (simp; done) | (simp; omega)) si_22 ?_)
          refine l_heavy rfl (s_mrowstP [] (i := r)  rfl rfl vi_23 hS (by omega) (by omega) rfl ?_)
          intro wz11 hS
          refine l_nil ?_
          repeat (with_reducible first | refine c_seq ?_ | refine c_block ?_ | refine c_skip ?_ | refine x_then ?_ | refine x_block ?_)
          have hvp0 : (R.getD p zRw).v = .slice (some ⟨bp, 0, none⟩) m cp := hvp
          rw [← hvp0, hcs] at hS
          replace hS : St w _ ([] ++ mD encR 49 23 bo ((swpL R1 p r).map Rw.v ++ so) (swpL R1 p r) LP) := mC_swp (pre := []) hmv hl1p hl1r hS
          obtain ⟨R2, hR2d⟩ : ∃ R2, R2 = swpL R1 p r := ⟨_, rfl⟩
          have hrv : (R2.getD r zRw).b = bp ∧ (R2.getD r zRw).cap = cp := by rw [hR2d, swpL_get R1 hl1p hl1r, if_pos rfl]; exact ⟨hb1', hc1'⟩
          have hR2 : MatG R2 n m (qM (elF X r c a 0)) := by
            rw [hR2d]
            refine (hR1.swp hpn hrn).congr fun i _ j hj => ?_
            show (if i = r then ofQ (divF s.M p a m p j) else if i = p then ofQ (divF s.M p a m r j) else ofQ (divF s.M p a m i j)) = ofQ (elF X r c a 0 i j)
            unfold divF elF
            by_cases e : i = r
            · rw [if_pos e, if_pos ⟨rfl, hj⟩, if_pos e, hX, swpR_at]
            · rw [if_neg e, if_neg e, if_neg (Nat.not_lt_zero _), hX]
              by_cases e2 : i = p
              · rw [if_pos e2, if_neg (by omega), e2, swpR_at2]
              · rw [if_neg e2, if_neg (by omega), swpR_ne _ e e2]
          rw [← hR2d] at hS
          clear hR1 hmv hb1' hc1' hl1p hl1r
          repeat (with_reducible first | refine c_seq ?_ | refine c_block ?_ | refine c_skip ?_ | refine x_then ?_ | refine x_block ?_)
          refine c_reg ?_
          refine l_pure rfl (s_asg  rfl ?_)
          refine l_nil ?_
          repeat (with_reducible first | refine c_seq ?_ | refine c_skip ?_ | refine x_then ?_ | refine x_block ?_)
          refine c_cut1 (fun ρ w' => ρ 4 = .slice (some ⟨bo, 0, none⟩) n cap ∧ ρ 5 = vp ∧ ρ 7 = .int .i64 r ∧ ρ 8 = .int .i64 c ∧ ∃ R, MatG R n m (qM (elF X r c a n)) ∧ St w w' (mD encR 49 23 bo (R.map Rw.v ++ so) R LP)) ?_ ?_
          · repeat (with_reducible first | refine c_seq ?_ | refine c_block ?_ | refine c_skip ?_ | refine x_then ?_ | refine x_block ?_)
            refine c_loop (σ := Nat) (fun i ρ w' => i ≤ n ∧ ρ 4 = .slice (some ⟨bo, 0, none⟩) n cap ∧ ρ 5 = vp ∧ ρ 7 = .int .i64 r ∧ ρ 8 = .int .i64 c ∧ ρ 10 = .slice (some ⟨bp, 0, none⟩) m cp ∧ ρ 13 = .int .i64 i ∧
              ∃ R, (R.getD r zRw).b = bp ∧ (R.getD r zRw).cap = cp ∧ MatG R n m (qM (elF X r c a i)) ∧ St w w' (mD encR 49 23 bo (R.map Rw.v ++ so) R LP)) (fun i => n - i) 0
              ⟨Nat.zero_le _, by assumption, by assumption, by assumption, by assumption, by assumption, rfl, R2, hrv.1, hrv.2, hR2, hS⟩ ?_
            clear hS hR2 hrv
            rintro i ρ w6 ⟨hi, h4, h5, h7, h8, h10, h13, R3, hb3, hc3, hR3, hS⟩
            repeat (with_reducible first | refine c_seq ?_ | refine c_block ?_ | refine c_skip ?_ | refine x_then ?_ | refine x_block ?_)
            refine c_reg ?_
            refine l_pure rfl (s_move  h13 ?_)
            refine l_pure rfl (s_move  h4 ?_)
            refine l_pure rfl (s_leno  rfl ⟨_, Tryz.underlying22⟩ ?_)
            refine l_pure rfl (s_lss  rfl rfl ?_)
            refine l_nil ?_
            repeat (with_reducible first | refine c_seq ?_ | refine c_block ?_ | refine c_skip ?_ | refine x_then ?_ | refine x_block ?_)
            by_cases hin : i < n
            · refine c_yes rfl (decide_eq_true (by omega)) ?_
              repeat (with_reducible first | refine c_seq ?_ | refine c_block ?_ | refine c_skip ?_ | refine x_then ?_ | refine x_block ?_)
              have hl3 : i < R3.length := by rw [hR3.len]; exact hin
              have ht3 := tab_len m (qM (elF X r c a i) i)
              have hstep : ∀ x, x < n → ∀ j, x ≠ i → elF X r c a i x j = elF X r c a (i + 1) x j := by
                intro x _ j hne
                unfold elF
                by_cases e : x = r
                · rw [if_pos e, if_pos e]
                · rw [if_neg e, if_neg e]
                  by_cases e2 : x < i
                  · rw [if_pos e2, if_pos (by omega)]
                  · rw [if_neg e2, if_neg (by omega)]
              repeat (with_reducible first | refine c_seq ?_ | refine c_block ?_ | refine c_skip ?_ | refine x_then ?_ | refine x_block ?_)
              refine c_reg ?_
              refine l_pure rfl (s_move  h4 ?_)
              refine l_pure rfl (s_move  h13 ?_)
              refine l_pure rfl (s_ixo (i := i)  rfl rfl (by omega) (by first | omega | (simp; done) | (simp; omega)) si_22 ?_)
              refine l_read rfl (s_mrowD []  rfl vi_23 hS (by omega) (mC_row hl3) ?_)
              refine l_pure rfl (s_move  h8 ?_)
              refine l_pure rfl (s_ixr (i := c)  rfl rfl (hR3.slD [] hS encR_len hin) (by omega) (by first | omega | (simp; done) | (simp; omega)) si_23 ?_)
              refine l_read rfl (s_lde (i := c) zRR  rfl vi_49 (hR3.slD [] hS encR_len hin) (by first | omega | (simp; done) | (simp; omega)) rfl rfl (.inl rfl) ?_)
              refine l_heavy rfl (s_alloc  vi_49 hS ?_)
              intro b14 wz12 hS hBz12
              refine l_heavy rfl (s_sta (k := 0)  rfl rfl vi_49 hS rfl rfl rfl (Nat.le_of_ble_eq_true rfl) rfl ?_)
              intro wz13 hS
              refine l_nil ?_
              repeat (with_reducible first | refine c_seq ?_ | refine c_block ?_ | refine c_skip ?_ | refine x_then ?_ | refine x_block ?_)
              by_cases hir : i = r
              · repeat (with_reducible first | refine c_seq ?_ | refine c_block ?_ | refine c_skip ?_ | refine x_then ?_ | refine x_block ?_)
                refine c_reg ?_
                refine l_pure rfl (s_move  h13 ?_)
                refine l_pure rfl (s_move  h7 ?_)
                refine l_pure rfl (s_eql  rfl rfl ?_)
                refine l_pure rfl (s_move  rfl ?_)
                refine l_no (gno_yes 116 (by kernel_rfl) rfl (decide_eq_true (by omega))) ?_
                refine l_no (gno_yes 116 (by kernel_rfl) rfl (decide_eq_true (by omega))) ?_
                refine l_no (gno_yes 116 (by kernel_rfl) rfl (decide_eq_true (by omega))) ?_
                refine l_pure rfl (s_pick (vb rfl (decide_eq_true (by omega))) rfl ?_)
                refine l_nil ?_
                repeat (with_reducible first | refine c_seq ?_ | refine c_block ?_ | refine c_skip ?_ | refine x_then ?_ | refine x_block ?_)
                refine c_yes rfl (rfl) ?_
                repeat (with_reducible first | refine c_seq ?_ | refine c_block ?_ | refine c_skip ?_ | refine x_then ?_ | refine x_block ?_)
                refine c_exit ?_
                repeat (with_reducible first | refine x_then_exit ?_ | refine x_block_exit ?_ | refine x_block_pass rfl ?_)
                repeat (with_reducible first | refine c_seq ?_ | refine c_block ?_ | refine c_skip ?_ | refine x_then ?_ | refine x_block ?_)
                refine c_reg ?_
                refine l_pure rfl (s_move  h13 ?_)
                refine l_pure rfl (s_add  rfl rfl (IntWalk.i64_in _ (by omega)) ?_)
                refine l_pure rfl (s_asg  rfl ?_)
                refine l_nil ?_
                repeat (with_reducible first | refine c_seq ?_ | refine c_block ?_ | refine c_skip ?_ | refine x_then ?_ | refine x_block ?_)
                refine ⟨i + 1, _, rfl, ⟨hin, by assumption, by assumption, by assumption, by assumption, by assumption, vi rfl (by omega), R3, hb3, hc3, hR3.congr fun x hx j _ => ?_, hS.drop (List.sublist_cons_self _ _)⟩, by omega⟩
                show ofQ (elF X r c a i x j) = ofQ (elF X r c a (i + 1) x j)
                by_cases e : x = i
                · unfold elF; rw [if_pos (by omega), if_pos (by omega)]
                · rw [hstep x hx j e]
              · have hgi : (tab m (qM (elF X r c a i) i)).getD c zRR = ofQ (X i c) := by rw [tab_get _ _ hcm]; show ofQ (elF X r c a i i c) = _; unfold elF; rw [if_neg hir, if_neg (Nat.lt_irrefl _)]
                rw [hgi] at hS
                replace hS : St w _ ([(b14, 49, encR (ofQ (X i c)))] ++ mD encR 49 23 bo (R3.map Rw.v ++ so) R3 LP) := hS
                repeat (with_reducible first | refine c_seq ?_ | refine c_block ?_ | refine c_skip ?_ | refine x_then ?_ | refine x_block ?_)
                refine c_reg ?_
                refine l_pure rfl (s_move  h13 ?_)
                refine l_pure rfl (s_move  h7 ?_)
                refine l_pure rfl (s_eql  rfl rfl ?_)
                refine l_pure rfl (s_move  rfl ?_)
                refine l_pure (gd_yes 116 (by kernel_rfl) rfl (decide_eq_false (by omega))) (s_fld  rfl fo_49_1 ?_)
                refine l_read (gd_yes 116 (by kernel_rfl) rfl (decide_eq_false (by omega))) (s_ldo (k := 0)  rfl vi_9 hS rfl rfl rfl (.inr rfl) ?_)
                refine l_pure (gd_yes 116 (by kernel_rfl) rfl (decide_eq_false (by omega))) (s_eqs  rfl rfl ?_)
                refine l_pure rfl (s_pick (vb rfl (decide_eq_false (by omega))) rfl ?_)
                refine l_nil ?_
                repeat (with_reducible first | refine c_seq ?_ | refine c_block ?_ | refine c_skip ?_ | refine x_then ?_ | refine x_block ?_)
                by_cases hz : X i c = 0
                · refine c_yes rfl (decide_eq_true (ofQ_num_nil.2 hz)) ?_
                  repeat (with_reducible first | refine c_seq ?_ | refine c_block ?_ | refine c_skip ?_ | refine x_then ?_ | refine x_block ?_)
                  refine c_exit ?_
                  repeat (with_reducible first | refine x_then_exit ?_ | refine x_block_exit ?_ | refine x_block_pass rfl ?_)
                  repeat (with_reducible first | refine c_seq ?_ | refine c_block ?_ | refine c_skip ?_ | refine x_then ?_ | refine x_block ?_)
                  refine c_reg ?_
                  refine l_pure rfl (s_move  h13 ?_)
                  refine l_pure rfl (s_add  rfl rfl (IntWalk.i64_in _ (by omega)) ?_)
                  refine l_pure rfl (s_asg  rfl ?_)
                  refine l_nil ?_
                  repeat (with_reducible first | refine c_seq ?_ | refine c_block ?_ | refine c_skip ?_ | refine x_then ?_ | refine x_block ?_)
                  refine ⟨i + 1, _, rfl, ⟨hin, by assumption, by assumption, by assumption, by assumption, by assumption, vi rfl (by omega), R3, hb3, hc3, hR3.congr fun x hx j _ => ?_, hS.drop (List.sublist_cons_self _ _)⟩, by omega⟩
                  show ofQ (elF X r c a i x j) = ofQ (elF X r c a (i + 1) x j)
                  by_cases e : x = i
                  · rw [e]; unfold elF; rw [if_neg hir, if_neg hir, if_neg (Nat.lt_irrefl _), if_pos (Nat.lt_succ_self _), hz]; congr 1; grind
                  · rw [hstep x hx j e]
                · refine c_no rfl (decide_eq_false (fun g => hz (ofQ_num_nil.1 g))) ?_
                  repeat (with_reducible first | refine c_seq ?_ | refine c_block ?_ | refine c_skip ?_ | refine x_then ?_ | refine x_block ?_)
                  refine c_forget (fun ρ' => ρ' 4 = .slice (some ⟨bo, 0, none⟩) n cap ∧ ρ' 5 = vp ∧ ρ' 7 = .int .i64 r ∧ ρ' 8 = .int .i64 c ∧ ρ' 10 = .slice (some ⟨bp, 0, none⟩) m cp ∧ ρ' 13 = .int .i64 i ∧ ρ' 14 = .pointer (some ⟨b14, 0, none⟩) ∧ True) ⟨h4, h5, h7, h8, h10, h13, rfl, trivial⟩ ?_
                  rintro ρk14 ⟨hk14_4, hk14_5, hk14_7, hk14_8, hk14_10, hk14_13, hk14_14, -⟩
                  repeat (with_reducible first | refine c_seq ?_ | refine c_block ?_ | refine c_skip ?_ | refine x_then ?_ | refine x_block ?_)
                  refine c_reg ?_
                  refine l_pure rfl (s_asg  rfl ?_)
                  refine l_nil ?_
                  repeat (with_reducible first | refine c_seq ?_ | refine c_skip ?_ | refine x_then ?_ | refine x_block ?_)
                  refine c_cut1 (fun ρ w' => ρ 4 = .slice (some ⟨bo, 0, none⟩) n cap ∧ ρ 5 = vp ∧ ρ 7 = .int .i64 r ∧ ρ 8 = .int .i64 c ∧ ρ 10 = .slice (some ⟨bp, 0, none⟩) m cp ∧ ρ 13 = .int .i64 i ∧
                    ∃ R, (R.getD r zRw).b = bp ∧ (R.getD r zRw).cap = cp ∧ MatG R n m (qM (zC X r c a i m)) ∧ St w w' (mD encR 49 23 bo (R.map Rw.v ++ so) R LP)) ?_ ?_
                  · repeat (with_reducible first | refine c_seq ?_ | refine c_block ?_ | refine c_skip ?_ | refine x_then ?_ | refine x_block ?_)
                    refine c_loop (σ := Nat) (fun k ρ w' => k ≤ m ∧ ρ 4 = .slice (some ⟨bo, 0, none⟩) n cap ∧ ρ 5 = vp ∧ ρ 7 = .int .i64 r ∧ ρ 8 = .int .i64 c ∧ ρ 10 = .slice (some ⟨bp, 0, none⟩) m cp ∧ ρ 13 = .int .i64 i ∧ ρ 14 = .pointer (some ⟨b14, 0, none⟩) ∧ ρ 15 = .int .i64 k ∧
                      ∃ R, (R.getD r zRw).b = bp ∧ (R.getD r zRw).cap = cp ∧ MatG R n m (qM (zC X r c a i k)) ∧ St w w' ([(b14, 49, encR (ofQ (X i c)))] ++ mD encR 49 23 bo (R.map Rw.v ++ so) R LP)) (fun k => m - k) 0
                      ⟨Nat.zero_le _, by assumption, by assumption, by assumption, by assumption, by assumption, by assumption, by assumption, rfl, R3, hb3, hc3, hR3.congr fun x _ j _ => by show ofQ (elF X r c a i x j) = ofQ (zC X r c a i 0 x j); unfold zC; rw [if_neg (by omega)], hS⟩ ?_
                    clear hS hR3 hl3 hb3 hc3
                    rintro k ρ w7 ⟨hk, h4, h5, h7, h8, h10, h13, h14, h15, R3, hb3, hc3, hR3, hS⟩
                    have hl3 : i < R3.length := by rw [hR3.len]; exact hin
                    have hxi := hR3.xlen hin
                    have hv3 := hR3.v hrn
                    rw [hb3, hc3] at hv3
                    have hrow := fun wx (h : St w wx ([(b14, 49, encR (ofQ (X i c)))] ++ mD encR 49 23 bo (R3.map Rw.v ++ so) R3 LP)) => hR3.slD [(b14, 49, encR (ofQ (X i c)))] h encR_len hrn
                    rw [hv3] at hrow
                    have htr := tab_len m (qM (zC X r c a i k) r)
                    have hti := tab_len m (qM (zC X r c a i k) i)
                    repeat (with_reducible first | refine c_seq ?_ | refine c_block ?_ | refine c_skip ?_ | refine x_then ?_ | refine x_block ?_)
                    refine c_reg ?_
                    refine l_pure rfl (s_move  h15 ?_)
                    refine l_pure rfl (s_move  h10 ?_)
                    refine l_pure rfl (s_leno  rfl ⟨_, Tryz.underlying23⟩ ?_)
                    refine l_pure rfl (s_lss  rfl rfl ?_)
                    refine l_nil ?_
                    repeat (with_reducible first | refine c_seq ?_ | refine c_block ?_ | refine c_skip ?_ | refine x_then ?_ | refine x_block ?_)
                    by_cases hkl : k < m
                    · refine c_yes rfl (decide_eq_true (by omega)) ?_
                      repeat (with_reducible first | refine c_seq ?_ | refine c_block ?_ | refine c_skip ?_ | refine x_then ?_ | refine x_block ?_)
                      have g1 : (tab m (qM (zC X r c a i k) i)).getD k zRR = ofQ (X i k) := by
                        rw [tab_get _ _ hkl]; show ofQ (zC X r c a i k i k) = _; unfold zC elF
                        rw [if_neg (by omega), if_neg hir, if_neg (Nat.lt_irrefl _)]
                      have g2 : (tab m (qM (zC X r c a i k) r)).getD k zRR = ofQ (X r k / a) := by
                        rw [tab_get _ _ hkl]; show ofQ (zC X r c a i k r k) = _; unfold zC elF
                        rw [if_neg (by omega), if_pos rfl]
                      have q1 := hLX i hin k hkl
                      have q2 := hLX r hrn k hkl
                      have q3 := hLX i hin c (by omega)
                      have q4 := L_div (X r k) a
                      have q5 := L_mul (X i c) (X r k / a)
                      have hti2 := fun w => rTimes_ok (X i c) (X r k / a) w (by omega)
                      have hmi := fun w => rMinus_ok (X i k) (X i c * (X r k / a)) w (by omega)
                      repeat (with_reducible first | refine c_seq ?_ | refine c_block ?_ | refine c_skip ?_ | refine x_then ?_ | refine x_block ?_)
                      refine c_draw [(0, .pure), (1, .pure), (2, .pure), (3, .read), (4, .pure), (5, .pure), (6, .pure), (7, .pure), (8, .read), (9, .pure), (10, .pure), (11, .read), (12, .read), (13, .pure), (14, .pure), (15, .pure), (16, .read), (17, .grow), (18, .grow), (19, .pure), (20, .free)] (by kernel_rfl) (by kernel_rfl) hS ?_
                      intro wz15 hS hBz15
                      refine w_pure rfl rfl (s_move  h4 ?_)
                      refine w_pure rfl rfl (s_move  h13 ?_)
                      refine w_pure rfl rfl (s_ixo (i := i)  rfl rfl (by omega) (by first | omega | (simp; done) | (simp; omega)) si_22 ?_)
                      refine w_read rfl rfl (s_mrowD [_]  rfl vi_23 hS (by omega) (mC_row hl3) ?_)
                      refine w_pure rfl rfl (s_move  h15 ?_)
                      refine w_pure rfl rfl (s_move  h4 ?_)
                      refine w_pure rfl rfl (s_move  h13 ?_)
                      refine w_pure rfl rfl (s_ixo (i := i)  rfl rfl (by omega) (by first | omega | (simp; done) | (simp; omega)) si_22 ?_)
                      refine w_read rfl rfl (s_mrowD [_]  rfl vi_23 hS (by omega) (mC_row hl3) ?_)
                      refine w_pure rfl rfl (s_move  h15 ?_)
                      refine w_pure rfl rfl (s_ixr (i := k)  rfl rfl (hR3.slD [_] hS encR_len hin) (by omega) (by first | omega | (simp; done) | (simp; omega)) si_23 ?_)
                      refine w_read rfl rfl (s_lde (i := k) zRR  rfl vi_49 (hR3.slD [_] hS encR_len hin) (by first | omega | (simp; done) | (simp; omega)) rfl rfl (.inl rfl) ?_)
                      refine w_read rfl rfl (s_ldo (k := 0)  h14 vi_49 hS rfl rfl rfl (.inl rfl) ?_)
                      refine w_pure rfl rfl (s_move  h10 ?_)
                      refine w_pure rfl rfl (s_move  h15 ?_)
                      refine w_pure rfl rfl (s_ixr (i := k)  rfl rfl (hrow _ hS) (by omega) (by first | omega | (simp; done) | (simp; omega)) si_23 ?_)
                      refine w_read rfl rfl (s_lde (i := k) zRR  rfl vi_49 (hrow _ hS) (by first | omega | (simp; done) | (simp; omega)) rfl rfl (.inl rfl) ?_)
                      rw [g1, g2]
                      refine w_grow rfl rfl (s_call Tryz.call50 rfl (hti2 _) ?_)
                      rintro _ wc16 ⟨rfl, hBc16⟩
                      replace hS := hS.grow hBc16
                      refine ⟨hBc16, ?_⟩
                      refine w_grow rfl rfl (s_call Tryz.call52 rfl (hmi _) ?_)
                      rintro _ wc17 ⟨rfl, hBc17⟩
                      replace hS := hS.grow hBc17
                      refine ⟨hBc17, ?_⟩
                      refine w_pure rfl rfl (s_ixo (i := k)  rfl rfl (by omega) (by first | omega | (simp; done) | (simp; omega)) si_23 ?_)
                      refine w_free rfl rfl (s_mstD [_] (i := i) (j := k) (ofQ (X i k - X i c * (X r k / a))) encR_len  rfl rfl vi_49 hS rfl hl3 (by omega) (by omega) rfl rfl ?_)
                      intro wz18 hS
                      refine w_end ?_
                      repeat (with_reducible first | refine c_seq ?_ | refine c_block ?_ | refine c_skip ?_ | refine x_then ?_ | refine x_block ?_)
                      rw [← map_put_v R3 k (ofQ (X i k - X i c * (X r k / a))) hl3] at hS
                      repeat (with_reducible first | refine c_seq ?_ | refine c_block ?_ | refine c_skip ?_ | refine x_then ?_ | refine x_block ?_)
                      refine c_reg ?_
                      refine l_pure rfl (s_move  h15 ?_)
                      refine l_pure rfl (s_add  rfl rfl (IntWalk.i64_in _ (by omega)) ?_)
                      refine l_pure rfl (s_asg  rfl ?_)
                      refine l_nil ?_
                      repeat (with_reducible first | refine c_seq ?_ | refine c_block ?_ | refine c_skip ?_ | refine x_then ?_ | refine x_block ?_)
                      refine ⟨k + 1, _, rfl, ⟨hkl, by assumption, by assumption, by assumption, by assumption, by assumption, by assumption, by assumption, vi rfl (by omega), _, ?_, ?_, (hR3.put hin k (ofQ (X i k - X i c * (X r k / a)))).congr fun x _ j _ => ?_, hS⟩, by omega⟩
                      · rw [getD_setL _ _ _ hl3, if_neg (fun e => hir e.symm)]; exact hb3
                      · rw [getD_setL _ _ _ hl3, if_neg (fun e => hir e.symm)]; exact hc3
                      · show (if x = i ∧ j = k then ofQ (X i k - X i c * (X r k / a)) else ofQ (zC X r c a i k x j)) = ofQ (zC X r c a i (k + 1) x j)
                        unfold zC
                        by_cases g : x = i ∧ j = k
                        · rw [if_pos g, if_pos (by omega), g.2]
                        · rw [if_neg g]
                          by_cases g2 : x = i ∧ j < k
                          · rw [if_pos g2, if_pos (by omega)]
                          · rw [if_neg g2, if_neg (by omega)]
                    · refine c_no rfl (decide_eq_false (by omega)) ?_
                      repeat (with_reducible first | refine c_seq ?_ | refine c_block ?_ | refine c_skip ?_ | refine x_then ?_ | refine x_block ?_)
                      refine c_exit ?_
                      repeat (with_reducible first | refine x_then_exit ?_ | refine x_block_exit ?_ | refine x_block_pass rfl ?_)
                      repeat (with_reducible first | refine c_seq ?_ | refine c_block ?_ | refine c_skip ?_ | refine x_then ?_ | refine x_block ?_)
                      obtain rfl : m = k := by omega
                      exact ⟨_, rfl, h4, h5, h7, h8, h10, h13, R3, hb3, hc3, hR3, hS.drop (List.sublist_cons_self _ _)⟩
                  clear hS hR3 hl3 hb3 hc3
                  rintro ρ w7 ⟨h4, h5, h7, h8, h10, h13, R3, hb3, hc3, hR3, hS⟩
                  repeat (with_reducible first | refine c_seq ?_ | refine c_block ?_ | refine c_skip ?_ | refine x_then ?_ | refine x_block ?_)
                  refine c_reg ?_
                  refine l_pure rfl (s_move  h13 ?_)
                  refine l_pure rfl (s_add  rfl rfl (IntWalk.i64_in _ (by omega)) ?_)
                  refine l_pure rfl (s_asg  rfl ?_)
                  refine l_nil ?_
                  repeat (with_reducible first | refine c_seq ?_ | refine c_block ?_ | refine c_skip ?_ | refine x_then ?_ | refine x_block ?_)
                  refine ⟨i + 1, _, rfl, ⟨hin, by assumption, by assumption, by assumption, by assumption, by assumption, vi rfl (by omega), R3, hb3, hc3, hR3.congr fun x hx j hj => ?_, hS⟩, by omega⟩
                  show ofQ (zC X r c a i m x j) = ofQ (elF X r c a (i + 1) x j)
                  unfold zC
                  by_cases e : x = i
                  · rw [if_pos ⟨e, hj⟩, e]
                    unfold elF
                    rw [if_neg hir, if_pos (Nat.lt_succ_self _)]
                  · rw [if_neg (fun q => e q.1), hstep x hx j e]
            · refine c_no rfl (decide_eq_false (by omega)) ?_
              repeat (with_reducible first | refine c_seq ?_ | refine c_block ?_ | refine c_skip ?_ | refine x_then ?_ | refine x_block ?_)
              refine c_exit ?_
              repeat (with_reducible first | refine x_then_exit ?_ | refine x_block_exit ?_ | refine x_block_pass rfl ?_)
              repeat (with_reducible first | refine c_seq ?_ | refine c_block ?_ | refine c_skip ?_ | refine x_then ?_ | refine x_block ?_)
              obtain rfl : n = i := by omega
              exact ⟨_, rfl, h4, h5, h7, h8, R3, hR3, hS⟩
          clear hS hR2 hrv
          rintro ρ w6 ⟨h4, h5, h7, h8, R3, hR3, hS⟩
          replace hR3 : MatG R3 n m (qM (rdc n M (c + 1)).M) := hR3.congr fun i hi j _ => by
            show ofQ (elF X r c a n i j) = ofQ ((rdc n M (c + 1)).M i j)
            rw [hyes, elF_elim X r c a hi j]
          rw [← List.nil_append LP, ← mD_app] at hS
          repeat (with_reducible first | refine c_seq ?_ | refine c_block ?_ | refine c_skip ?_ | refine x_then ?_ | refine x_block ?_)
          refine c_reg ?_
          refine l_pure rfl (s_move  h5 ?_)
          refine l_pure rfl (s_move  h8 ?_)
          refine l_heavy rfl (s_bsl (vs := [.int .i64 c])  rfl si_40 rfl (by decide) (by decide) (by decide) (by simp [Value.cells]) rfl hS ?_)
          intro b19 wz20 hS hBz20
          refine l_heavy rfl (s_appl [(c : Int)]  rfl rfl si_40 (by decide) hG hS rfl rfl (fun _ => rfl) (fun u hu => by rw [List.mem_singleton.1 (show u ∈ [Value.int .i64 (c : Int)] from hu)]; rfl) (by first | omega | (simp only [List.length_cons, List.length_nil]; omega)) (by first | omega | (simp only [List.length_cons, List.length_nil]; omega)) ?_)
          intro va21 La21 wa21 hG hS hga21
          refine l_pure rfl (s_asg  rfl ?_)
          refine l_nil ?_
          repeat (with_reducible first | refine c_seq ?_ | refine c_block ?_ | refine c_skip ?_ | refine x_then ?_ | refine x_block ?_)
          rw [← nI_snoc] at hG
          rw [mD_app, List.nil_append] at hS
          repeat (with_reducible first | refine c_seq ?_ | refine c_block ?_ | refine c_skip ?_ | refine x_then ?_ | refine x_block ?_)
          refine c_reg ?_
          refine l_pure rfl (s_move  h7 ?_)
          refine l_pure rfl (s_add  rfl rfl (IntWalk.i64_in _ (by omega)) ?_)
          refine l_pure rfl (s_asg  rfl ?_)
          refine l_nil ?_
          repeat (with_reducible first | refine c_seq ?_ | refine c_block ?_ | refine c_skip ?_ | refine x_then ?_ | refine x_block ?_)
          refine c_reg ?_
          refine l_pure rfl (s_move  h8 ?_)
          refine l_pure rfl (s_add  rfl rfl (IntWalk.i64_in _ (by omega)) ?_)
          refine l_pure rfl (s_asg  rfl ?_)
          refine l_nil ?_
          repeat (with_reducible first | refine c_seq ?_ | refine c_block ?_ | refine c_skip ?_ | refine x_then ?_ | refine x_block ?_)
          exact ⟨c + 1, _, rfl, ⟨hcm, by assumption, vi rfl (by rw [hyes]; simp [← hr]), vi rfl (by omega), _, _, R3, rfl, by rw [hyes]; exact hG, hR3, hS⟩, by omega⟩
        · refine c_yes rfl (decide_eq_true (by omega)) ?_
          repeat (with_reducible first | refine c_seq ?_ | refine c_block ?_ | refine c_skip ?_ | refine x_then ?_ | refine x_block ?_)
          refine c_exit ?_
          repeat (with_reducible first | refine x_then_exit ?_ | refine x_block_exit ?_ | refine x_block_pass rfl ?_)
          repeat (with_reducible first | refine c_seq ?_ | refine c_block ?_ | refine c_skip ?_ | refine x_then ?_ | refine x_block ?_)
          refine c_reg ?_
          refine l_pure rfl (s_move  h8 ?_)
          refine l_pure rfl (s_add  rfl rfl (IntWalk.i64_in _ (by omega)) ?_)
          refine l_pure rfl (s_asg  rfl ?_)
          refine l_nil ?_
          repeat (with_reducible first | refine c_seq ?_ | refine c_block ?_ | refine c_skip ?_ | refine x_then ?_ | refine x_block ?_)
          have e := rstp_no (n := n) (c := c) (M := M) (by rw [← hr, ← hp]; exact hpn)
          exact ⟨c + 1, _, rfl, ⟨hcm, by assumption, by rw [e, ← hr]; assumption, vi rfl (by omega), _, LP, R, by assumption, by rw [e]; exact hG, by rw [e]; exact hR, hS⟩, by omega⟩
      · have htl0 := tab_len m (qM (rdc n M c).M 0)
        repeat (with_reducible first | refine c_seq ?_ | refine c_block ?_ | refine c_skip ?_ | refine x_then ?_ | refine x_block ?_)
        refine c_reg ?_
        refine l_pure rfl (s_move  h7 ?_)
        refine l_pure rfl (s_move  h4 ?_)
        refine l_pure rfl (s_leno  rfl ⟨_, Tryz.underlying22⟩ ?_)
        refine l_pure rfl (s_lss  rfl rfl ?_)
        refine l_pure rfl (s_move  rfl ?_)
        refine l_pure (gd_yes 34 (by kernel_rfl) rfl (decide_eq_true (by omega))) (s_move  h8 ?_)
        refine l_pure (gd_yes 34 (by kernel_rfl) rfl (decide_eq_true (by omega))) (s_move  h4 ?_)
        refine l_pure (gd_yes 34 (by kernel_rfl) rfl (decide_eq_true (by omega))) (s_ixo (i := 0)  rfl rfl (by omega) (by first | omega | (simp; done) | (simp; omega)) si_22 ?_)
        refine l_read (gd_yes 34 (by kernel_rfl) rfl (decide_eq_true (by omega))) (s_mrowD []  rfl vi_23 hS (by omega) (mC_row hl0) ?_)
        refine l_pure (gd_yes 34 (by kernel_rfl) rfl (decide_eq_true (by omega))) (s_lenr  rfl (hR.slD [] hS encR_len (by omega : 0 < n)) ⟨_, Tryz.underlying23⟩ ?_)
        refine l_pure (gd_yes 34 (by kernel_rfl) rfl (decide_eq_true (by omega))) (s_lss  rfl rfl ?_)
        refine l_pure rfl (s_pick (vb rfl (decide_eq_true (by omega))) rfl ?_)
        refine l_nil ?_
        repeat (with_reducible first | refine c_seq ?_ | refine c_block ?_ | refine c_skip ?_ | refine x_then ?_ | refine x_block ?_)
        refine c_no rfl (decide_eq_false (by omega)) ?_
        repeat (with_reducible first | refine c_seq ?_ | refine c_block ?_ | refine c_skip ?_ | refine x_then ?_ | refine x_block ?_)
        refine c_exit ?_
        repeat (with_reducible first | refine x_then_exit ?_ | refine x_block_exit ?_ | refine x_block_pass rfl ?_)
        repeat (with_reducible first | refine c_seq ?_ | refine c_block ?_ | refine c_skip ?_ | refine x_then ?_ | refine x_block ?_)
        obtain rfl : m = c := by omega
        exact ⟨_, rfl, h4, _, LP, R, h5, hG, hR, hS⟩
    · repeat (with_reducible first | refine c_seq ?_ | refine c_block ?_ | refine c_skip ?_ | refine x_then ?_ | refine x_block ?_)
      refine c_reg ?_
      refine l_pure rfl (s_move  h7 ?_)
      refine l_pure rfl (s_move  h4 ?_)
      refine l_pure rfl (s_leno  rfl ⟨_, Tryz.underlying22⟩ ?_)
      refine l_pure rfl (s_lss  rfl rfl ?_)
      refine l_pure rfl (s_move  rfl ?_)
      refine l_no (gno_yes 34 (by kernel_rfl) rfl (decide_eq_false (by omega))) ?_
      refine l_no (gno_yes 34 (by kernel_rfl) rfl (decide_eq_false (by omega))) ?_
      refine l_no (gno_yes 34 (by kernel_rfl) rfl (decide_eq_false (by omega))) ?_
      refine l_no (gno_yes 34 (by kernel_rfl) rfl (decide_eq_false (by omega))) ?_
      refine l_no (gno_yes 34 (by kernel_rfl) rfl (decide_eq_false (by omega))) ?_
      refine l_no (gno_yes 34 (by kernel_rfl) rfl (decide_eq_false (by omega))) ?_
      refine l_pure rfl (s_pick (vb rfl (decide_eq_false (by omega))) rfl ?_)
      refine l_nil ?_
      repeat (with_reducible first | refine c_seq ?_ | refine c_block ?_ | refine c_skip ?_ | refine x_then ?_ | refine x_block ?_)
      refine c_no rfl (rfl) ?_
      repeat (with_reducible first | refine c_seq ?_ | refine c_block ?_ | refine c_skip ?_ | refine x_then ?_ | refine x_block ?_)
      refine c_exit ?_
      repeat (with_reducible first | refine x_then_exit ?_ | refine x_block_exit ?_ | refine x_block_pass rfl ?_)
      repeat (with_reducible first | refine c_seq ?_ | refine c_block ?_ | refine c_skip ?_ | refine x_then ?_ | refine x_block ?_)
      have e : rdc n M m = rdc n M c := by
        have := rdc_full (n := n) (A := M) (c := c) (by omega) (m - c)
        rwa [show c + (m - c) = m by omega] at this
      rw [e]
      exact ⟨_, rfl, h4, _, LP, R, h5, hG, hR, hS⟩
  clear hS
  rintro ρ w3 ⟨h4, vp, LP, R, h5, hG, hR, hS⟩
  repeat (with_reducible first | refine c_seq ?_ | refine c_block ?_ | refine c_skip ?_ | refine x_then ?_ | refine x_block ?_)
  have hmt := hR.mtsD [] hS encR_len hcap1 hcap2
  have hS2 := hS
  rw [← List.nil_append LP, ← mD_app] at hS2
  have hsl := hG.sl hS2 (fun _ => rfl)
  repeat (with_reducible first | refine c_seq ?_ | refine c_block ?_ | refine c_skip ?_ | refine x_then ?_ | refine x_block ?_)
  refine c_reg ?_
  refine l_pure rfl (s_move  h4 ?_)
  refine l_pure rfl (s_move  h5 ?_)
  refine l_pure rfl (s_asg  rfl ?_)
  refine l_pure rfl (s_asg  rfl ?_)
  refine l_nil ?_
  repeat (with_reducible first | refine c_seq ?_ | refine c_block ?_ | refine c_skip ?_ | refine x_then ?_ | refine x_block ?_)
  refine c_ret ?_
  repeat (with_reducible first | refine x_then_ret ?_ | refine x_block_ret ?_)
  refine r_two rfl rfl rfl ?_
  exact ⟨⟨_, _, _, rfl, hmt, hsl⟩, hS.below⟩
end Go.Proofs.YtblfipdfklpmmaaGreatDoor
namespace Go.Proofs.YtblfipdfklpmmaaGreatDoor
open Go Go.RowKit Go.Sx
def q1 : Rat := ((1 : Int) : Rat)
def q2 : Rat := ((2 : Int) : Rat)
def q4 : Rat := ((4 : Int) : Rat)
def qm2 : Rat := ((-2 : Int) : Rat)
def Aw : List (List RR) := [[ofQ q1, ofQ q2], [ofQ q2, ofQ q4]]
def Bw : List RR := [zRR, zRR]
def aMx : Mx := fun i j => if j = 0 then (if i = 0 then q1 else q2) else if j = 1 then (if i = 0 then q2 else q4) else 0
theorem two_cases {i : Nat} (h : i < 2) : i = 0 ∨ i = 1 := by omega
theorem three_cases {i : Nat} (h : i < 3) : i = 0 ∨ i = 1 ∨ i = 2 := by omega
theorem RM_Aw : ∀ i, i < 2 → ∀ j, j < 2 → RM Aw i j = aMx i j := by
  intro i hi j hj
  rcases two_cases hi with rfl | rfl <;> rcases two_cases hj with rfl | rfl <;> exact toQ_ofQ _
theorem AUG_Aw : ∀ i, i < 2 → ∀ j, j < 3 → AUG Aw Bw i j = aMx i j := by
  intro i hi j hj
  rcases three_cases hj with rfl | rfl | rfl
  · show RM Aw i 0 = _; exact RM_Aw i hi 0 (by decide)
  · show RM Aw i 1 = _; exact RM_Aw i hi 1 (by decide)
  · show VX Bw i = 0
    rcases two_cases hi with rfl | rfl <;> exact toQ_zRR
theorem shp_Aw : shpE Aw = 0 := rfl
theorem slE_Aw : slE Aw Bw = 5 := by
  have h := (rdc_cols (n := 2) (m := 3) AUG_Aw 2 (by decide)).2.1
  have h2 : (rdc 2 aMx 2).P.length = 1 := by decide +kernel
  unfold slE slD
  show (if sqE Aw ≠ 0 then _ else if (2 : Nat) ≠ 2 then _ else if (rdc 2 (AUG Aw Bw) 2).P.length = 2 then _ else _) = _
  rw [if_neg (by decide), if_neg (by decide), h, h2]; rfl
theorem krL_Aw : krL Aw = [[ofQ qm2, ofQ q1]] := by
  obtain ⟨h1, h2, _⟩ := rdc_cols (n := 2) (m := 2) RM_Aw 2 (by decide)
  have hP : (rdc 2 aMx 2).P = [0] := by decide +kernel
  have hM : (rdc 2 aMx 2).M 0 1 = q2 := by decide +kernel
  have e : krL Aw = (frL (rdA Aw).P 2).map (krRow (rdA Aw).M (rdA Aw).P 2) := if_pos shp_Aw
  rw [e]
  show (frL (rdc 2 (RM Aw) 2).P 2).map (krRow (rdc 2 (RM Aw) 2).M (rdc 2 (RM Aw) 2).P 2) = _
  have hP2 : (rdc 2 (RM Aw) 2).P = [0] := by rw [← hP]; exact h2
  have hM2 : (rdc 2 (RM Aw) 2).M 0 1 = q2 := by rw [h1 0 (by decide) 1 (by decide), hM]
  rw [hP2]
  show [[ofQ (kv [0] _ 1 0), ofQ (kv [0] _ 1 1)]] = _
  have k0 : kv [0] (rdc 2 (RM Aw) 2).M 1 0 = qm2 := by
    show - (rdc 2 (RM Aw) 2).M 0 1 = _
    rw [hM2]; decide +kernel
  have k1 : kv [0] (rdc 2 (RM Aw) 2).M 1 1 = q1 := rfl
  rw [k0, k1]
theorem Aw_RB : RBM 1 Aw := by
  intro a ha r hr
  have hq : ∀ z : Int, z.natAbs < 256 → Lr (ofQ (z : Rat)) ≤ 1 := fun z hz => by rw [Lr_ofQ]; exact L_int _ (by simpa using hz) (by decide)
  simp only [Aw, List.mem_cons, List.not_mem_nil, or_false] at ha
  rcases ha with rfl | rfl
  · simp only [List.mem_cons, List.not_mem_nil, or_false] at hr
    rcases hr with rfl | rfl
    · exact hq 1 (by decide)
    · exact hq 2 (by decide)
  · simp only [List.mem_cons, List.not_mem_nil, or_false] at hr
    rcases hr with rfl | rfl
    · exact hq 2 (by decide)
    · exact hq 4 (by decide)
theorem Bw_RB : RB 1 Bw := fun r hr => by
  simp only [Bw, List.mem_cons, List.not_mem_nil, or_false] at hr
  rcases hr with rfl | rfl <;> exact Nat.le_refl _
theorem ex_mts {w0 w : World} {b12 b11 b8 : Nat} (hS : St w0 w [(b12, 23, ([.slice (some ⟨b8, 0, none⟩) 2 2, .slice (some ⟨b11, 0, none⟩) 2 2] : List Value).flatMap enV), (b11, 49, [ofQ q2, ofQ q4].flatMap encR), (b8, 49, [ofQ q1, ofQ q2].flatMap encR)]) :
    Mts encR 3 w (.slice (some ⟨b12, 0, none⟩) 2 2) Aw [.slice (some ⟨b8, 0, none⟩) 2 2, .slice (some ⟨b11, 0, none⟩) 2 2] := by
  refine ⟨rfl, hS.sle (k := 0) (n := 2) (cap := 2) rfl (fun _ => rfl) (Nat.le_refl _) (Nat.le_refl _) (by decide), fun i hi => ?_⟩
  rcases two_cases hi with rfl | rfl
  · exact hS.sle (k := 2) (L := [ofQ q1, ofQ q2]) (n := 2) (cap := 2) rfl encR_len (Nat.le_refl _) (Nat.le_refl _) (by decide)
  · exact hS.sle (k := 1) (L := [ofQ q2, ofQ q4]) (n := 2) (cap := 2) rfl encR_len (Nat.le_refl _) (Nat.le_refl _) (by decide)
set_option maxHeartbeats 2000000 in
theorem Lawake_ok (w : World) :
    Ret Tryz.prog 11 #[] w fun v w' => v = .bool true ∧ Below w.heap.size w w' := by
  have hM : MX = 1099511627776 := rfl
  have hS := St.init w
  refine enter Tryz.func11 rfl Tryz.ntmps11 rfl ?_
  repeat (with_reducible first | refine c_seq ?_ | refine c_block ?_ | refine c_skip ?_ | refine x_then ?_ | refine x_block ?_)
  refine c_reg ?_
  refine l_pure rfl (s_asg  rfl ?_)
  refine l_nil ?_
  repeat (with_reducible first | refine c_seq ?_ | refine c_block ?_ | refine c_skip ?_ | refine x_then ?_ | refine x_block ?_)
  refine c_reg ?_
  refine l_heavy rfl (s_call Tryz.call29 rfl (QInt_ok 1 _ (by decide) (by decide)) ?_)
  rintro r wa ⟨rfl, hBa⟩
  replace hS := hS.grow hBa
  refine l_heavy rfl (s_call Tryz.call29 rfl (QInt_ok 2 _ (by decide) (by decide)) ?_)
  rintro r wb ⟨rfl, hBb⟩
  replace hS := hS.grow hBb
  refine l_heavy rfl (s_bsl (vs := [aggR (ofQ q1), aggR (ofQ q2)])  rfl si_23 rfl (by decide) (by decide) (by decide) (by simp [Value.cells, aggR]) rfl hS ?_)
  intro b8 wz1 hS hBz1
  refine l_heavy rfl (s_call Tryz.call29 rfl (QInt_ok 2 _ (by decide) (by decide)) ?_)
  rintro r wc ⟨rfl, hBc⟩
  replace hS := hS.grow hBc
  refine l_heavy rfl (s_call Tryz.call29 rfl (QInt_ok 4 _ (by decide) (by decide)) ?_)
  rintro r wd ⟨rfl, hBd⟩
  replace hS := hS.grow hBd
  refine l_heavy rfl (s_bsl (vs := [aggR (ofQ q2), aggR (ofQ q4)])  rfl si_23 rfl (by decide) (by decide) (by decide) (by simp [Value.cells, aggR]) rfl hS ?_)
  intro b11 wz2 hS hBz2
  refine l_heavy rfl (s_bsl (vs := [.slice (some ⟨b8, 0, none⟩) 2 2, .slice (some ⟨b11, 0, none⟩) 2 2])  rfl si_22 rfl (by decide) (by decide) (by decide) (by simp [Value.cells]) rfl hS ?_)
  intro b12 wz3 hS hBz3
  refine l_pure rfl (s_asg  rfl ?_)
  refine l_nil ?_
  repeat (with_reducible first | refine c_seq ?_ | refine c_block ?_ | refine c_skip ?_ | refine x_then ?_ | refine x_block ?_)
  replace hS : St w _ [(b12, 23, ([.slice (some ⟨b8, 0, none⟩) 2 2, .slice (some ⟨b11, 0, none⟩) 2 2] : List Value).flatMap enV), (b11, 49, [ofQ q2, ofQ q4].flatMap encR), (b8, 49, [ofQ q1, ofQ q2].flatMap encR)] := hS
  have hm := ex_mts hS
  repeat (with_reducible first | refine c_seq ?_ | refine c_block ?_ | refine c_skip ?_ | refine x_then ?_ | refine x_block ?_)
  refine c_reg ?_
  refine l_pure rfl (s_move  rfl ?_)
  refine l_pure rfl (s_build  rfl bz_49 ?_)
  refine l_pure rfl (s_build  rfl bz_49 ?_)
  refine l_heavy rfl (s_bsl (vs := [aggR zRR, aggR zRR])  rfl si_23 rfl (by decide) (by decide) (by decide) (by simp [Value.cells, aggR]) rfl hS ?_)
  intro b17 wz4 hS hBz4
  replace hS : St w _ ((b17, 49, Bw.flatMap encR) :: [(b12, 23, ([.slice (some ⟨b8, 0, none⟩) 2 2, .slice (some ⟨b11, 0, none⟩) 2 2] : List Value).flatMap enV), (b11, 49, [ofQ q2, ofQ q4].flatMap encR), (b8, 49, [ofQ q1, ofQ q2].flatMap encR)]) := hS
  have hm2 := ex_mts (hS.drop (List.sublist_cons_self _ _))
  have hb := hS.sle (k := 0) (L := Bw) (n := 2) (cap := 2) rfl encR_len (Nat.le_refl _) (Nat.le_refl _) (by decide)
  refine l_heavy rfl (s_call Tryz.call12 rfl (lSolve_ok _ _ Aw _ Bw 1 _ hm2 hb Aw_RB Bw_RB (by decide)) ?_)
  rintro r w3 ⟨⟨vx, rfl, -⟩, hB3⟩
  rw [slE_Aw]
  replace hS := hS.grow hB3
  replace hm2 := hm2.below hB3
  refine l_pure rfl (s_move  rfl ?_)
  refine l_pure rfl (s_ext  rfl rfl ?_)
  refine l_pure rfl (s_ext  rfl rfl ?_)
  refine l_pure rfl (s_asg  rfl ?_)
  refine l_pure rfl (s_asg  rfl ?_)
  refine l_nil ?_
  repeat (with_reducible first | refine c_seq ?_ | refine c_block ?_ | refine c_skip ?_ | refine x_then ?_ | refine x_block ?_)
  refine c_reg ?_
  refine l_pure rfl (s_move  rfl ?_)
  refine l_heavy rfl (s_call Tryz.call15 rfl (lKernel_ok _ Aw _ 1 _ hm2 Aw_RB (by decide)) ?_)
  rintro r w4 ⟨⟨vk, vks, rfl, hk⟩, hB4⟩
  rw [krL_Aw] at hk
  rw [shp_Aw]
  replace hS := hS.grow hB4
  have hW := hS.below
  clear hm hm2 hb
  replace hS := St.init w4
  have hkl := hk.len
  have hk0 := hk.row 0 (by decide)
  refine l_pure rfl (s_move  rfl ?_)
  refine l_pure rfl (s_ext  rfl rfl ?_)
  refine l_pure rfl (s_ext  rfl rfl ?_)
  refine l_pure rfl (s_asg  rfl ?_)
  refine l_pure rfl (s_asg  rfl ?_)
  refine l_nil ?_
  repeat (with_reducible first | refine c_seq ?_ | refine c_block ?_ | refine c_skip ?_ | refine x_then ?_ | refine x_block ?_)
  refine c_drawM [0, 1, 3, 7, 15, 31, 63, 127, 255, 511, 1023, 2047, 4095, 8191, 16383, 32767, 65535, 131071, 262143, 524287, 1048575, 2097151, 4194303, 8388607, 524287, 33554431, 67108863, 134217727, 268435455, 536870911, 1073741823, 2147483647, 4294967295, 268435455, 17179869183, 34359738367, 68719476735] [(0, .pure), (1, .pure), (2, .pure), (3, .pure), (4, .pure), (5, .pure), (6, .pure), (7, .pure), (8, .pure), (9, .pure), (10, .pure), (11, .pure), (12, .pure), (13, .pure), (14, .read), (15, .pure), (16, .pure), (17, .pure), (18, .pure), (19, .pure), (20, .pure), (21, .read), (22, .pure), (23, .read), (24, .grow), (25, .pure), (26, .pure), (27, .pure), (28, .pure), (29, .pure), (30, .read), (31, .pure), (32, .read), (33, .grow), (34, .pure), (35, .pure), (36, .pure)] (by kernel_rfl) (by kernel_rfl) hS ?_
  intro wz5 hS hBz5
  refine w_pure rfl rfl (s_move  rfl ?_)
  refine w_pure rfl rfl (s_eql  rfl rfl ?_)
  refine w_pure rfl rfl (s_move  rfl ?_)
  refine w_pure rfl (gd_yes 28 (by kernel_rfl) rfl (decide_eq_true rfl)) (s_move  rfl ?_)
  refine w_pure rfl (gd_yes 28 (by kernel_rfl) rfl (decide_eq_true rfl)) (s_eql  rfl rfl ?_)
  refine w_pure rfl rfl (s_pick (vb rfl (decide_eq_true rfl)) rfl ?_)
  refine w_pure rfl rfl (s_move  rfl ?_)
  refine w_pure rfl (gd_yes 32 (by kernel_rfl) rfl (decide_eq_true rfl)) (s_move  rfl ?_)
  refine w_pure rfl (gd_yes 32 (by kernel_rfl) rfl (decide_eq_true rfl)) (s_lenr  rfl (hk.sl.below hS.below) ⟨_, Tryz.underlying22⟩ ?_)
  refine w_pure rfl (gd_yes 32 (by kernel_rfl) rfl (decide_eq_true rfl)) (s_eql  rfl rfl ?_)
  refine w_pure rfl rfl (s_pick (vb rfl (decide_eq_true rfl)) rfl ?_)
  refine w_pure rfl rfl (s_move  rfl ?_)
  refine w_pure rfl (gd_yes 37 (by kernel_rfl) rfl (decide_eq_true (by rw [hkl]; rfl))) (s_move  rfl ?_)
  refine w_pure rfl (gd_yes 37 (by kernel_rfl) rfl (decide_eq_true (by rw [hkl]; rfl))) (s_ixr (i := 0)  rfl rfl (hk.sl.below hS.below) (by omega) (by rw [hkl]; exact Nat.one_pos) si_22 ?_)
  refine w_read rfl (gd_yes 37 (by kernel_rfl) rfl (decide_eq_true (by rw [hkl]; rfl))) (s_lde (i := 0) undef  rfl vi_23 (hk.sl.below hS.below) (by rw [hkl]; exact Nat.one_pos) rfl rfl (.inr rfl) ?_)
  refine w_pure rfl (gd_yes 37 (by kernel_rfl) rfl (decide_eq_true (by rw [hkl]; rfl))) (s_lenr  rfl (hk0.below hS.below) ⟨_, Tryz.underlying23⟩ ?_)
  refine w_pure rfl (gd_yes 37 (by kernel_rfl) rfl (decide_eq_true (by rw [hkl]; rfl))) (s_eql  rfl rfl ?_)
  refine w_pure rfl rfl (s_pick (vb rfl (decide_eq_true (by rw [hkl]; rfl))) rfl ?_)
  refine w_pure rfl rfl (s_move  rfl ?_)
  refine w_pure rfl (gd_yes 44 (by kernel_rfl) rfl (decide_eq_true rfl)) (s_move  rfl ?_)
  refine w_pure rfl (gd_yes 44 (by kernel_rfl) rfl (decide_eq_true rfl)) (s_ixr (i := 0)  rfl rfl (hk.sl.below hS.below) (by omega) (by rw [hkl]; exact Nat.one_pos) si_22 ?_)
  refine w_read rfl (gd_yes 44 (by kernel_rfl) rfl (decide_eq_true rfl)) (s_lde (i := 0) undef  rfl vi_23 (hk.sl.below hS.below) (by rw [hkl]; exact Nat.one_pos) rfl rfl (.inr rfl) ?_)
  refine w_pure rfl (gd_yes 44 (by kernel_rfl) rfl (decide_eq_true rfl)) (s_ixr (i := 0)  rfl rfl (hk0.below hS.below) (by omega) (Nat.le_of_ble_eq_true rfl) si_23 ?_)
  refine w_read rfl (gd_yes 44 (by kernel_rfl) rfl (decide_eq_true rfl)) (s_lde (i := 0) zRR  rfl vi_49 (hk0.below hS.below) (Nat.le_of_ble_eq_true rfl) rfl rfl (.inl rfl) ?_)
  refine w_grow rfl (gd_yes 44 (by kernel_rfl) rfl (decide_eq_true rfl)) (s_call Tryz.call29 rfl (QInt_ok (-2) _ (by decide) (by decide)) ?_)
  rintro r we0 ⟨rfl, hBe0⟩
  refine ⟨hBe0, ?_⟩
  replace hS := hS.grow hBe0
  refine w_pure rfl (gd_yes 44 (by kernel_rfl) rfl (decide_eq_true rfl)) (s_eqR  rfl rfl ?_)
  refine w_pure rfl rfl (s_pick (vb rfl (decide_eq_true rfl)) rfl ?_)
  refine w_pure rfl rfl (s_move  rfl ?_)
  refine w_pure rfl (gd_yes 53 (by kernel_rfl) rfl (decide_eq_true rfl)) (s_move  rfl ?_)
  refine w_pure rfl (gd_yes 53 (by kernel_rfl) rfl (decide_eq_true rfl)) (s_ixr (i := 0)  rfl rfl (hk.sl.below hS.below) (by omega) (by rw [hkl]; exact Nat.one_pos) si_22 ?_)
  refine w_read rfl (gd_yes 53 (by kernel_rfl) rfl (decide_eq_true rfl)) (s_lde (i := 0) undef  rfl vi_23 (hk.sl.below hS.below) (by rw [hkl]; exact Nat.one_pos) rfl rfl (.inr rfl) ?_)
  refine w_pure rfl (gd_yes 53 (by kernel_rfl) rfl (decide_eq_true rfl)) (s_ixr (i := 1)  rfl rfl (hk0.below hS.below) (by omega) (Nat.le_of_ble_eq_true rfl) si_23 ?_)
  refine w_read rfl (gd_yes 53 (by kernel_rfl) rfl (decide_eq_true rfl)) (s_lde (i := 1) zRR  rfl vi_49 (hk0.below hS.below) (Nat.le_of_ble_eq_true rfl) rfl rfl (.inl rfl) ?_)
  refine w_grow rfl (gd_yes 53 (by kernel_rfl) rfl (decide_eq_true rfl)) (s_call Tryz.call29 rfl (QInt_ok 1 _ (by decide) (by decide)) ?_)
  rintro r we1 ⟨rfl, hBe1⟩
  refine ⟨hBe1, ?_⟩
  replace hS := hS.grow hBe1
  refine w_pure rfl (gd_yes 53 (by kernel_rfl) rfl (decide_eq_true rfl)) (s_eqR  rfl rfl ?_)
  refine w_pure rfl rfl (s_pick (vb rfl (decide_eq_true rfl)) rfl ?_)
  refine w_pure rfl rfl (s_asg  rfl ?_)
  refine w_end ?_
  repeat (with_reducible first | refine c_seq ?_ | refine c_block ?_ | refine c_skip ?_ | refine x_then ?_ | refine x_block ?_)
  refine c_ret ?_
  repeat (with_reducible first | refine x_then_ret ?_ | refine x_block_ret ?_)
  refine r_one rfl rfl ?_
  exact ⟨vb rfl (decide_eq_true rfl), hW.trans (hS.below.mono hW.size)⟩
end Go.Proofs.YtblfipdfklpmmaaGreatDoor
namespace Go.Proofs.YtblfipdfklpmmaaGreatDoor
open Go Go.RowKit Go.Sx
def fewA (A : List (List RR)) : Bool := decide ((A.length : Int) ≤ 5) && A.all fun r => decide ((r.length : Int) ≤ 5) && r.all few
theorem fewA_B {A : List (List RR)} (h : fewA A = true) : A.length ≤ 5 ∧ RBM 24 A ∧ ∀ a ∈ A, a.length ≤ 5 := by
  unfold fewA at h
  rw [Bool.and_eq_true, decide_eq_true_eq] at h
  refine ⟨by omega, fun a ha r hr => ?_, fun a ha => ?_⟩
  · have := List.all_eq_true.1 h.2 a ha
    rw [Bool.and_eq_true] at this
    exact few_Lr (List.all_eq_true.1 this.2 r hr)
  · have := List.all_eq_true.1 h.2 a ha
    rw [Bool.and_eq_true, decide_eq_true_eq] at this
    omega
theorem RB_few {A : List RR} (h : A.all few = true) : RB 24 A := fun r hr => few_Lr (List.all_eq_true.1 h r hr)
theorem FewRows_ok (v : Value) (A : List (List RR)) (vs : List Value) (w : World) (hA : Mts encR 3 w v A vs) :
    Ret Tryz.prog 9 #[v, .int .i64 5] w fun r w' => r = .bool (fewA A) ∧ Below w.heap.size w w' := by
  have hS := St.init w
  have hmx := hA.sl.maxLen
  have hlen := hA.len
  refine enter Tryz.func9 rfl Tryz.ntmps9 rfl ?_
  repeat (with_reducible first | refine c_seq ?_ | refine c_block ?_ | refine c_skip ?_ | refine x_then ?_ | refine x_block ?_)
  refine c_reg ?_
  refine l_pure rfl (s_asg  rfl ?_)
  refine l_nil ?_
  repeat (with_reducible first | refine c_seq ?_ | refine c_block ?_ | refine c_skip ?_ | refine x_then ?_ | refine x_block ?_)
  refine c_reg ?_
  refine l_pure rfl (s_move  rfl ?_)
  refine l_pure rfl (s_lenr  rfl (hA.sl.below hS.below) ⟨_, Tryz.underlying22⟩ ?_)
  refine l_pure rfl (s_move  rfl ?_)
  refine l_pure rfl (s_gtr  rfl rfl ?_)
  refine l_nil ?_
  repeat (with_reducible first | refine c_seq ?_ | refine c_block ?_ | refine c_skip ?_ | refine x_then ?_ | refine x_block ?_)
  by_cases h0 : (A.length : Int) ≤ 5
  · have e1 : fewA A = A.all fun r => decide ((r.length : Int) ≤ 5) && r.all few := by unfold fewA; rw [decide_eq_true h0]; rfl
    rw [e1]
    refine c_no rfl (decide_eq_false (by omega)) ?_
    repeat (with_reducible first | refine c_seq ?_ | refine c_block ?_ | refine c_skip ?_ | refine x_then ?_ | refine x_block ?_)
    refine c_reg ?_
    refine l_pure rfl (s_move  rfl ?_)
    refine l_pure rfl (s_lenr  rfl (hA.sl.below hS.below) ⟨_, Tryz.underlying22⟩ ?_)
    refine l_pure rfl (s_move  rfl ?_)
    refine l_nil ?_
    repeat (with_reducible first | refine c_seq ?_ | refine c_block ?_ | refine c_skip ?_ | refine x_then ?_ | refine x_block ?_)
    refine c_loop (σ := Nat) (fun i ρ w' => i ≤ A.length ∧ (A.take i).all (fun r => decide ((r.length : Int) ≤ 5) && r.all few) = true ∧ ρ 1 = .int .i64 5 ∧ ρ 11 = v ∧ ρ 12 = .int .i64 A.length ∧ ρ 13 = .int .i64 i ∧ St w w' []) (fun i => A.length - i) 0
      ⟨Nat.zero_le _, by simp, rfl, rfl, vi rfl (by omega), rfl, hS⟩ ?_
    clear hS
    rintro i ρ w2 ⟨hi, hall, h1, h11, h12, h13, hS⟩
    repeat (with_reducible first | refine c_seq ?_ | refine c_block ?_ | refine c_skip ?_ | refine x_then ?_ | refine x_block ?_)
    refine c_reg ?_
    refine l_pure rfl (s_lss  h13 h12 ?_)
    refine l_nil ?_
    repeat (with_reducible first | refine c_seq ?_ | refine c_block ?_ | refine c_skip ?_ | refine x_then ?_ | refine x_block ?_)
    by_cases hlt : i < A.length
    · refine c_yes rfl (decide_eq_true (by omega)) ?_
      repeat (with_reducible first | refine c_seq ?_ | refine c_block ?_ | refine c_skip ?_ | refine x_then ?_ | refine x_block ?_)
      have hri := hA.row i hlt
      obtain ⟨st1, st2⟩ := all_step (fun r : List RR => decide ((r.length : Int) ≤ 5) && r.all few) A [] hlt hall
      repeat (with_reducible first | refine c_seq ?_ | refine c_block ?_ | refine c_skip ?_ | refine x_then ?_ | refine x_block ?_)
      refine c_reg ?_
      refine l_pure rfl (s_ixr (i := i)  h11 h13 (hA.sl.below hS.below) (by omega) (by first | omega | (simp; done) | (simp; omega)) si_22 ?_)
      refine l_read rfl (s_lde (i := i) undef  rfl vi_23 (hA.sl.below hS.below) (by first | omega | (simp; done) | (simp; omega)) rfl rfl (.inr rfl) ?_)
      refine l_pure rfl (s_asg  rfl ?_)
      refine l_nil ?_
      repeat (with_reducible first | refine c_seq ?_ | refine c_block ?_ | refine c_skip ?_ | refine x_then ?_ | refine x_block ?_)
      refine c_reg ?_
      refine l_pure rfl (s_move  rfl ?_)
      refine l_pure rfl (s_move  h1 ?_)
      refine l_heavy rfl (s_call Tryz.call10 rfl (FewRats_ok _ (A.getD i []) 5 _ (hri.below hS.below)) ?_)
      rintro _ wc1 ⟨rfl, hBc1⟩
      replace hS := hS.grow hBc1
      refine l_pure rfl (s_not  rfl ?_)
      refine l_nil ?_
      repeat (with_reducible first | refine c_seq ?_ | refine c_block ?_ | refine c_skip ?_ | refine x_then ?_ | refine x_block ?_)
      cases hf : decide (((A.getD i []).length : Int) ≤ 5) && (A.getD i []).all few with
      | true =>
        refine c_no rfl (rfl) ?_
        repeat (with_reducible first | refine c_seq ?_ | refine c_block ?_ | refine c_skip ?_ | refine x_then ?_ | refine x_block ?_)
        refine c_reg ?_
        refine l_pure rfl (s_add  h13 rfl (IntWalk.i64_in _ (by omega)) ?_)
        refine l_pure rfl (s_move  rfl ?_)
        refine l_nil ?_
        repeat (with_reducible first | refine c_seq ?_ | refine c_block ?_ | refine c_skip ?_ | refine x_then ?_ | refine x_block ?_)
        exact ⟨i + 1, _, rfl, ⟨hlt, st1 hf, by assumption, by assumption, by assumption, vi rfl (by omega), hS⟩, by omega⟩
      | false =>
        rw [st2 hf]
        refine c_yes rfl (rfl) ?_
        repeat (with_reducible first | refine c_seq ?_ | refine c_block ?_ | refine c_skip ?_ | refine x_then ?_ | refine x_block ?_)
        refine c_reg ?_
        refine l_pure rfl (s_asg  rfl ?_)
        refine l_nil ?_
        repeat (with_reducible first | refine c_seq ?_ | refine c_block ?_ | refine c_skip ?_ | refine x_then ?_ | refine x_block ?_)
        refine c_ret ?_
        repeat (with_reducible first | refine x_then_ret ?_ | refine x_block_ret ?_)
        refine r_one rfl rfl ?_
        exact ⟨rfl, hS.below⟩
    · refine c_no rfl (decide_eq_false (by omega)) ?_
      repeat (with_reducible first | refine c_seq ?_ | refine c_block ?_ | refine c_skip ?_ | refine x_then ?_ | refine x_block ?_)
      refine c_exit ?_
      repeat (with_reducible first | refine x_then_exit ?_ | refine x_block_exit ?_ | refine x_block_pass rfl ?_)
      repeat (with_reducible first | refine c_seq ?_ | refine c_block ?_ | refine c_skip ?_ | refine x_then ?_ | refine x_block ?_)
      obtain rfl : i = A.length := by omega
      rw [List.take_length] at hall
      rw [hall]
      repeat (with_reducible first | refine c_seq ?_ | refine c_block ?_ | refine c_skip ?_ | refine x_then ?_ | refine x_block ?_)
      refine c_reg ?_
      refine l_pure rfl (s_asg  rfl ?_)
      refine l_nil ?_
      repeat (with_reducible first | refine c_seq ?_ | refine c_block ?_ | refine c_skip ?_ | refine x_then ?_ | refine x_block ?_)
      refine c_ret ?_
      repeat (with_reducible first | refine x_then_ret ?_ | refine x_block_ret ?_)
      refine r_one rfl rfl ?_
      exact ⟨rfl, hS.below⟩
  · have e1 : fewA A = false := by unfold fewA; rw [decide_eq_false h0]; rfl
    rw [e1]
    refine c_yes rfl (decide_eq_true (by omega)) ?_
    repeat (with_reducible first | refine c_seq ?_ | refine c_block ?_ | refine c_skip ?_ | refine x_then ?_ | refine x_block ?_)
    refine c_reg ?_
    refine l_pure rfl (s_asg  rfl ?_)
    refine l_nil ?_
    repeat (with_reducible first | refine c_seq ?_ | refine c_block ?_ | refine c_skip ?_ | refine x_then ?_ | refine x_block ?_)
    refine c_ret ?_
    repeat (with_reducible first | refine x_then_ret ?_ | refine x_block_ret ?_)
    refine r_one rfl rfl ?_
    exact ⟨rfl, hS.below⟩
theorem SameRats_eq (va vb_ : Value) (A : List RR) (w : World) (ha : Sl encR 3 w va A) (hb : Sl encR 3 w vb_ A) :
    Ret Tryz.prog 14 #[va, vb_] w fun v w' => v = .bool true ∧ Below w.heap.size w w' :=
  (SameRats_ok va vb_ A A w ha hb).mono fun _ _ ⟨h, hB⟩ => ⟨by rw [h, decide_eq_true rfl], hB⟩
theorem SameRows_eq (va vb_ : Value) (A : List (List RR)) (vs us : List Value) (w : World) (hA : Mts encR 3 w va A vs) (hB : Mts encR 3 w vb_ A us) :
    Ret Tryz.prog 17 #[va, vb_] w fun r w' => r = .bool true ∧ Below w.heap.size w w' := by
  have hS := St.init w
  have hmx := hA.sl.maxLen
  have hla := hA.len
  have hlb := hB.len
  refine enter Tryz.func17 rfl Tryz.ntmps17 rfl ?_
  repeat (with_reducible first | refine c_seq ?_ | refine c_block ?_ | refine c_skip ?_ | refine x_then ?_ | refine x_block ?_)
  refine c_reg ?_
  refine l_pure rfl (s_asg  rfl ?_)
  refine l_nil ?_
  repeat (with_reducible first | refine c_seq ?_ | refine c_block ?_ | refine c_skip ?_ | refine x_then ?_ | refine x_block ?_)
  refine c_reg ?_
  refine l_pure rfl (s_move  rfl ?_)
  refine l_pure rfl (s_lenr  rfl (hA.sl.below hS.below) ⟨_, Tryz.underlying22⟩ ?_)
  refine l_pure rfl (s_move  rfl ?_)
  refine l_pure rfl (s_lenr  rfl (hB.sl.below hS.below) ⟨_, Tryz.underlying22⟩ ?_)
  refine l_pure rfl (s_neq  rfl rfl ?_)
  refine l_nil ?_
  repeat (with_reducible first | refine c_seq ?_ | refine c_block ?_ | refine c_skip ?_ | refine x_then ?_ | refine x_block ?_)
  refine c_no rfl (decide_eq_false (by omega)) ?_
  repeat (with_reducible first | refine c_seq ?_ | refine c_block ?_ | refine c_skip ?_ | refine x_then ?_ | refine x_block ?_)
  refine c_reg ?_
  refine l_pure rfl (s_asg  rfl ?_)
  refine l_nil ?_
  repeat (with_reducible first | refine c_seq ?_ | refine c_block ?_ | refine c_skip ?_ | refine x_then ?_ | refine x_block ?_)
  refine c_loop (σ := Nat) (fun i ρ w' => i ≤ A.length ∧ ρ 0 = va ∧ ρ 1 = vb_ ∧ ρ 5 = .int .i64 i ∧ St w w' []) (fun i => A.length - i) 0
    ⟨Nat.zero_le _, rfl, rfl, rfl, hS⟩ ?_
  clear hS
  rintro i ρ w2 ⟨hi, h0, h1, h5, hS⟩
  repeat (with_reducible first | refine c_seq ?_ | refine c_block ?_ | refine c_skip ?_ | refine x_then ?_ | refine x_block ?_)
  refine c_reg ?_
  refine l_pure rfl (s_move  h5 ?_)
  refine l_pure rfl (s_move  h0 ?_)
  refine l_pure rfl (s_lenr  rfl (hA.sl.below hS.below) ⟨_, Tryz.underlying22⟩ ?_)
  refine l_pure rfl (s_lss  rfl rfl ?_)
  refine l_nil ?_
  repeat (with_reducible first | refine c_seq ?_ | refine c_block ?_ | refine c_skip ?_ | refine x_then ?_ | refine x_block ?_)
  by_cases hlt : i < A.length
  · refine c_yes rfl (decide_eq_true (by omega)) ?_
    repeat (with_reducible first | refine c_seq ?_ | refine c_block ?_ | refine c_skip ?_ | refine x_then ?_ | refine x_block ?_)
    have hra := hA.row i hlt
    have hrb := hB.row i hlt
    repeat (with_reducible first | refine c_seq ?_ | refine c_block ?_ | refine c_skip ?_ | refine x_then ?_ | refine x_block ?_)
    refine c_draw [(0, .pure), (1, .pure), (2, .pure), (3, .read), (4, .pure), (5, .pure), (6, .pure), (7, .read), (8, .grow), (9, .pure)] (by kernel_rfl) (by kernel_rfl) hS ?_
    intro wz1 hS hBz1
    refine w_pure rfl rfl (s_move  h0 ?_)
    refine w_pure rfl rfl (s_move  h5 ?_)
    refine w_pure rfl rfl (s_ixr (i := i)  rfl rfl (hA.sl.below hS.below) (by omega) (by first | omega | (simp; done) | (simp; omega)) si_22 ?_)
    refine w_read rfl rfl (s_lde (i := i) undef  rfl vi_23 (hA.sl.below hS.below) (by first | omega | (simp; done) | (simp; omega)) rfl rfl (.inr rfl) ?_)
    refine w_pure rfl rfl (s_move  h1 ?_)
    refine w_pure rfl rfl (s_move  h5 ?_)
    refine w_pure rfl rfl (s_ixr (i := i)  rfl rfl (hB.sl.below hS.below) (by omega) (by first | omega | (simp; done) | (simp; omega)) si_22 ?_)
    refine w_read rfl rfl (s_lde (i := i) undef  rfl vi_23 (hB.sl.below hS.below) (by first | omega | (simp; done) | (simp; omega)) rfl rfl (.inr rfl) ?_)
    refine w_grow rfl rfl (s_call Tryz.call14 rfl (SameRats_eq _ _ (A.getD i []) _ (hra.below hS.below) (hrb.below hS.below)) ?_)
    rintro _ wc2 ⟨rfl, hBc2⟩
    replace hS := hS.grow hBc2
    refine ⟨hBc2, ?_⟩
    refine w_pure rfl rfl (s_not  rfl ?_)
    refine w_end ?_
    repeat (with_reducible first | refine c_seq ?_ | refine c_block ?_ | refine c_skip ?_ | refine x_then ?_ | refine x_block ?_)
    refine c_no rfl (rfl) ?_
    repeat (with_reducible first | refine c_seq ?_ | refine c_block ?_ | refine c_skip ?_ | refine x_then ?_ | refine x_block ?_)
    refine c_reg ?_
    refine l_pure rfl (s_move  h5 ?_)
    refine l_pure rfl (s_add  rfl rfl (IntWalk.i64_in _ (by omega)) ?_)
    refine l_pure rfl (s_asg  rfl ?_)
    refine l_nil ?_
    repeat (with_reducible first | refine c_seq ?_ | refine c_block ?_ | refine c_skip ?_ | refine x_then ?_ | refine x_block ?_)
    exact ⟨i + 1, _, rfl, ⟨hlt, by assumption, by assumption, vi rfl (by omega), hS⟩, by omega⟩
  · refine c_no rfl (decide_eq_false (by omega)) ?_
    repeat (with_reducible first | refine c_seq ?_ | refine c_block ?_ | refine c_skip ?_ | refine x_then ?_ | refine x_block ?_)
    refine c_exit ?_
    repeat (with_reducible first | refine x_then_exit ?_ | refine x_block_exit ?_ | refine x_block_pass rfl ?_)
    repeat (with_reducible first | refine c_seq ?_ | refine c_block ?_ | refine c_skip ?_ | refine x_then ?_ | refine x_block ?_)
    refine c_reg ?_
    refine l_pure rfl (s_asg  rfl ?_)
    refine l_nil ?_
    repeat (with_reducible first | refine c_seq ?_ | refine c_block ?_ | refine c_skip ?_ | refine x_then ?_ | refine x_block ?_)
    refine c_ret ?_
    repeat (with_reducible first | refine x_then_ret ?_ | refine x_block_ret ?_)
    refine r_one rfl rfl ?_
    exact ⟨rfl, hS.below⟩
theorem SameInts_eq (va vb_ : Value) (A : List Int) (w : World) (ha : Sl enI 1 w va A) (hb : Sl enI 1 w vb_ A) :
    Ret Tryz.prog 21 #[va, vb_] w fun r w' => r = .bool true ∧ Below w.heap.size w w' := by
  have hS := St.init w
  have hmx := ha.maxLen
  refine enter Tryz.func21 rfl Tryz.ntmps21 rfl ?_
  repeat (with_reducible first | refine c_seq ?_ | refine c_block ?_ | refine c_skip ?_ | refine x_then ?_ | refine x_block ?_)
  refine c_reg ?_
  refine l_pure rfl (s_asg  rfl ?_)
  refine l_nil ?_
  repeat (with_reducible first | refine c_seq ?_ | refine c_block ?_ | refine c_skip ?_ | refine x_then ?_ | refine x_block ?_)
  refine c_reg ?_
  refine l_pure rfl (s_move  rfl ?_)
  refine l_pure rfl (s_lenr  rfl (ha.below hS.below) ⟨_, Tryz.underlying40⟩ ?_)
  refine l_pure rfl (s_move  rfl ?_)
  refine l_pure rfl (s_lenr  rfl (hb.below hS.below) ⟨_, Tryz.underlying40⟩ ?_)
  refine l_pure rfl (s_neq  rfl rfl ?_)
  refine l_nil ?_
  repeat (with_reducible first | refine c_seq ?_ | refine c_block ?_ | refine c_skip ?_ | refine x_then ?_ | refine x_block ?_)
  refine c_no rfl (decide_eq_false (by omega)) ?_
  repeat (with_reducible first | refine c_seq ?_ | refine c_block ?_ | refine c_skip ?_ | refine x_then ?_ | refine x_block ?_)
  refine c_reg ?_
  refine l_pure rfl (s_asg  rfl ?_)
  refine l_nil ?_
  repeat (with_reducible first | refine c_seq ?_ | refine c_block ?_ | refine c_skip ?_ | refine x_then ?_ | refine x_block ?_)
  refine c_loop (σ := Nat) (fun i ρ w' => i ≤ A.length ∧ ρ 0 = va ∧ ρ 1 = vb_ ∧ ρ 5 = .int .i64 i ∧ St w w' []) (fun i => A.length - i) 0
    ⟨Nat.zero_le _, rfl, rfl, rfl, hS⟩ ?_
  clear hS
  rintro i ρ w2 ⟨hi, h0, h1, h5, hS⟩
  repeat (with_reducible first | refine c_seq ?_ | refine c_block ?_ | refine c_skip ?_ | refine x_then ?_ | refine x_block ?_)
  refine c_reg ?_
  refine l_pure rfl (s_move  h5 ?_)
  refine l_pure rfl (s_move  h0 ?_)
  refine l_pure rfl (s_lenr  rfl (ha.below hS.below) ⟨_, Tryz.underlying40⟩ ?_)
  refine l_pure rfl (s_lss  rfl rfl ?_)
  refine l_nil ?_
  repeat (with_reducible first | refine c_seq ?_ | refine c_block ?_ | refine c_skip ?_ | refine x_then ?_ | refine x_block ?_)
  by_cases hlt : i < A.length
  · refine c_yes rfl (decide_eq_true (by omega)) ?_
    repeat (with_reducible first | refine c_seq ?_ | refine c_block ?_ | refine c_skip ?_ | refine x_then ?_ | refine x_block ?_)
    refine c_draw [(0, .pure), (1, .pure), (2, .pure), (3, .read), (4, .pure), (5, .pure), (6, .pure), (7, .read), (8, .pure)] (by kernel_rfl) (by kernel_rfl) hS ?_
    intro wz1 hS hBz1
    refine w_pure rfl rfl (s_move  h0 ?_)
    refine w_pure rfl rfl (s_move  h5 ?_)
    refine w_pure rfl rfl (s_ixr (i := i)  rfl rfl (ha.below hS.below) (by omega) (by first | omega | (simp; done) | (simp; omega)) si_40 ?_)
    refine w_read rfl rfl (s_lde (i := i) 0  rfl vi_3 (ha.below hS.below) (by first | omega | (simp; done) | (simp; omega)) rfl rfl (.inr rfl) ?_)
    refine w_pure rfl rfl (s_move  h1 ?_)
    refine w_pure rfl rfl (s_move  h5 ?_)
    refine w_pure rfl rfl (s_ixr (i := i)  rfl rfl (hb.below hS.below) (by omega) (by first | omega | (simp; done) | (simp; omega)) si_40 ?_)
    refine w_read rfl rfl (s_lde (i := i) 0  rfl vi_3 (hb.below hS.below) (by first | omega | (simp; done) | (simp; omega)) rfl rfl (.inr rfl) ?_)
    refine w_pure rfl rfl (s_neq  rfl rfl ?_)
    refine w_end ?_
    repeat (with_reducible first | refine c_seq ?_ | refine c_block ?_ | refine c_skip ?_ | refine x_then ?_ | refine x_block ?_)
    refine c_no rfl (decide_eq_false (fun h => h rfl)) ?_
    repeat (with_reducible first | refine c_seq ?_ | refine c_block ?_ | refine c_skip ?_ | refine x_then ?_ | refine x_block ?_)
    refine c_reg ?_
    refine l_pure rfl (s_move  h5 ?_)
    refine l_pure rfl (s_add  rfl rfl (IntWalk.i64_in _ (by omega)) ?_)
    refine l_pure rfl (s_asg  rfl ?_)
    refine l_nil ?_
    repeat (with_reducible first | refine c_seq ?_ | refine c_block ?_ | refine c_skip ?_ | refine x_then ?_ | refine x_block ?_)
    exact ⟨i + 1, _, rfl, ⟨hlt, by assumption, by assumption, vi rfl (by omega), hS⟩, by omega⟩
  · refine c_no rfl (decide_eq_false (by omega)) ?_
    repeat (with_reducible first | refine c_seq ?_ | refine c_block ?_ | refine c_skip ?_ | refine x_then ?_ | refine x_block ?_)
    refine c_exit ?_
    repeat (with_reducible first | refine x_then_exit ?_ | refine x_block_exit ?_ | refine x_block_pass rfl ?_)
    repeat (with_reducible first | refine c_seq ?_ | refine c_block ?_ | refine c_skip ?_ | refine x_then ?_ | refine x_block ?_)
    refine c_reg ?_
    refine l_pure rfl (s_asg  rfl ?_)
    refine l_nil ?_
    repeat (with_reducible first | refine c_seq ?_ | refine c_block ?_ | refine c_skip ?_ | refine x_then ?_ | refine x_block ?_)
    refine c_ret ?_
    repeat (with_reducible first | refine x_then_ret ?_ | refine x_block_ret ?_)
    refine r_one rfl rfl ?_
    exact ⟨rfl, hS.below⟩
theorem rReduce_ok (v : Value) (A : List (List RR)) (vs : List Value) (K : Nat) (w : World) (hA : Mts encR 3 w v A vs) (hB : RBM K A) (hK : 8 * BB K 16 ≤ MX) :
    Ret Tryz.prog 19 #[v] w fun r w' => (∃ v' vs' vp, r = .tuple #[v', vp, .int .i64 (shpE A)] ∧ Mts encR 3 w' v' (rdL A) vs' ∧ Sl enI 1 w' vp (nI (rdP A))) ∧ Below w.heap.size w w' := by
  have hM : MX = 1099511627776 := rfl
  have hBK := BB_K K 16
  have hS := St.init w
  refine enter Tryz.func19 rfl Tryz.ntmps19 rfl ?_
  repeat (with_reducible first | refine c_seq ?_ | refine c_block ?_ | refine c_skip ?_ | refine x_then ?_ | refine x_block ?_)
  refine c_reg ?_
  refine l_pure rfl (s_asg  rfl ?_)
  refine l_pure rfl (s_asg  rfl ?_)
  refine l_pure rfl (s_asg  rfl ?_)
  refine l_nil ?_
  repeat (with_reducible first | refine c_seq ?_ | refine c_block ?_ | refine c_skip ?_ | refine x_then ?_ | refine x_block ?_)
  refine c_reg ?_
  refine l_pure rfl (s_move  rfl ?_)
  refine l_heavy rfl (s_call Tryz.call38 rfl (rshape_ok v A vs _ (hA.below hS.below)) ?_)
  rintro _ wc1 ⟨rfl, hBc1⟩
  replace hS := hS.grow hBc1
  refine l_pure rfl (s_asg  rfl ?_)
  refine l_nil ?_
  repeat (with_reducible first | refine c_seq ?_ | refine c_block ?_ | refine c_skip ?_ | refine x_then ?_ | refine x_block ?_)
  refine c_reg ?_
  refine l_pure rfl (s_move  rfl ?_)
  refine l_pure rfl (s_neq  rfl rfl ?_)
  refine l_nil ?_
  repeat (with_reducible first | refine c_seq ?_ | refine c_block ?_ | refine c_skip ?_ | refine x_then ?_ | refine x_block ?_)
  by_cases he : shpE A ≠ 0
  · have e1 : rdL A = [] := if_neg he
    have e2 : rdP A = [] := if_neg he
    rw [e1, e2]
    refine c_yes rfl (decide_eq_true (by omega)) ?_
    repeat (with_reducible first | refine c_seq ?_ | refine c_block ?_ | refine c_skip ?_ | refine x_then ?_ | refine x_block ?_)
    refine c_reg ?_
    refine l_pure rfl (s_move  rfl ?_)
    refine l_pure rfl (s_asg  rfl ?_)
    refine l_pure rfl (s_asg  rfl ?_)
    refine l_pure rfl (s_asg  rfl ?_)
    refine l_nil ?_
    repeat (with_reducible first | refine c_seq ?_ | refine c_block ?_ | refine c_skip ?_ | refine x_then ?_ | refine x_block ?_)
    refine c_ret ?_
    repeat (with_reducible first | refine x_then_ret ?_ | refine x_block_ret ?_)
    refine r_three rfl rfl rfl rfl ?_
    exact ⟨⟨_, [], _, rfl, Mts.nil _ _ _, Sl.nil _ _ _⟩, hS.below⟩
  replace he := Decidable.not_not.1 he
  obtain ⟨h1, h2, h3, h4, h5⟩ := shpE_zero he
  have e1 : rdL A = tabM A.length (colsA A) (qM (rdA A).M) := if_pos he
  have e2 : rdP A = (rdA A).P := if_pos he
  rw [e1, e2, he]
  refine c_no rfl (decide_eq_false (by omega)) ?_
  repeat (with_reducible first | refine c_seq ?_ | refine c_block ?_ | refine c_skip ?_ | refine x_then ?_ | refine x_block ?_)
  refine c_reg ?_
  refine l_pure rfl (s_move  rfl ?_)
  refine l_heavy rfl (s_call Tryz.call40 rfl (lfixedRows_ok v A vs (colsA A) _ (hA.below hS.below) h1 (by omega) h3 (by omega) h5 (RBM_mono hB (by omega))) ?_)
  rintro r w2 ⟨⟨bo, cap, so, R, rfl, hc1, hc2, hR, hS2⟩, hB2⟩
  replace hS := hS.grow hB2
  have hmt := hR.mtsD [] hS2 encR_len hc1 hc2
  clear hS2
  refine l_heavy rfl (s_call Tryz.call47 rfl (rechelon_ok _ A.length (colsA A) (RM A) _ K _ hmt h1 (by omega) h3 (by omega) (fun i hi j hj => RM_L hB hi (by rw [h5 i hi]; exact hj)) (BB_ok hK h2)) ?_)
  rintro r w3 ⟨⟨vm, vs', vp, rfl, hm, hp⟩, hB3⟩
  replace hS := hS.grow hB3
  refine l_pure rfl (s_move  rfl ?_)
  refine l_pure rfl (s_ext  rfl rfl ?_)
  refine l_pure rfl (s_ext  rfl rfl ?_)
  refine l_pure rfl (s_asg  rfl ?_)
  refine l_pure rfl (s_asg  rfl ?_)
  refine l_nil ?_
  repeat (with_reducible first | refine c_seq ?_ | refine c_block ?_ | refine c_skip ?_ | refine x_then ?_ | refine x_block ?_)
  refine c_reg ?_
  refine l_pure rfl (s_move  rfl ?_)
  refine l_pure rfl (s_move  rfl ?_)
  refine l_pure rfl (s_asg  rfl ?_)
  refine l_pure rfl (s_asg  rfl ?_)
  refine l_pure rfl (s_asg  rfl ?_)
  refine l_nil ?_
  repeat (with_reducible first | refine c_seq ?_ | refine c_block ?_ | refine c_skip ?_ | refine x_then ?_ | refine x_block ?_)
  refine c_ret ?_
  repeat (with_reducible first | refine x_then_ret ?_ | refine x_block_ret ?_)
  refine r_three rfl rfl rfl rfl ?_
  exact ⟨⟨_, _, _, rfl, hm, hp⟩, hS.below⟩
theorem K24 : 8 * BB 24 16 ≤ MX := by decide
theorem LinearApply_ok (va vx : Value) (A : List (List RR)) (vs : List Value) (X : List RR) (w : World) (hA : Mts encR 3 w va A vs) (hX : Sl encR 3 w vx X) :
    Ret Tryz.prog 7 #[va, vx] w fun v w' => v = .bool true ∧ Below w.heap.size w w' := by
  have hM : MX = 1099511627776 := rfl
  have hS := St.init w
  refine enter Tryz.func7 rfl Tryz.ntmps7 rfl ?_
  repeat (with_reducible first | refine c_seq ?_ | refine c_block ?_ | refine c_skip ?_ | refine x_then ?_ | refine x_block ?_)
  refine c_reg ?_
  refine l_pure rfl (s_asg  rfl ?_)
  refine l_nil ?_
  repeat (with_reducible first | refine c_seq ?_ | refine c_block ?_ | refine c_skip ?_ | refine x_then ?_ | refine x_block ?_)
  refine c_reg ?_
  refine l_pure rfl (s_move  rfl ?_)
  refine l_heavy rfl (s_call Tryz.call9 rfl (FewRows_ok va A vs _ (hA.below hS.below)) ?_)
  rintro r w1 ⟨rfl, hB1⟩
  replace hS := hS.grow hB1
  cases hf : fewA A with
  | false =>
    refine l_pure rfl (s_not  rfl ?_)
    refine l_pure rfl (s_move  rfl ?_)
    refine l_no (gno_yes 12 (by kernel_rfl) rfl rfl) ?_
    refine l_no (gno_yes 12 (by kernel_rfl) rfl rfl) ?_
    refine l_no (gno_yes 12 (by kernel_rfl) rfl rfl) ?_
    refine l_pure rfl (s_pick (vb rfl rfl) rfl ?_)
    refine l_nil ?_
    repeat (with_reducible first | refine c_seq ?_ | refine c_block ?_ | refine c_skip ?_ | refine x_then ?_ | refine x_block ?_)
    refine c_yes rfl (rfl) ?_
    repeat (with_reducible first | refine c_seq ?_ | refine c_block ?_ | refine c_skip ?_ | refine x_then ?_ | refine x_block ?_)
    refine c_reg ?_
    refine l_heavy rfl (s_call Tryz.call11 rfl (Lawake_ok _) ?_)
    rintro _ wc1 ⟨rfl, hBc1⟩
    replace hS := hS.grow hBc1
    refine l_pure rfl (s_asg  rfl ?_)
    refine l_nil ?_
    repeat (with_reducible first | refine c_seq ?_ | refine c_block ?_ | refine c_skip ?_ | refine x_then ?_ | refine x_block ?_)
    refine c_ret ?_
    repeat (with_reducible first | refine x_then_ret ?_ | refine x_block_ret ?_)
    refine r_one rfl rfl ?_
    exact ⟨rfl, hS.below⟩
  | true =>
  obtain ⟨_, hRB, _⟩ := fewA_B hf
  refine l_pure rfl (s_not  rfl ?_)
  refine l_pure rfl (s_move  rfl ?_)
  refine l_pure (gd_yes 12 (by kernel_rfl) rfl rfl) (s_move  rfl ?_)
  refine l_heavy (gd_yes 12 (by kernel_rfl) rfl rfl) (s_call Tryz.call10 rfl (FewRats_ok vx X 6 _ (hX.below hS.below)) ?_)
  rintro r w1b ⟨rfl, hB1b⟩
  replace hS := hS.grow hB1b
  refine l_pure (gd_yes 12 (by kernel_rfl) rfl rfl) (s_not  rfl ?_)
  refine l_pure rfl (s_pick (vb rfl rfl) rfl ?_)
  refine l_nil ?_
  repeat (with_reducible first | refine c_seq ?_ | refine c_block ?_ | refine c_skip ?_ | refine x_then ?_ | refine x_block ?_)
  cases hg : decide ((X.length : Int) ≤ 6) && X.all few with
  | false =>
    refine c_yes rfl (rfl) ?_
    repeat (with_reducible first | refine c_seq ?_ | refine c_block ?_ | refine c_skip ?_ | refine x_then ?_ | refine x_block ?_)
    refine c_reg ?_
    refine l_heavy rfl (s_call Tryz.call11 rfl (Lawake_ok _) ?_)
    rintro _ wc2 ⟨rfl, hBc2⟩
    replace hS := hS.grow hBc2
    refine l_pure rfl (s_asg  rfl ?_)
    refine l_nil ?_
    repeat (with_reducible first | refine c_seq ?_ | refine c_block ?_ | refine c_skip ?_ | refine x_then ?_ | refine x_block ?_)
    refine c_ret ?_
    repeat (with_reducible first | refine x_then_ret ?_ | refine x_block_ret ?_)
    refine r_one rfl rfl ?_
    exact ⟨rfl, hS.below⟩
  | true =>
  rw [Bool.and_eq_true, decide_eq_true_eq] at hg
  have hRBX := RB_few hg.2
  refine c_no rfl (rfl) ?_
  repeat (with_reducible first | refine c_seq ?_ | refine c_block ?_ | refine c_skip ?_ | refine x_then ?_ | refine x_block ?_)
  refine c_reg ?_
  refine l_pure rfl (s_move  rfl ?_)
  refine l_pure rfl (s_move  rfl ?_)
  refine l_heavy rfl (s_call Tryz.call24 rfl (lApply_ok va vx A vs X 24 _ (hA.below hS.below) (hX.below hS.below) hRB hRBX (by omega)) ?_)
  rintro r w2 ⟨⟨v1, rfl, hm1⟩, hB2⟩
  replace hS := hS.grow hB2
  refine l_pure rfl (s_move  rfl ?_)
  refine l_pure rfl (s_ext  rfl rfl ?_)
  refine l_pure rfl (s_ext  rfl rfl ?_)
  refine l_pure rfl (s_asg  rfl ?_)
  refine l_pure rfl (s_asg  rfl ?_)
  refine l_nil ?_
  repeat (with_reducible first | refine c_seq ?_ | refine c_block ?_ | refine c_skip ?_ | refine x_then ?_ | refine x_block ?_)
  refine c_reg ?_
  refine l_pure rfl (s_move  rfl ?_)
  refine l_pure rfl (s_move  rfl ?_)
  refine l_heavy rfl (s_call Tryz.call25 rfl (rApply_ok va vx A vs X 24 _ (hA.below hS.below) (hX.below hS.below) hRB hRBX (by omega)) ?_)
  rintro r w3 ⟨⟨v2, rfl, hm2⟩, hB3⟩
  replace hS := hS.grow hB3
  replace hm1 := hm1.below hB3
  refine l_pure rfl (s_move  rfl ?_)
  refine l_pure rfl (s_ext  rfl rfl ?_)
  refine l_pure rfl (s_ext  rfl rfl ?_)
  refine l_pure rfl (s_asg  rfl ?_)
  refine l_pure rfl (s_asg  rfl ?_)
  refine l_nil ?_
  repeat (with_reducible first | refine c_seq ?_ | refine c_block ?_ | refine c_skip ?_ | refine x_then ?_ | refine x_block ?_)
  refine c_reg ?_
  refine l_heavy rfl (s_call Tryz.call11 rfl (Lawake_ok _) ?_)
  rintro r wa ⟨rfl, hBa⟩
  replace hS := hS.grow hBa
  replace hm1 := hm1.below hBa
  replace hm2 := hm2.below hBa
  refine l_pure rfl (s_move  rfl ?_)
  refine l_pure (gd_yes 31 (by kernel_rfl) rfl rfl) (s_move  rfl ?_)
  refine l_pure (gd_yes 31 (by kernel_rfl) rfl rfl) (s_move  rfl ?_)
  refine l_heavy (gd_yes 31 (by kernel_rfl) rfl rfl) (s_call Tryz.call14 rfl (SameRats_eq _ _ _ _ hm1 hm2) ?_)
  rintro r w6 ⟨rfl, hB6⟩
  replace hS := hS.grow hB6
  refine l_pure rfl (s_pick (vb rfl rfl) rfl ?_)
  refine l_pure rfl (s_move  rfl ?_)
  refine l_pure (gd_yes 36 (by kernel_rfl) rfl rfl) (s_move  rfl ?_)
  refine l_pure (gd_yes 36 (by kernel_rfl) rfl rfl) (s_move  rfl ?_)
  refine l_pure (gd_yes 36 (by kernel_rfl) rfl rfl) (s_eql  rfl rfl ?_)
  refine l_pure rfl (s_pick (vb rfl rfl) rfl ?_)
  refine l_pure rfl (s_asg  rfl ?_)
  refine l_nil ?_
  repeat (with_reducible first | refine c_seq ?_ | refine c_block ?_ | refine c_skip ?_ | refine x_then ?_ | refine x_block ?_)
  refine c_ret ?_
  repeat (with_reducible first | refine x_then_ret ?_ | refine x_block_ret ?_)
  refine r_one rfl rfl ?_
  exact ⟨vb rfl (decide_eq_true rfl), hS.below⟩
theorem LinearReduce_ok (va : Value) (A : List (List RR)) (vs : List Value) (w : World) (hA : Mts encR 3 w va A vs) :
    Ret Tryz.prog 5 #[va] w fun v w' => v = .bool true ∧ Below w.heap.size w w' := by
  have hM : MX = 1099511627776 := rfl
  have hS := St.init w
  refine enter Tryz.func5 rfl Tryz.ntmps5 rfl ?_
  repeat (with_reducible first | refine c_seq ?_ | refine c_block ?_ | refine c_skip ?_ | refine x_then ?_ | refine x_block ?_)
  refine c_reg ?_
  refine l_pure rfl (s_asg  rfl ?_)
  refine l_nil ?_
  repeat (with_reducible first | refine c_seq ?_ | refine c_block ?_ | refine c_skip ?_ | refine x_then ?_ | refine x_block ?_)
  refine c_reg ?_
  refine l_pure rfl (s_move  rfl ?_)
  refine l_heavy rfl (s_call Tryz.call9 rfl (FewRows_ok va A vs _ (hA.below hS.below)) ?_)
  rintro _ wc1 ⟨rfl, hBc1⟩
  replace hS := hS.grow hBc1
  refine l_pure rfl (s_not  rfl ?_)
  refine l_nil ?_
  repeat (with_reducible first | refine c_seq ?_ | refine c_block ?_ | refine c_skip ?_ | refine x_then ?_ | refine x_block ?_)
  cases hf : fewA A with
  | false =>
    refine c_yes rfl (rfl) ?_
    repeat (with_reducible first | refine c_seq ?_ | refine c_block ?_ | refine c_skip ?_ | refine x_then ?_ | refine x_block ?_)
    refine c_reg ?_
    refine l_heavy rfl (s_call Tryz.call11 rfl (Lawake_ok _) ?_)
    rintro _ wc2 ⟨rfl, hBc2⟩
    replace hS := hS.grow hBc2
    refine l_pure rfl (s_asg  rfl ?_)
    refine l_nil ?_
    repeat (with_reducible first | refine c_seq ?_ | refine c_block ?_ | refine c_skip ?_ | refine x_then ?_ | refine x_block ?_)
    refine c_ret ?_
    repeat (with_reducible first | refine x_then_ret ?_ | refine x_block_ret ?_)
    refine r_one rfl rfl ?_
    exact ⟨rfl, hS.below⟩
  | true =>
  obtain ⟨_, hRB, _⟩ := fewA_B hf
  refine c_no rfl (rfl) ?_
  repeat (with_reducible first | refine c_seq ?_ | refine c_block ?_ | refine c_skip ?_ | refine x_then ?_ | refine x_block ?_)
  refine c_reg ?_
  refine l_pure rfl (s_move  rfl ?_)
  refine l_heavy rfl (s_call Tryz.call18 rfl (lReduce_ok va A vs 24 _ (hA.below hS.below) hRB K24) ?_)
  rintro r w2 ⟨⟨v1, vs1, p1, rfl, hm1, hp1⟩, hB2⟩
  replace hS := hS.grow hB2
  refine l_pure rfl (s_move  rfl ?_)
  refine l_pure rfl (s_ext  rfl rfl ?_)
  refine l_pure rfl (s_ext  rfl rfl ?_)
  refine l_pure rfl (s_ext  rfl rfl ?_)
  refine l_pure rfl (s_asg  rfl ?_)
  refine l_pure rfl (s_asg  rfl ?_)
  refine l_pure rfl (s_asg  rfl ?_)
  refine l_nil ?_
  repeat (with_reducible first | refine c_seq ?_ | refine c_block ?_ | refine c_skip ?_ | refine x_then ?_ | refine x_block ?_)
  refine c_reg ?_
  refine l_pure rfl (s_move  rfl ?_)
  refine l_heavy rfl (s_call Tryz.call19 rfl (rReduce_ok va A vs 24 _ (hA.below hS.below) hRB K24) ?_)
  rintro r w3 ⟨⟨v2, vs2, p2, rfl, hm2, hp2⟩, hB3⟩
  replace hS := hS.grow hB3
  replace hm1 := hm1.below hB3
  replace hp1 := hp1.below hB3
  refine l_pure rfl (s_move  rfl ?_)
  refine l_pure rfl (s_ext  rfl rfl ?_)
  refine l_pure rfl (s_ext  rfl rfl ?_)
  refine l_pure rfl (s_ext  rfl rfl ?_)
  refine l_pure rfl (s_asg  rfl ?_)
  refine l_pure rfl (s_asg  rfl ?_)
  refine l_pure rfl (s_asg  rfl ?_)
  refine l_nil ?_
  repeat (with_reducible first | refine c_seq ?_ | refine c_block ?_ | refine c_skip ?_ | refine x_then ?_ | refine x_block ?_)
  refine c_reg ?_
  refine l_pure rfl (s_move  rfl ?_)
  refine l_heavy rfl (s_call Tryz.call20 rfl (lRank_ok va A vs 24 _ (hA.below hS.below) hRB K24) ?_)
  rintro r w4 ⟨rfl, hB4⟩
  replace hS := hS.grow hB4
  replace hm1 := hm1.below hB4
  replace hp1 := hp1.below hB4
  replace hm2 := hm2.below hB4
  replace hp2 := hp2.below hB4
  refine l_pure rfl (s_move  rfl ?_)
  refine l_pure rfl (s_ext  rfl rfl ?_)
  refine l_pure rfl (s_ext  rfl rfl ?_)
  refine l_pure rfl (s_asg  rfl ?_)
  refine l_pure rfl (s_asg  rfl ?_)
  refine l_nil ?_
  repeat (with_reducible first | refine c_seq ?_ | refine c_block ?_ | refine c_skip ?_ | refine x_then ?_ | refine x_block ?_)
  refine c_reg ?_
  refine l_heavy rfl (s_call Tryz.call11 rfl (Lawake_ok _) ?_)
  rintro r wa ⟨rfl, hBa⟩
  replace hS := hS.grow hBa
  replace hm1 := hm1.below hBa
  replace hp1 := hp1.below hBa
  replace hm2 := hm2.below hBa
  replace hp2 := hp2.below hBa
  refine l_pure rfl (s_move  rfl ?_)
  refine l_pure (gd_yes 33 (by kernel_rfl) rfl rfl) (s_move  rfl ?_)
  refine l_pure (gd_yes 33 (by kernel_rfl) rfl rfl) (s_move  rfl ?_)
  refine l_heavy (gd_yes 33 (by kernel_rfl) rfl rfl) (s_call Tryz.call17 rfl (SameRows_eq _ _ _ _ _ _ hm1 hm2) ?_)
  rintro r w6 ⟨rfl, hB6⟩
  replace hS := hS.grow hB6
  replace hp1 := hp1.below hB6
  replace hp2 := hp2.below hB6
  refine l_pure rfl (s_pick (vb rfl rfl) rfl ?_)
  refine l_pure rfl (s_move  rfl ?_)
  refine l_pure (gd_yes 38 (by kernel_rfl) rfl rfl) (s_move  rfl ?_)
  refine l_pure (gd_yes 38 (by kernel_rfl) rfl rfl) (s_move  rfl ?_)
  refine l_heavy (gd_yes 38 (by kernel_rfl) rfl rfl) (s_call Tryz.call21 rfl (SameInts_eq _ _ _ _ hp1 hp2) ?_)
  rintro r w7 ⟨rfl, hB7⟩
  replace hS := hS.grow hB7
  replace hp2 := hp2.below hB7
  have hnl := nI_len (rdP A)
  refine l_pure rfl (s_pick (vb rfl rfl) rfl ?_)
  refine l_pure rfl (s_move  rfl ?_)
  refine l_pure (gd_yes 43 (by kernel_rfl) rfl rfl) (s_move  rfl ?_)
  refine l_pure (gd_yes 43 (by kernel_rfl) rfl rfl) (s_move  rfl ?_)
  refine l_pure (gd_yes 43 (by kernel_rfl) rfl rfl) (s_eql  rfl rfl ?_)
  refine l_pure rfl (s_pick (vb rfl rfl) rfl ?_)
  refine l_pure rfl (s_move  rfl ?_)
  refine l_pure (gd_yes 48 (by kernel_rfl) rfl (decide_eq_true rfl)) (s_move  rfl ?_)
  refine l_pure (gd_yes 48 (by kernel_rfl) rfl (decide_eq_true rfl)) (s_move  rfl ?_)
  refine l_pure (gd_yes 48 (by kernel_rfl) rfl (decide_eq_true rfl)) (s_eql  rfl rfl ?_)
  refine l_pure rfl (s_pick (vb rfl (decide_eq_true rfl)) rfl ?_)
  refine l_pure rfl (s_move  rfl ?_)
  refine l_pure (gd_yes 53 (by kernel_rfl) rfl (decide_eq_true rfl)) (s_move  rfl ?_)
  refine l_pure (gd_yes 53 (by kernel_rfl) rfl (decide_eq_true rfl)) (s_move  rfl ?_)
  refine l_pure (gd_yes 53 (by kernel_rfl) rfl (decide_eq_true rfl)) (s_lenr  rfl hp2 ⟨_, Tryz.underlying40⟩ ?_)
  refine l_pure (gd_yes 53 (by kernel_rfl) rfl (decide_eq_true rfl)) (s_eql  rfl rfl ?_)
  refine l_pure rfl (s_pick (vb rfl (decide_eq_true rfl)) rfl ?_)
  refine l_pure rfl (s_asg  rfl ?_)
  refine l_nil ?_
  repeat (with_reducible first | refine c_seq ?_ | refine c_block ?_ | refine c_skip ?_ | refine x_then ?_ | refine x_block ?_)
  refine c_ret ?_
  repeat (with_reducible first | refine x_then_ret ?_ | refine x_block_ret ?_)
  refine r_one rfl rfl ?_
  exact ⟨vb rfl (decide_eq_true (by rw [hnl])), hS.below⟩
end Go.Proofs.YtblfipdfklpmmaaGreatDoor
namespace Go.Proofs.YtblfipdfklpmmaaGreatDoor
open Go Go.RowKit Go.Sx Go.ChangeShapes Go.WideShapes
section
variable {H : Type} {enc0 : TypeId × Value → H} {P : Program} {w : World} {sp : Nat → Bool} {held : Bool}
/-- A slice whose elements can be read: as a list. -/
theorem open_sl {α : Type} {enc : α → List Value} {size : Nat} {G : α → Prop} {t e : TypeId} {fuel base : Nat} {cs : List Value} {x : DataW H × List MemPlace} (ht : P.underlying t = some (.slice e)) (hce : P.cellsOf e = size)
    (hel : ∀ (n : Nat) (cs : List Value) (y : DataW H × List MemPlace), DataW.trod enc0 P w base sp held n e cs = some y → ∃ a, cs = enc a ∧ G a)
    (h : DataW.trod enc0 P w base sp held fuel t cs = some x) : ∃ v L, cs = [v] ∧ Sl enc size w v L ∧ ∀ y ∈ L, G y := by
  rcases DataW.trod_slice ht h with ⟨h1, _⟩ | ⟨a, len, cap, elems, rest, n, _, h1, _, _, hlc, hm, hlen, hel2, _, _⟩
  · exact ⟨_, [], h1, Sl.nil _ _ _, fun x hx => by cases hx⟩
  · have each : ∀ i, i < len → ∃ y : α, G y ∧ ∀ j u, (enc y)[j]? = some u → w.cell? (a.add (i * size + j)) = some u := by
      intro i hi
      have h2 := hel2 i hi
      rw [hce, List.getElem?_eq_getElem (by omega : i < elems.length), Option.bind_eq_some_iff] at h2
      obtain ⟨cs2, hcs, htr⟩ := h2
      obtain ⟨_, hcl, hcell⟩ := World.cells?_some hcs
      obtain ⟨y, rfl, hG⟩ := hel _ _ _ htr
      refine ⟨y, hG, fun j u hj => ?_⟩
      have hjl : j < size := by
        rw [← hcl]
        exact (List.getElem?_eq_some_iff.1 hj).1
      rw [← hj, ← hcell j hjl, add_add]
    refine ⟨_, (List.range len).pmap (fun i hi => Classical.choose (each i hi)) (fun i hi => List.mem_range.1 hi), h1, ⟨⟨some a, cap, by simp, by simp; exact hlc, hm, fun q => by cases q⟩, fun i hi => ?_⟩, fun y hy => ?_⟩
    · have hil : i < len := by simpa using hi
      intro j u hu2
      rw [List.getElem_pmap] at hu2
      simp only [List.getElem_range] at hu2
      show w.cell? ((a.add (i * size)).add j) = _
      rw [add_add]
      exact (Classical.choose_spec (each i hil)).2 j u hu2
    · obtain ⟨i, hi, rfl⟩ := List.mem_pmap.1 hy
      exact (Classical.choose_spec (each i (List.mem_range.1 hi))).1
end
section
variable {H : Type} {enc0 : TypeId × Value → H} {w : World} {sp : Nat → Bool} {held : Bool}
theorem list3 {α : Type} {l : List α} (h : l.length = 3) : ∃ a b c, l = [a, b, c] := by
  match l, h with
  | [a, b, c], _ => exact ⟨a, b, c, rfl⟩
theorem cb_bool : Tryz.prog.cellsOf 4 = 1 := by kernel_rfl
theorem cb_string : Tryz.prog.cellsOf 9 = 1 := by kernel_rfl
theorem cb_rat : Tryz.prog.cellsOf 49 = 3 := by kernel_rfl
/-- How long a number's texts can be. -/
def rok (r : RR) : Prop := r.num.size ≤ maxLen ∧ r.den.size ≤ maxLen
theorem open_ratc {n base : Nat} {cs : List Value} {y : DataW H × List MemPlace} (h : DataW.trod enc0 Tryz.prog w base sp held n 49 cs = some y) : ∃ r : RR, cs = encR r ∧ rok r := by
  obtain ⟨xs, m, _, _, hl, hxl, hf⟩ := DataW.trod_struct Tryz.underlying49 h
  rw [cb_rat] at hl
  obtain ⟨u0, u1, u2, rfl⟩ := list3 hl
  have h3 : xs.length = 3 := hxl
  have h0 : DataW.trod enc0 Tryz.prog w base sp held m 4 (([u0, u1, u2].drop 0).take (Tryz.prog.cellsOf 4)) = xs[0]? := hf 0 _ rfl
  have h1 : DataW.trod enc0 Tryz.prog w base sp held m 9 (([u0, u1, u2].drop 1).take (Tryz.prog.cellsOf 9)) = xs[1]? := hf 1 _ rfl
  have h2 : DataW.trod enc0 Tryz.prog w base sp held m 9 (([u0, u1, u2].drop 2).take (Tryz.prog.cellsOf 9)) = xs[2]? := hf 2 _ rfl
  rw [cb_bool, List.getElem?_eq_getElem (by omega)] at h0
  rw [cb_string, List.getElem?_eq_getElem (by omega)] at h1 h2
  obtain ⟨b, e0, _⟩ := DataW.trod_bool Tryz.underlying4 h0
  obtain ⟨s, e1, _, hs⟩ := DataW.trod_string Tryz.underlying9 h1
  obtain ⟨d, e2, _, hd⟩ := DataW.trod_string Tryz.underlying9 h2
  obtain rfl : u0 = .bool b := (List.cons.inj e0).1
  obtain rfl : u1 = .string s := (List.cons.inj e1).1
  obtain rfl : u2 = .string d := (List.cons.inj e2).1
  exact ⟨⟨b, s, d⟩, rfl, hs, hd⟩
/-- An argument of type []api.Rat. -/
theorem open_rats {v : Value} {d : DataW H} {ps : List MemPlace} (hval : ∃ a n c, v = .slice a n c) (h : DataW.Trod enc0 Tryz.prog w 0 (fun _ => true) true 23 v d ps) : ∃ L : List RR, Sl encR 3 w v L ∧ ∀ r ∈ L, rok r := by
  obtain ⟨a, n, c, rfl⟩ := hval
  obtain ⟨fuel, hf⟩ := h
  obtain ⟨v, L, e, hS, hG⟩ := open_sl (enc := encR) (G := rok) Tryz.underlying23 cb_rat (fun _ _ _ h => open_ratc h) hf
  simp only [Value.cells, List.cons.injEq, and_true] at e
  rw [e]
  exact ⟨L, hS, hG⟩
end
end Go.Proofs.YtblfipdfklpmmaaGreatDoor
namespace Go.Proofs.YtblfipdfklpmmaaGreatDoor
open Go Go.RowKit Go.Sx Go.ChangeShapes Go.WideShapes
section
variable {H : Type} {enc0 : TypeId × Value → H} {w : World} {sp : Nat → Bool} {held : Bool}
theorem cb_rats : Tryz.prog.cellsOf 23 = 1 := by kernel_rfl
theorem open_ratsc {n base : Nat} {cs : List Value} {y : DataW H × List MemPlace} (h : DataW.trod enc0 Tryz.prog w base sp held n 23 cs = some y) : ∃ p : List RR × Value, cs = enV p.2 ∧ Sl encR 3 w p.2 p.1 := by
  obtain ⟨v, L, e, hS, _⟩ := open_sl (enc := encR) (G := rok) Tryz.underlying23 cb_rat (fun _ _ _ h => open_ratc h) h
  exact ⟨(L, v), e, hS⟩
/-- An argument of type [][]api.Rat. -/
theorem open_mats {v : Value} {d : DataW H} {ps : List MemPlace} (hval : ∃ a n c, v = .slice a n c) (h : DataW.Trod enc0 Tryz.prog w 0 (fun _ => true) true 22 v d ps) : ∃ (A : List (List RR)) (vs : List Value), Mts encR 3 w v A vs := by
  obtain ⟨a, n, c, rfl⟩ := hval
  obtain ⟨fuel, hf⟩ := h
  obtain ⟨v, L, e, hS, hG⟩ := open_sl (enc := fun p : List RR × Value => enV p.2) (size := 1) (G := fun p => Sl encR 3 w p.2 p.1) Tryz.underlying22 cb_rats (fun _ _ _ h => open_ratsc h) hf
  simp only [Value.cells, List.cons.injEq, and_true] at e
  rw [e]
  have hS2 : Sl enV 1 w v (L.map (·.2)) := by
    refine ⟨by rw [List.length_map]; exact hS.form, fun i hi => ?_⟩
    rw [List.length_map] at hi
    rw [List.getElem_map]
    exact hS.elt i hi
  refine ⟨L.map (·.1), L.map (·.2), by rw [List.length_map, List.length_map], hS2, fun i hi => ?_⟩
  rw [List.length_map] at hi
  have := hG L[i] (List.getElem_mem hi)
  rw [List.getD_eq_getElem?_getD, List.getD_eq_getElem?_getD, List.getElem?_map, List.getElem?_map, List.getElem?_eq_getElem hi]
  exact this
end
end Go.Proofs.YtblfipdfklpmmaaGreatDoor
