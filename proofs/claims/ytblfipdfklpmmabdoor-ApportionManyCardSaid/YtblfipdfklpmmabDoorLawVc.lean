/-
  Walks: the chapter's examples of apportioning; adding a list.
-/
import Derived.Test.YtblfipdfklpmmabDoorLawVb
namespace Go.Proofs.YtblfipdfklpmmabDoor
open Go Go.RowKit Go.Sx

/-! ### The examples -/
def r1 : Rat := ((1 : Int) : Rat)
def r12 : Rat := mkRat 1 2
def r103 : Rat := mkRat 10 3
def A3 : List RR := [ofQ r1, ofQ r1, ofQ r1]
def S3 : List RR := [ofQ r103, ofQ r103, ofQ r103]
def H2 : List RR := [ofQ r12, ofQ r12]
def qN (n : Nat) (r : Rat) (i : Nat) : Rat := if i < n then r else 0
theorem qA_S3 : qA S3 = qN 3 r103 := by
  funext i
  unfold qA qN
  match i with
  | 0 => exact toQ_ofQ _
  | 1 => exact toQ_ofQ _
  | 2 => exact toQ_ofQ _
  | i + 3 => rw [if_neg (by omega)]; exact toQ_zRR
theorem qA_H2 : qA H2 = qN 2 r12 := by
  funext i
  unfold qA qN
  match i with
  | 0 => exact toQ_ofQ _
  | 1 => exact toQ_ofQ _
  | i + 2 => rw [if_neg (by omega)]; exact toQ_zRR
theorem map_A3 : A3.map toQ = [r1, r1, r1] := by
  show [toQ (ofQ r1), toQ (ofQ r1), toQ (ofQ r1)] = _
  rw [toQ_ofQ]
theorem map_S3 : S3.map toQ = [r103, r103, r103] := by
  show [toQ (ofQ r103), toQ (ofQ r103), toQ (ofQ r103)] = _
  rw [toQ_ofQ]
theorem map_H2 : H2.map toQ = [r12, r12] := by
  show [toQ (ofQ r12), toQ (ofQ r12)] = _
  rw [toQ_ofQ]
theorem negs_of {l : List RR} (h : ∀ q ∈ l.map toQ, 0 ≤ q) : negs l = false := by
  unfold negs
  rw [List.any_eq_false]
  intro r hr
  have := h _ (List.mem_map.2 ⟨r, hr, rfl⟩)
  rw [decide_eq_true_eq]
  exact Rat.not_lt.2 this
theorem lgE_S3 : lgE S3 = 0 := by
  unfold lgE
  rw [if_neg (by decide), negs_of (by rw [map_S3]; decide +kernel), if_neg (by decide), map_S3]
  decide +kernel
theorem lgE_H2 : lgE H2 = 0 := by
  unfold lgE
  rw [if_neg (by decide), negs_of (by rw [map_H2]; decide +kernel), if_neg (by decide), map_H2]
  decide +kernel
theorem lgL_S3 : lgL S3 = [4, 3, 3] := by
  unfold lgL
  rw [if_pos lgE_S3]
  unfold resA ordG
  rw [qA_S3]
  decide +kernel
theorem lgL_H2 : lgL H2 = [1, 0] := by
  unfold lgL
  rw [if_pos lgE_H2]
  unfold resA ordG
  rw [qA_H2]
  decide +kernel
theorem shL_A3 : shL 10 A3 = S3 := by
  have h : ∀ i, i < 3 → ofQ (shQ 10 A3 i) = ofQ r103 := by
    intro i hi
    have e : toQ (A3.getD i zRR) = r1 := by
      match i, hi with
      | 0, _ => exact toQ_ofQ _
      | 1, _ => exact toQ_ofQ _
      | 2, _ => exact toQ_ofQ _
    congr 1
    unfold shQ
    rw [e, map_A3]
    decide +kernel
  show [ofQ (shQ 10 A3 0), ofQ (shQ 10 A3 1), ofQ (shQ 10 A3 2)] = _
  rw [h 0 (by decide), h 1 (by decide), h 2 (by decide)]; rfl
theorem spE_A3 : spE 10 A3 = 0 := by
  unfold spE
  rw [if_neg (by decide), negs_of (l := A3) (by rw [map_A3]; decide +kernel), if_neg (by decide), map_A3, if_neg (by decide +kernel), shL_A3, lgE_S3]
theorem spL_A3 : spL 10 A3 = [4, 3, 3] := by
  unfold spL
  rw [if_pos spE_A3, shL_A3, lgL_S3]
theorem A3_RB : RB 1 A3 := fun x hx => by
  have : x = ofQ r1 := by
    simp only [A3, List.mem_cons, List.not_mem_nil, or_false] at hx
    rcases hx with h | h | h <;> exact h
  rw [this, Lr_ofQ]; exact L_int 1 (by decide) (by decide)
theorem H2_RB : RB 1 H2 := fun x hx => by
  have : x = ofQ r12 := by
    simp only [H2, List.mem_cons, List.not_mem_nil, or_false] at hx
    rcases hx with h | h <;> exact h
  rw [this, Lr_ofQ]; exact L_mkRat 1 (by decide) (natS_size_le (by decide)) (natS_size_le (by decide))
set_option maxHeartbeats 1000000 in
theorem Aawake_ok (w : World) :
    Ret Tryd.prog 7 #[] w fun v w' => v = .bool true ∧ Below w.heap.size w w' := by
  have hM : MX = 1099511627776 := rfl
  have hS := St.init w
  refine enter Tryd.func7 rfl Tryd.ntmps7 rfl ?_
  repeat (with_reducible first | refine c_seq ?_ | refine c_block ?_ | refine c_skip ?_ | refine x_then ?_ | refine x_block ?_)
  refine c_reg ?_
  refine l_pure rfl (s_asg  rfl ?_)
  refine l_nil ?_
  repeat (with_reducible first | refine c_seq ?_ | refine c_block ?_ | refine c_skip ?_ | refine x_then ?_ | refine x_block ?_)
  refine c_reg ?_
  refine l_heavy rfl (s_call Tryd.call4 rfl (QInt_ok 1 _ (by decide) (by decide)) ?_)
  rintro r w1 ⟨rfl, hB1⟩
  replace hS := hS.grow hB1
  refine l_heavy rfl (s_alloc  vi_25 hS ?_)
  intro b1 wz1 hS hBz1
  refine l_heavy rfl (s_sta (k := 0)  rfl rfl vi_25 hS rfl rfl rfl (Nat.le_of_ble_eq_true rfl) rfl ?_)
  intro wz2 hS
  refine l_nil ?_
  repeat (with_reducible first | refine c_seq ?_ | refine c_block ?_ | refine c_skip ?_ | refine x_then ?_ | refine x_block ?_)
  replace hS : St w _ [(b1, 25, encR (ofQ r1))] := hS
  repeat (with_reducible first | refine c_seq ?_ | refine c_block ?_ | refine c_skip ?_ | refine x_then ?_ | refine x_block ?_)
  refine c_reg ?_
  refine l_heavy rfl (s_call Tryd.call20 rfl (QFraction_ok 1 2 _ (by decide) (by decide) (by decide)) ?_)
  rintro r w2 ⟨rfl, hB2⟩
  replace hS := hS.grow hB2
  refine l_pure rfl (s_move  rfl ?_)
  refine l_pure rfl (s_ext  rfl rfl ?_)
  refine l_pure rfl (s_ext  rfl rfl ?_)
  refine l_heavy rfl (s_alloc  vi_25 hS ?_)
  intro b2 wz3 hS hBz3
  refine l_heavy rfl (s_sta (k := 0)  rfl rfl vi_25 hS rfl rfl rfl (Nat.le_of_ble_eq_true rfl) rfl ?_)
  intro wz4 hS
  refine l_pure rfl (s_asg  rfl ?_)
  refine l_nil ?_
  repeat (with_reducible first | refine c_seq ?_ | refine c_block ?_ | refine c_skip ?_ | refine x_then ?_ | refine x_block ?_)
  replace hS : St w _ [(b2, 25, encR (ofQ r12)), (b1, 25, encR (ofQ r1))] := hS
  repeat (with_reducible first | refine c_seq ?_ | refine c_block ?_ | refine c_skip ?_ | refine x_then ?_ | refine x_block ?_)
  refine c_reg ?_
  refine l_read rfl (s_ldo (k := 1)  rfl vi_25 hS rfl rfl rfl (.inl rfl) ?_)
  refine l_read rfl (s_ldo (k := 1)  rfl vi_25 hS rfl rfl rfl (.inl rfl) ?_)
  refine l_read rfl (s_ldo (k := 1)  rfl vi_25 hS rfl rfl rfl (.inl rfl) ?_)
  refine l_heavy rfl (s_bsl (vs := [aggR (ofQ r1), aggR (ofQ r1), aggR (ofQ r1)])  rfl si_23 rfl (by decide) (by decide) (by decide) (by simp [Value.cells, aggR]) rfl hS ?_)
  intro b17 wz5 hS hBz5
  replace hS : St w _ [(b17, 25, A3.flatMap encR), (b2, 25, encR (ofQ r12)), (b1, 25, encR (ofQ r1))] := hS
  have hT := hS.sle (k := 0) (L := A3) (n := 3) (cap := 3) rfl encR_len (by decide) (by decide) (by decide)
  refine l_heavy rfl (s_call Tryd.call6 rfl (Split_ok 10 _ A3 1 _ (by decide) (by decide) hT A3_RB (by decide) (by omega)) ?_)
  rintro r w3 ⟨⟨va, rfl, hva⟩, hB3⟩
  rw [spE_A3]
  rw [spL_A3] at hva
  replace hS := hS.grow hB3
  refine l_pure rfl (s_move  rfl ?_)
  refine l_pure rfl (s_ext  rfl rfl ?_)
  refine l_pure rfl (s_ext  rfl rfl ?_)
  refine l_pure rfl (s_asg  rfl ?_)
  refine l_pure rfl (s_asg  rfl ?_)
  refine l_nil ?_
  repeat (with_reducible first | refine c_seq ?_ | refine c_block ?_ | refine c_skip ?_ | refine x_then ?_ | refine x_block ?_)
  refine c_reg ?_
  refine l_read rfl (s_ldo (k := 1)  rfl vi_25 hS rfl rfl rfl (.inl rfl) ?_)
  refine l_read rfl (s_ldo (k := 1)  rfl vi_25 hS rfl rfl rfl (.inl rfl) ?_)
  refine l_heavy rfl (s_bsl (vs := [aggR (ofQ r12), aggR (ofQ r12)])  rfl si_23 rfl (by decide) (by decide) (by decide) (by simp [Value.cells, aggR]) rfl hS ?_)
  intro b24 wz6 hS hBz6
  have hBm := hBz6
  replace hva := hva.below hBm
  replace hS : St w _ [(b24, 25, H2.flatMap encR), (b17, 25, A3.flatMap encR), (b2, 25, encR (ofQ r12)), (b1, 25, encR (ofQ r1))] := hS
  have hT2 := hS.sle (k := 0) (L := H2) (n := 2) (cap := 2) rfl encR_len (by decide) (by decide) (by decide)
  refine l_heavy rfl (s_call Tryd.call5 rfl (Largest_ok _ H2 1 _ hT2 H2_RB (by decide) (by omega)) ?_)
  rintro r w4 ⟨⟨vb_, rfl, hvb⟩, hB4⟩
  rw [lgE_H2]
  rw [lgL_H2] at hvb
  replace hS := hS.grow hB4
  replace hva := hva.below hB4
  refine l_pure rfl (s_move  rfl ?_)
  refine l_pure rfl (s_ext  rfl rfl ?_)
  refine l_pure rfl (s_ext  rfl rfl ?_)
  refine l_pure rfl (s_asg  rfl ?_)
  refine l_pure rfl (s_asg  rfl ?_)
  refine l_nil ?_
  repeat (with_reducible first | refine c_seq ?_ | refine c_block ?_ | refine c_skip ?_ | refine x_then ?_ | refine x_block ?_)
  refine c_reg ?_
  refine l_pure rfl (s_move  rfl ?_)
  refine l_pure rfl (s_eql  rfl rfl ?_)
  refine l_pure rfl (s_move  rfl ?_)
  refine l_pure (gd_yes 30 (by kernel_rfl) rfl rfl) (s_move  rfl ?_)
  refine l_pure (gd_yes 30 (by kernel_rfl) rfl rfl) (s_lenr  rfl hva ⟨_, Tryd.underlying27⟩ ?_)
  refine l_pure (gd_yes 30 (by kernel_rfl) rfl rfl) (s_eql  rfl rfl ?_)
  refine l_pure rfl (s_pick (vb rfl rfl) rfl ?_)
  refine l_pure rfl (s_move  rfl ?_)
  refine l_pure (gd_yes 35 (by kernel_rfl) rfl (decide_eq_true rfl)) (s_move  rfl ?_)
  refine l_pure (gd_yes 35 (by kernel_rfl) rfl (decide_eq_true rfl)) (s_ixr (i := 0)  rfl rfl hva (by omega) (by first | omega | (simp; done) | (simp; omega)) si_27 ?_)
  refine l_read (gd_yes 35 (by kernel_rfl) rfl (decide_eq_true rfl)) (s_lde (i := 0) 0  rfl vi_2 hva (by first | omega | (simp; done) | (simp; omega)) rfl rfl (.inr rfl) ?_)
  refine l_pure (gd_yes 35 (by kernel_rfl) rfl (decide_eq_true rfl)) (s_eql  rfl rfl ?_)
  refine l_pure rfl (s_pick (vb rfl (decide_eq_true rfl)) rfl ?_)
  refine l_pure rfl (s_move  rfl ?_)
  refine l_pure (gd_yes 41 (by kernel_rfl) rfl (decide_eq_true rfl)) (s_move  rfl ?_)
  refine l_pure (gd_yes 41 (by kernel_rfl) rfl (decide_eq_true rfl)) (s_ixr (i := 1)  rfl rfl hva (by omega) (by first | omega | (simp; done) | (simp; omega)) si_27 ?_)
  refine l_read (gd_yes 41 (by kernel_rfl) rfl (decide_eq_true rfl)) (s_lde (i := 1) 0  rfl vi_2 hva (by first | omega | (simp; done) | (simp; omega)) rfl rfl (.inr rfl) ?_)
  refine l_pure (gd_yes 41 (by kernel_rfl) rfl (decide_eq_true rfl)) (s_eql  rfl rfl ?_)
  refine l_pure rfl (s_pick (vb rfl (decide_eq_true rfl)) rfl ?_)
  refine l_pure rfl (s_move  rfl ?_)
  refine l_pure (gd_yes 47 (by kernel_rfl) rfl (decide_eq_true rfl)) (s_move  rfl ?_)
  refine l_pure (gd_yes 47 (by kernel_rfl) rfl (decide_eq_true rfl)) (s_ixr (i := 2)  rfl rfl hva (by omega) (by first | omega | (simp; done) | (simp; omega)) si_27 ?_)
  refine l_read (gd_yes 47 (by kernel_rfl) rfl (decide_eq_true rfl)) (s_lde (i := 2) 0  rfl vi_2 hva (by first | omega | (simp; done) | (simp; omega)) rfl rfl (.inr rfl) ?_)
  refine l_pure (gd_yes 47 (by kernel_rfl) rfl (decide_eq_true rfl)) (s_eql  rfl rfl ?_)
  refine l_pure rfl (s_pick (vb rfl (decide_eq_true rfl)) rfl ?_)
  refine l_pure rfl (s_move  rfl ?_)
  refine l_pure (gd_yes 53 (by kernel_rfl) rfl (decide_eq_true rfl)) (s_move  rfl ?_)
  refine l_pure (gd_yes 53 (by kernel_rfl) rfl (decide_eq_true rfl)) (s_eql  rfl rfl ?_)
  refine l_pure rfl (s_pick (vb rfl (decide_eq_true rfl)) rfl ?_)
  refine l_pure rfl (s_move  rfl ?_)
  refine l_pure (gd_yes 57 (by kernel_rfl) rfl rfl) (s_move  rfl ?_)
  refine l_pure (gd_yes 57 (by kernel_rfl) rfl rfl) (s_lenr  rfl hvb ⟨_, Tryd.underlying27⟩ ?_)
  refine l_pure (gd_yes 57 (by kernel_rfl) rfl rfl) (s_eql  rfl rfl ?_)
  refine l_pure rfl (s_pick (vb rfl rfl) rfl ?_)
  refine l_pure rfl (s_move  rfl ?_)
  refine l_pure (gd_yes 62 (by kernel_rfl) rfl (decide_eq_true rfl)) (s_move  rfl ?_)
  refine l_pure (gd_yes 62 (by kernel_rfl) rfl (decide_eq_true rfl)) (s_ixr (i := 0)  rfl rfl hvb (by omega) (by first | omega | (simp; done) | (simp; omega)) si_27 ?_)
  refine l_read (gd_yes 62 (by kernel_rfl) rfl (decide_eq_true rfl)) (s_lde (i := 0) 0  rfl vi_2 hvb (by first | omega | (simp; done) | (simp; omega)) rfl rfl (.inr rfl) ?_)
  refine l_pure (gd_yes 62 (by kernel_rfl) rfl (decide_eq_true rfl)) (s_eql  rfl rfl ?_)
  refine l_pure rfl (s_pick (vb rfl (decide_eq_true rfl)) rfl ?_)
  refine l_pure rfl (s_move  rfl ?_)
  refine l_pure (gd_yes 68 (by kernel_rfl) rfl (decide_eq_true rfl)) (s_move  rfl ?_)
  refine l_pure (gd_yes 68 (by kernel_rfl) rfl (decide_eq_true rfl)) (s_ixr (i := 1)  rfl rfl hvb (by omega) (by first | omega | (simp; done) | (simp; omega)) si_27 ?_)
  refine l_read (gd_yes 68 (by kernel_rfl) rfl (decide_eq_true rfl)) (s_lde (i := 1) 0  rfl vi_2 hvb (by first | omega | (simp; done) | (simp; omega)) rfl rfl (.inr rfl) ?_)
  refine l_pure (gd_yes 68 (by kernel_rfl) rfl (decide_eq_true rfl)) (s_eql  rfl rfl ?_)
  refine l_pure rfl (s_pick (vb rfl (decide_eq_true rfl)) rfl ?_)
  refine l_pure rfl (s_asg  rfl ?_)
  refine l_nil ?_
  repeat (with_reducible first | refine c_seq ?_ | refine c_block ?_ | refine c_skip ?_ | refine x_then ?_ | refine x_block ?_)
  refine c_ret ?_
  repeat (with_reducible first | refine x_then_ret ?_ | refine x_block_ret ?_)
  refine r_one rfl rfl ?_
  exact ⟨vb rfl (decide_eq_true rfl), hS.below⟩
end Go.Proofs.YtblfipdfklpmmabDoor
