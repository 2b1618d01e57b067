/-
  Part 7 of the texts that the law's proof is made of: the framework and the walks.
-/
import Derived.Test.YtmghobajmhdbfaaGreatDoorPd6
namespace Go.Proofs.YtmghobajmhdbfaaGreatDoor
open Go Go.RowKit Go.Sx
def nQ (l : List Nat) : List Int := l.map fun x : Nat => (x : Int)
theorem nQ_len (l : List Nat) : (nQ l).length = l.length := by unfold nQ; rw [List.length_map]
theorem nQ_drop (Q : List Nat) {d : Nat} (h : d < Q.length) : nQ (Q.drop d) = ((Q.getD d 0 : Nat) : Int) :: nQ (Q.drop (d + 1)) := by
  unfold nQ
  rw [List.drop_eq_getElem_cons h, getD_ge Q 0 h]; rfl
theorem nQ_snoc (Q : List Nat) {d : Nat} (k : Nat) (h : d ≤ Q.length) : nQ ((Q ++ [k]).drop d) = nQ (Q.drop d) ++ [(k : Int)] := by
  unfold nQ
  rw [List.drop_append_of_le_length h, List.map_append]; rfl
/-- A flow in memory, read. -/
structure FlM (w : World) (bf : Nat) (vP vO vI vY vL : Value) (vs : List Value) (n m : Nat) (ow : List RR) (R : List Nat) (P : Nat → Nat → Rat) (lf : Nat → Rat) : Prop where
  a0 : At w ⟨bf, 0, none⟩ [vP, vO, vI, vY, vL]
  o : Sl encR 3 w vO ow
  ol : ow.length = m
  i : Sl (uk .u64) 1 w vI R
  y : Mts encR 3 w vY (tabM n m fun i k => ofQ (P i k)) vs
  l : Sl encR 3 w vL (tab n fun i => ofQ (lf i))
theorem atk1 {w : World} {b k : Nat} {cs : List Value} {v : Value} (h : At w ⟨b, 0, none⟩ cs) (hk : cs[k]? = some v) : At w ⟨b, k, none⟩ [v] := by
  intro j u hj
  cases j with
  | zero =>
    obtain rfl : v = u := Option.some.inj hj
    have := h k v hk
    rw [add_lit, Nat.zero_add] at this
    rw [add_lit, Nat.add_zero]; exact this
  | succ j => cases hj
section
variable {w w' : World} {bf : Nat} {vP vO vI vY vL : Value} {vs : List Value} {n m : Nat} {ow : List RR} {R : List Nat} {P : Nat → Nat → Rat} {lf : Nat → Rat}
theorem FlM.below (h : FlM w bf vP vO vI vY vL vs n m ow R P lf) (hb : Below w.heap.size w w') : FlM w' bf vP vO vI vY vL vs n m ow R P lf :=
  ⟨h.a0.below hb, h.o.below hb, h.ol, h.i.below hb, h.y.below hb, h.l.below hb⟩
theorem FlM.row (h : FlM w bf vP vO vI vY vL vs n m ow R P lf) {i : Nat} (hi : i < n) : Sl encR 3 w (vs.getD i undef) (tab m fun k => ofQ (P i k)) := by
  have := h.y.row i (by rw [tabM_len]; exact hi)
  rwa [tabM_row _ hi] at this
end
theorem setrep {α : Type} (x z : α) (n : Nat) {i : Nat} (hi : i < n) : (List.replicate i x ++ List.replicate (n - i) z).set i x = List.replicate (i + 1) x ++ List.replicate (n - (i + 1)) z := by
  rw [List.set_append_right _ _ (by rw [List.length_replicate]; exact Nat.le_refl _), List.length_replicate, Nat.sub_self, show n - i = (n - (i + 1)) + 1 by omega, List.replicate_succ, List.set_cons_zero, List.replicate_succ', List.append_assoc]; rfl
set_option maxHeartbeats 4000000 in
theorem path_ok (bf : Nat) (vP vO vI vY vL : Value) (vs : List Value) (m c : Nat) (X : List It) (ow : List RR) (R : List Nat) (P : Nat → Nat → Rat) (lf : Nat → Rat) (w : World) (hF : FlM w bf vP vO vI vY vL vs X.length m ow R P lf) (hR : Masks X m X.length 0 R) (hc : c < m) (hX8 : X.length ≤ 8) (hm : m ≤ 24)
    (hlf : ∀ i, i < X.length → L (lf i) ≤ MX) (hP : ∀ i, i < X.length → ∀ k, k < m → L (P i k) ≤ MX) :
    Ret Tryz.prog 28 #[.pointer (some ⟨bf, 0, none⟩), .int .i64 c] w fun v w' =>
      (v = .slice none 0 0 ∧ Below w.heap.size w w' ∧ ∃ S T : Nat → Bool, S c = true ∧ (∀ i, i < X.length → T i = true → ¬ 0 < lf i ∧ ∀ k, k < m → 0 < P i k → S k = true) ∧ (∀ k, k < m → S k = true → ∀ i, i < X.length → secF X i k = true → T i = true)) ∨
      (∃ W LW, Gl enI 3 1 v (flW W) LW ∧ St w w' LW ∧ WayOk X.length m (secF X) P lf c W ∧ W.length ≤ m) := by
  obtain ⟨n, hn⟩ : ∃ n, n = X.length := ⟨_, rfl⟩
  have hS := St.init w
  have htl := tab_len n fun i => ofQ (lf i)
  have hol := hF.ol
  rw [← hn] at hF hX8 hlf hP ⊢
  refine enter Tryz.func28 rfl Tryz.ntmps28 rfl ?_
  repeat (with_reducible first | refine c_seq ?_ | refine c_block ?_ | refine c_skip ?_ | refine x_then ?_ | refine x_block ?_)
  refine c_reg ?_
  refine l_pure rfl (s_asg  rfl ?_)
  refine l_nil ?_
  repeat (with_reducible first | refine c_seq ?_ | refine c_block ?_ | refine c_skip ?_ | refine x_then ?_ | refine x_block ?_)
  refine c_reg ?_
  refine l_pure rfl (s_move  rfl ?_)
  refine l_pure rfl (s_nilp  rfl ?_)
  refine l_pure rfl (s_fld  rfl fo_70_2 ?_)
  refine l_read rfl (s_ld  rfl vi_24 (atk1 (k := 4) (hF.below hS.below).a0 rfl) rfl rfl (.inr rfl) ?_)
  refine l_pure rfl (s_lenr  rfl ((hF.below hS.below).l) ⟨_, Tryz.underlying24⟩ ?_)
  refine l_pure rfl (s_asg  rfl ?_)
  refine l_nil ?_
  repeat (with_reducible first | refine c_seq ?_ | refine c_block ?_ | refine c_skip ?_ | refine x_then ?_ | refine x_block ?_)
  rw [htl]
  repeat (with_reducible first | refine c_seq ?_ | refine c_block ?_ | refine c_skip ?_ | refine x_then ?_ | refine x_block ?_)
  refine c_reg ?_
  refine l_pure rfl (s_move  rfl ?_)
  refine l_heavy rfl (s_makeE (enc := enI) (n := n) 0  rfl rfl si_47 rfl (by omega) (by omega) (by omega) (by omega) hS ?_)
  intro bF wz1 hS hBz1
  refine l_pure rfl (s_asg  rfl ?_)
  refine l_nil ?_
  repeat (with_reducible first | refine c_seq ?_ | refine c_block ?_ | refine c_skip ?_ | refine x_then ?_ | refine x_block ?_)
  refine c_reg ?_
  refine l_pure rfl (s_move  rfl ?_)
  refine l_pure rfl (s_nilp  rfl ?_)
  refine l_pure rfl (s_fld  rfl fo_70_0 ?_)
  refine l_pure rfl (s_fld  rfl fo_67_1 ?_)
  refine l_read rfl (s_ld  rfl vi_24 (atk1 (k := 1) (hF.below hS.below).a0 rfl) rfl rfl (.inr rfl) ?_)
  refine l_pure rfl (s_lenr  rfl ((hF.below hS.below).o) ⟨_, Tryz.underlying24⟩ ?_)
  refine l_heavy rfl (s_makeE (enc := enI) (n := m) 0  rfl rfl si_47 rfl (by omega) (by omega) (by omega) (by omega) hS ?_)
  intro bB wz2 hS hBz2
  refine l_pure rfl (s_asg  rfl ?_)
  refine l_nil ?_
  repeat (with_reducible first | refine c_seq ?_ | refine c_block ?_ | refine c_skip ?_ | refine x_then ?_ | refine x_block ?_)
  rw [hol]
  replace hS : St w _ [(bB, 3, (List.replicate m 0).flatMap enI), (bF, 3, (List.replicate n 0).flatMap enI)] := hS
  repeat (with_reducible first | refine c_seq ?_ | refine c_block ?_ | refine c_skip ?_ | refine x_then ?_ | refine x_block ?_)
  refine c_reg ?_
  refine l_pure rfl (s_move  rfl ?_)
  refine l_pure rfl (s_leno  rfl ⟨_, Tryz.underlying47⟩ ?_)
  refine l_pure rfl (s_move  rfl ?_)
  refine l_nil ?_
  repeat (with_reducible first | refine c_seq ?_ | refine c_skip ?_ | refine x_then ?_ | refine x_block ?_)
  refine c_cut1 (fun ρ w' => ρ 0 = .pointer (some ⟨bf, 0, none⟩) ∧ ρ 1 = .int .i64 c ∧ ρ 5 = .int .i64 n ∧ ρ 6 = .slice (some ⟨bF, 0, none⟩) n n ∧ ρ 7 = .slice (some ⟨bB, 0, none⟩) m m ∧ St w w' [(bB, 3, (List.replicate m 0).flatMap enI), (bF, 3, (List.replicate n (-1)).flatMap enI)]) ?_ ?_
  · repeat (with_reducible first | refine c_seq ?_ | refine c_block ?_ | refine c_skip ?_ | refine x_then ?_ | refine x_block ?_)
    refine c_loop (σ := Nat) (fun i ρ w' => i ≤ n ∧ ρ 0 = .pointer (some ⟨bf, 0, none⟩) ∧ ρ 1 = .int .i64 c ∧ ρ 5 = .int .i64 n ∧ ρ 6 = .slice (some ⟨bF, 0, none⟩) n n ∧ ρ 7 = .slice (some ⟨bB, 0, none⟩) m m ∧ ρ 30 = .int .i64 n ∧ ρ 31 = .int .i64 i ∧
      St w w' [(bB, 3, (List.replicate m 0).flatMap enI), (bF, 3, (List.replicate i (-1) ++ List.replicate (n - i) 0).flatMap enI)]) (fun i => n - i) 0
      ⟨Nat.zero_le _, rfl, rfl, rfl, rfl, rfl, rfl, rfl, hS⟩ ?_
    clear hS
    rintro i ρ w2 ⟨hi, h0, h1, h5, h6, h7, h30, h31, hS⟩
    have hll : (List.replicate i (-1 : Int) ++ List.replicate (n - i) 0).length = n := by simp; omega
    repeat (with_reducible first | refine c_seq ?_ | refine c_block ?_ | refine c_skip ?_ | refine x_then ?_ | refine x_block ?_)
    refine c_reg ?_
    refine l_pure rfl (s_lss  h31 h30 ?_)
    refine l_nil ?_
    repeat (with_reducible first | refine c_seq ?_ | refine c_block ?_ | refine c_skip ?_ | refine x_then ?_ | refine x_block ?_)
    by_cases hlt : i < n
    · refine c_yes rfl (decide_eq_true (by omega)) ?_
      repeat (with_reducible first | refine c_seq ?_ | refine c_block ?_ | refine c_skip ?_ | refine x_then ?_ | refine x_block ?_)
      refine c_reg ?_
      refine l_pure rfl (s_move  h31 ?_)
      refine l_pure rfl (s_asg  rfl ?_)
      refine l_nil ?_
      repeat (with_reducible first | refine c_seq ?_ | refine c_block ?_ | refine c_skip ?_ | refine x_then ?_ | refine x_block ?_)
      refine c_reg ?_
      refine l_pure rfl (s_move  h6 ?_)
      refine l_pure rfl (s_move  rfl ?_)
      refine l_pure rfl (s_ixo (i := i)  rfl rfl (by omega) (by first | omega | (simp; done) | (simp; omega)) si_47 ?_)
      refine l_heavy rfl (s_stE (k := 1) (i := i) (enc := enI) (-1) (fun _ => rfl)  rfl rfl vi_3 hS rfl (by first | omega | simp) (by first | omega | (simp; done) | (simp; omega)) rfl rfl ?_)
      intro wz3 hS
      refine l_nil ?_
      repeat (with_reducible first | refine c_seq ?_ | refine c_block ?_ | refine c_skip ?_ | refine x_then ?_ | refine x_block ?_)
      replace hS : St w _ [(bB, 3, (List.replicate m 0).flatMap enI), (bF, 3, ((List.replicate i (-1) ++ List.replicate (n - i) 0).set i (-1)).flatMap enI)] := hS
      rw [setrep _ _ _ hlt] at hS
      repeat (with_reducible first | refine c_seq ?_ | refine c_block ?_ | refine c_skip ?_ | refine x_then ?_ | refine x_block ?_)
      refine c_reg ?_
      refine l_pure rfl (s_add  h31 rfl (IntWalk.i64_in _ (by omega)) ?_)
      refine l_pure rfl (s_move  rfl ?_)
      refine l_nil ?_
      repeat (with_reducible first | refine c_seq ?_ | refine c_block ?_ | refine c_skip ?_ | refine x_then ?_ | refine x_block ?_)
      exact ⟨i + 1, _, rfl, ⟨hlt, h0, h1, h5, h6, h7, h30, vi rfl (by omega), hS⟩, by omega⟩
    · refine c_no rfl (decide_eq_false (by omega)) ?_
      repeat (with_reducible first | refine c_seq ?_ | refine c_block ?_ | refine c_skip ?_ | refine x_then ?_ | refine x_block ?_)
      refine c_exit ?_
      repeat (with_reducible first | refine x_then_exit ?_ | refine x_block_exit ?_ | refine x_block_pass rfl ?_)
      repeat (with_reducible first | refine c_seq ?_ | refine c_block ?_ | refine c_skip ?_ | refine x_then ?_ | refine x_block ?_)
      obtain rfl : i = n := by omega
      rw [Nat.sub_self, List.replicate_zero, List.append_nil] at hS
      exact ⟨_, rfl, h0, h1, h5, h6, h7, hS⟩
  clear hS
  rintro ρ w2 ⟨h0, h1, h5, h6, h7, hS⟩
  repeat (with_reducible first | refine c_seq ?_ | refine c_block ?_ | refine c_skip ?_ | refine x_then ?_ | refine x_block ?_)
  refine c_reg ?_
  refine l_pure rfl (s_move  h7 ?_)
  refine l_pure rfl (s_leno  rfl ⟨_, Tryz.underlying47⟩ ?_)
  refine l_pure rfl (s_move  rfl ?_)
  refine l_nil ?_
  repeat (with_reducible first | refine c_seq ?_ | refine c_skip ?_ | refine x_then ?_ | refine x_block ?_)
  refine c_cut1 (fun ρ w' => ρ 0 = .pointer (some ⟨bf, 0, none⟩) ∧ ρ 1 = .int .i64 c ∧ ρ 5 = .int .i64 n ∧ ρ 6 = .slice (some ⟨bF, 0, none⟩) n n ∧ ρ 7 = .slice (some ⟨bB, 0, none⟩) m m ∧ St w w' [(bB, 3, (List.replicate m (-1)).flatMap enI), (bF, 3, (List.replicate n (-1)).flatMap enI)]) ?_ ?_
  · repeat (with_reducible first | refine c_seq ?_ | refine c_block ?_ | refine c_skip ?_ | refine x_then ?_ | refine x_block ?_)
    refine c_loop (σ := Nat) (fun i ρ w' => i ≤ m ∧ ρ 0 = .pointer (some ⟨bf, 0, none⟩) ∧ ρ 1 = .int .i64 c ∧ ρ 5 = .int .i64 n ∧ ρ 6 = .slice (some ⟨bF, 0, none⟩) n n ∧ ρ 7 = .slice (some ⟨bB, 0, none⟩) m m ∧ ρ 39 = .int .i64 m ∧ ρ 40 = .int .i64 i ∧
      St w w' [(bB, 3, (List.replicate i (-1) ++ List.replicate (m - i) 0).flatMap enI), (bF, 3, (List.replicate n (-1)).flatMap enI)]) (fun i => m - i) 0
      ⟨Nat.zero_le _, h0, h1, h5, h6, h7, rfl, rfl, hS⟩ ?_
    clear hS h0 h1 h5 h6 h7
    rintro i ρ w2 ⟨hi, h0, h1, h5, h6, h7, h39, h40, hS⟩
    have hll : (List.replicate i (-1 : Int) ++ List.replicate (m - i) 0).length = m := by simp; omega
    repeat (with_reducible first | refine c_seq ?_ | refine c_block ?_ | refine c_skip ?_ | refine x_then ?_ | refine x_block ?_)
    refine c_reg ?_
    refine l_pure rfl (s_lss  h40 h39 ?_)
    refine l_nil ?_
    repeat (with_reducible first | refine c_seq ?_ | refine c_block ?_ | refine c_skip ?_ | refine x_then ?_ | refine x_block ?_)
    by_cases hlt : i < m
    · refine c_yes rfl (decide_eq_true (by omega)) ?_
      repeat (with_reducible first | refine c_seq ?_ | refine c_block ?_ | refine c_skip ?_ | refine x_then ?_ | refine x_block ?_)
      refine c_reg ?_
      refine l_pure rfl (s_move  h40 ?_)
      refine l_pure rfl (s_asg  rfl ?_)
      refine l_nil ?_
      repeat (with_reducible first | refine c_seq ?_ | refine c_block ?_ | refine c_skip ?_ | refine x_then ?_ | refine x_block ?_)
      refine c_reg ?_
      refine l_pure rfl (s_move  h7 ?_)
      refine l_pure rfl (s_move  rfl ?_)
      refine l_pure rfl (s_ixo (i := i)  rfl rfl (by omega) (by first | omega | (simp; done) | (simp; omega)) si_47 ?_)
      refine l_heavy rfl (s_stE (k := 0) (i := i) (enc := enI) (-1) (fun _ => rfl)  rfl rfl vi_3 hS rfl (by first | omega | simp) (by first | omega | (simp; done) | (simp; omega)) rfl rfl ?_)
      intro wz4 hS
      refine l_nil ?_
      repeat (with_reducible first | refine c_seq ?_ | refine c_block ?_ | refine c_skip ?_ | refine x_then ?_ | refine x_block ?_)
      replace hS : St w _ [(bB, 3, ((List.replicate i (-1) ++ List.replicate (m - i) 0).set i (-1)).flatMap enI), (bF, 3, (List.replicate n (-1)).flatMap enI)] := hS
      rw [setrep _ _ _ hlt] at hS
      repeat (with_reducible first | refine c_seq ?_ | refine c_block ?_ | refine c_skip ?_ | refine x_then ?_ | refine x_block ?_)
      refine c_reg ?_
      refine l_pure rfl (s_add  h40 rfl (IntWalk.i64_in _ (by omega)) ?_)
      refine l_pure rfl (s_move  rfl ?_)
      refine l_nil ?_
      repeat (with_reducible first | refine c_seq ?_ | refine c_block ?_ | refine c_skip ?_ | refine x_then ?_ | refine x_block ?_)
      exact ⟨i + 1, _, rfl, ⟨hlt, h0, h1, h5, h6, h7, h39, vi rfl (by omega), hS⟩, by omega⟩
    · refine c_no rfl (decide_eq_false (by omega)) ?_
      repeat (with_reducible first | refine c_seq ?_ | refine c_block ?_ | refine c_skip ?_ | refine x_then ?_ | refine x_block ?_)
      refine c_exit ?_
      repeat (with_reducible first | refine x_then_exit ?_ | refine x_block_exit ?_ | refine x_block_pass rfl ?_)
      repeat (with_reducible first | refine c_seq ?_ | refine c_block ?_ | refine c_skip ?_ | refine x_then ?_ | refine x_block ?_)
      obtain rfl : i = m := by omega
      rw [Nat.sub_self, List.replicate_zero, List.append_nil] at hS
      exact ⟨_, rfl, h0, h1, h5, h6, h7, hS⟩
  clear hS h0 h1 h5 h6 h7
  rintro ρ w2 ⟨h0, h1, h5, h6, h7, hS⟩
  repeat (with_reducible first | refine c_seq ?_ | refine c_block ?_ | refine c_skip ?_ | refine x_then ?_ | refine x_block ?_)
  refine c_reg ?_
  refine l_pure rfl (s_move  h0 ?_)
  refine l_pure rfl (s_nilp  rfl ?_)
  refine l_pure rfl (s_fld  rfl fo_70_0 ?_)
  refine l_pure rfl (s_fld  rfl fo_67_1 ?_)
  refine l_read rfl (s_ld  rfl vi_24 (atk1 (k := 1) (hF.below hS.below).a0 rfl) rfl rfl (.inr rfl) ?_)
  refine l_pure rfl (s_lenr  rfl ((hF.below hS.below).o) ⟨_, Tryz.underlying24⟩ ?_)
  refine l_heavy rfl (s_makeE (enc := enB) (n := m) false  rfl rfl si_81 rfl (by omega) (by omega) (by omega) (by omega) hS ?_)
  intro bZ wz5 hS hBz5
  refine l_pure rfl (s_asg  rfl ?_)
  refine l_nil ?_
  repeat (with_reducible first | refine c_seq ?_ | refine c_block ?_ | refine c_skip ?_ | refine x_then ?_ | refine x_block ?_)
  rw [hol]
  have hzl : (List.replicate m false).length = m := List.length_replicate
  repeat (with_reducible first | refine c_seq ?_ | refine c_block ?_ | refine c_skip ?_ | refine x_then ?_ | refine x_block ?_)
  refine c_reg ?_
  refine l_pure rfl (s_move  rfl ?_)
  refine l_pure rfl (s_move  h1 ?_)
  refine l_pure rfl (s_ixo (i := c)  rfl rfl (by omega) (by first | omega | (simp; done) | (simp; omega)) si_81 ?_)
  refine l_heavy rfl (s_stE (k := 0) (i := c) (enc := enB) true (fun _ => rfl)  rfl rfl vi_4 hS rfl (by first | omega | simp) (by first | omega | (simp; done) | (simp; omega)) rfl rfl ?_)
  intro wz6 hS
  refine l_nil ?_
  repeat (with_reducible first | refine c_seq ?_ | refine c_block ?_ | refine c_skip ?_ | refine x_then ?_ | refine x_block ?_)
  replace hS : St w _ [(bZ, 4, ((List.replicate m false).set c true).flatMap enB), (bB, 3, (List.replicate m (-1)).flatMap enI), (bF, 3, (List.replicate n (-1)).flatMap enI)] := hS
  repeat (with_reducible first | refine c_seq ?_ | refine c_block ?_ | refine c_skip ?_ | refine x_then ?_ | refine x_block ?_)
  refine c_reg ?_
  refine l_pure rfl (s_move  h1 ?_)
  refine l_heavy rfl (s_bsl (vs := [.int .i64 c])  rfl si_47 rfl (by decide) (by decide) (by decide) (by simp [Value.cells]) rfl hS ?_)
  intro bq wz7 hS hBz7
  refine l_pure rfl (s_asg  rfl ?_)
  refine l_nil ?_
  repeat (with_reducible first | refine c_seq ?_ | refine c_skip ?_ | refine x_then ?_ | refine x_block ?_)
  have hG0 : Gq enI 3 1 (.slice (some ⟨bq, 0, none⟩) 1 1) (nQ ([c].drop 0)) [(bq, 3, (nQ ([c].drop 0)).flatMap enI)] := Gq.made rfl (by decide)
  replace hS : St w _ ((bq, 3, (nQ ([c].drop 0)).flatMap enI) :: [(bZ, 4, ((List.replicate m false).set c true).flatMap enB), (bB, 3, (List.replicate m (-1)).flatMap enI), (bF, 3, (List.replicate n (-1)).flatMap enI)]) := hS
  replace hS : St w _ ([(bZ, 4, ((List.replicate m false).set c true).flatMap enB), (bB, 3, (List.replicate m (-1)).flatMap enI), (bF, 3, (List.replicate n (-1)).flatMap enI)] ++ [(bq, 3, (nQ ([c].drop 0)).flatMap enI)]) := hS.perm (List.perm_append_comm (l₁ := [_]))
  refine c_cut1 (fun ρ w' => ∃ Q F B Z vq LQ, ρ 0 = .pointer (some ⟨bf, 0, none⟩) ∧ Bf n m c (secF X) P Q Q.length F B Z ∧ Dn n m (secF X) P lf Q Q.length 0 n F ∧ Gq enI 3 1 vq (nQ (Q.drop Q.length)) LQ ∧ St w w' ([(bZ, 4, Z.flatMap enB), (bB, 3, B.flatMap enI), (bF, 3, F.flatMap enI)] ++ LQ)) ?_ ?_
  · repeat (with_reducible first | refine c_seq ?_ | refine c_block ?_ | refine c_skip ?_ | refine x_then ?_ | refine x_block ?_)
    refine c_loop (σ := Nat) (fun d ρ w' => ρ 0 = .pointer (some ⟨bf, 0, none⟩) ∧ ρ 5 = .int .i64 n ∧ ρ 6 = .slice (some ⟨bF, 0, none⟩) n n ∧ ρ 7 = .slice (some ⟨bB, 0, none⟩) m m ∧ ρ 10 = .slice (some ⟨bZ, 0, none⟩) m m ∧
        ∃ Q F B Z vq LQ, ρ 11 = vq ∧ d ≤ Q.length ∧ Bf n m c (secF X) P Q d F B Z ∧ Dn n m (secF X) P lf Q d 0 n F ∧ Gq enI 3 1 vq (nQ (Q.drop d)) LQ ∧ St w w' ([(bZ, 4, Z.flatMap enB), (bB, 3, B.flatMap enI), (bF, 3, F.flatMap enI)] ++ LQ)) (fun d => m - d) 0
      ⟨by assumption, by assumption, by assumption, by assumption, rfl, _, _, _, _, _, _, rfl, Nat.zero_le _, Bf.start hc, Dn.start, hG0, hS⟩ ?_
    clear hS hG0 h0 h1 h5 h6 h7
    rintro d ρ w3 ⟨h0, h5, h6, h7, h10, Q, F, B, Z, vq, LQ, h11, hd, hB, hD, hG, hS⟩
    have hql : (nQ (Q.drop d)).length = Q.length - d := by rw [nQ_len, List.length_drop]
    have hQm := nodup_le hB.nd hB.lt
    obtain ⟨aq, cq, rfl⟩ := hG.len
    repeat (with_reducible first | refine c_seq ?_ | refine c_block ?_ | refine c_skip ?_ | refine x_then ?_ | refine x_block ?_)
    refine c_reg ?_
    refine l_pure rfl (s_move  h11 ?_)
    refine l_pure rfl (s_leno  rfl ⟨_, Tryz.underlying47⟩ ?_)
    refine l_pure rfl (s_gtr  rfl rfl ?_)
    refine l_nil ?_
    repeat (with_reducible first | refine c_seq ?_ | refine c_block ?_ | refine c_skip ?_ | refine x_then ?_ | refine x_block ?_)
    by_cases hlt : d < Q.length
    · refine c_yes rfl (decide_eq_true (by omega)) ?_
      repeat (with_reducible first | refine c_seq ?_ | refine c_block ?_ | refine c_skip ?_ | refine x_then ?_ | refine x_block ?_)
      have hne : nQ (Q.drop d) ≠ [] := by rw [nQ_drop Q hlt]; exact List.cons_ne_nil _ _
      obtain ⟨cc, hcc⟩ : ∃ cc, cc = Q.getD d 0 := ⟨_, rfl⟩
      have hccm : cc < m := by rw [hcc]; exact hB.lt _ (mem_nat hlt)
      have hq0 : (nQ (Q.drop d)).getD 0 0 = (cc : Int) := by rw [nQ_drop Q hlt, hcc]; rfl
      repeat (with_reducible first | refine c_seq ?_ | refine c_block ?_ | refine c_skip ?_ | refine x_then ?_ | refine x_block ?_)
      refine c_reg ?_
      refine l_pure rfl (s_move  h11 ?_)
      refine l_pure rfl (s_ixr (i := 0)  rfl rfl (hG.sl hS (fun _ => rfl) hne) (by omega) (by first | omega | (simp; done) | (simp; omega)) si_47 ?_)
      refine l_read rfl (s_lde (i := 0) 0  rfl vi_3 (hG.sl hS (fun _ => rfl) hne) (by first | omega | (simp; done) | (simp; omega)) rfl rfl (.inr rfl) ?_)
      refine l_pure rfl (s_asg  rfl ?_)
      refine l_nil ?_
      repeat (with_reducible first | refine c_seq ?_ | refine c_block ?_ | refine c_skip ?_ | refine x_then ?_ | refine x_block ?_)
      rw [hq0]
      repeat (with_reducible first | refine c_seq ?_ | refine c_block ?_ | refine c_skip ?_ | refine x_then ?_ | refine x_block ?_)
      refine c_reg ?_
      refine l_pure rfl (s_move  h5 ?_)
      refine l_pure rfl (s_move  rfl ?_)
      refine l_nil ?_
      repeat (with_reducible first | refine c_seq ?_ | refine c_skip ?_ | refine x_then ?_ | refine x_block ?_)
      replace hB := hB.mono (Nat.le_succ d)
      refine c_cut1 (fun ρ w' => ρ 0 = .pointer (some ⟨bf, 0, none⟩) ∧ ρ 5 = .int .i64 n ∧ ρ 6 = .slice (some ⟨bF, 0, none⟩) n n ∧ ρ 7 = .slice (some ⟨bB, 0, none⟩) m m ∧ ρ 10 = .slice (some ⟨bZ, 0, none⟩) m m ∧
        ∃ Q F B Z vq LQ, ρ 11 = vq ∧ d < Q.length ∧ Bf n m c (secF X) P Q (d + 1) F B Z ∧ Dn n m (secF X) P lf Q d n n F ∧ Gq enI 3 1 vq (nQ (Q.drop d)) LQ ∧ St w w' ([(bZ, 4, Z.flatMap enB), (bB, 3, B.flatMap enI), (bF, 3, F.flatMap enI)] ++ LQ)) ?_ ?_
      · repeat (with_reducible first | refine c_seq ?_ | refine c_block ?_ | refine c_skip ?_ | refine x_then ?_ | refine x_block ?_)
        refine c_loop (σ := Nat) (fun i ρ w' => i ≤ n ∧ ρ 0 = .pointer (some ⟨bf, 0, none⟩) ∧ ρ 5 = .int .i64 n ∧ ρ 6 = .slice (some ⟨bF, 0, none⟩) n n ∧ ρ 7 = .slice (some ⟨bB, 0, none⟩) m m ∧ ρ 10 = .slice (some ⟨bZ, 0, none⟩) m m ∧ ρ 12 = .int .i64 cc ∧ ρ 67 = .int .i64 n ∧ ρ 68 = .int .i64 i ∧
          ∃ Q F B Z vq LQ, ρ 11 = vq ∧ d < Q.length ∧ Q.getD d 0 = cc ∧ Bf n m c (secF X) P Q (d + 1) F B Z ∧ Dn n m (secF X) P lf Q d i n F ∧ Gq enI 3 1 vq (nQ (Q.drop d)) LQ ∧ St w w' ([(bZ, 4, Z.flatMap enB), (bB, 3, B.flatMap enI), (bF, 3, F.flatMap enI)] ++ LQ)) (fun i => n - i) 0
          ⟨Nat.zero_le _, by assumption, by assumption, by assumption, by assumption, by assumption, rfl, rfl, rfl, Q, F, B, Z, _, LQ, by assumption, hlt, hcc.symm, hB, hD, hG, hS⟩ ?_
        clear hS hG hB hD hne hq0 hcc hlt hQm hql hd h0 h5 h6 h7 h10 h11
        clear Q F B Z LQ
        rintro i ρ w4 ⟨hi, h0, h5, h6, h7, h10, h12, h67, h68, Q, F, B, Z, vq, LQ, h11, hlt, hcc, hB, hD, hG, hS⟩
        have hFl := hB.fl
        have hRl := hR.len
        repeat (with_reducible first | refine c_seq ?_ | refine c_block ?_ | refine c_skip ?_ | refine x_then ?_ | refine x_block ?_)
        refine c_reg ?_
        refine l_pure rfl (s_lss  h68 h67 ?_)
        refine l_nil ?_
        repeat (with_reducible first | refine c_seq ?_ | refine c_block ?_ | refine c_skip ?_ | refine x_then ?_ | refine x_block ?_)
        by_cases hli : i < n
        · refine c_yes rfl (decide_eq_true (by omega)) ?_
          repeat (with_reducible first | refine c_seq ?_ | refine c_block ?_ | refine c_skip ?_ | refine x_then ?_ | refine x_block ?_)
          refine c_reg ?_
          refine l_pure rfl (s_move  h68 ?_)
          refine l_pure rfl (s_asg  rfl ?_)
          refine l_nil ?_
          repeat (with_reducible first | refine c_seq ?_ | refine c_block ?_ | refine c_skip ?_ | refine x_then ?_ | refine x_block ?_)
          by_cases hfi : F.getD i 0 = -1
          · have hiX : i < X.length := by omega
            have hbit := mask_bit hR hccm hiX
            have hRlt := hR.lt cc hccm
            have hp2 : 2 ^ i < 256 := Nat.lt_of_lt_of_le (Nat.pow_lt_pow_right (by decide) (show i < 8 by omega)) (by decide)
            repeat (with_reducible first | refine c_seq ?_ | refine c_block ?_ | refine c_skip ?_ | refine x_then ?_ | refine x_block ?_)
            refine c_draw [(0, .pure), (1, .pure), (2, .pure), (3, .read), (4, .pure), (5, .pure), (6, .pure), (7, .pure), (8, .pure), (9, .pure), (10, .read), (11, .pure), (12, .pure), (13, .read), (14, .pure), (15, .pure), (16, .pure), (17, .pure), (18, .pure)] (by kernel_rfl) (by kernel_rfl) hS ?_
            intro wz8 hS hBz8
            refine w_pure rfl rfl (s_move  h6 ?_)
            refine w_pure rfl rfl (s_move  rfl ?_)
            refine w_pure rfl rfl (s_ixo (i := i)  rfl rfl (by omega) (by first | omega | (simp; done) | (simp; omega)) si_47 ?_)
            refine w_read rfl rfl (s_ldE (k := 2) (i := i) (enc := enI) 0 (fun _ => rfl)  rfl vi_3 hS rfl (by first | omega | simp) (by first | omega | (simp; done) | (simp; omega)) rfl (.inr rfl) ?_)
            refine w_pure rfl rfl (s_geq  rfl rfl ?_)
            refine w_pure rfl rfl (s_move  rfl ?_)
            refine w_pure rfl (gd_yes 76 (by kernel_rfl) rfl (decide_eq_false (by omega))) (s_move  h0 ?_)
            refine w_pure rfl (gd_yes 76 (by kernel_rfl) rfl (decide_eq_false (by omega))) (s_nilp  rfl ?_)
            refine w_pure rfl (gd_yes 76 (by kernel_rfl) rfl (decide_eq_false (by omega))) (s_fld  rfl fo_70_0 ?_)
            refine w_pure rfl (gd_yes 76 (by kernel_rfl) rfl (decide_eq_false (by omega))) (s_fld  rfl fo_67_2 ?_)
            refine w_read rfl (gd_yes 76 (by kernel_rfl) rfl (decide_eq_false (by omega))) (s_ld  rfl vi_65 (atk1 (k := 2) (hF.below hS.below).a0 rfl) rfl rfl (.inr rfl) ?_)
            refine w_pure rfl (gd_yes 76 (by kernel_rfl) rfl (decide_eq_false (by omega))) (s_move  h12 ?_)
            refine w_pure rfl (gd_yes 76 (by kernel_rfl) rfl (decide_eq_false (by omega))) (s_ixr (i := cc)  rfl rfl ((hF.below hS.below).i) (by omega) (by first | omega | (simp; done) | (simp; omega)) si_65 ?_)
            refine w_read rfl (gd_yes 76 (by kernel_rfl) rfl (decide_eq_false (by omega))) (s_lde (i := cc) 0  rfl vi_85 ((hF.below hS.below).i) (by first | omega | (simp; done) | (simp; omega)) rfl rfl (.inr rfl) ?_)
            refine w_pure rfl (gd_yes 76 (by kernel_rfl) rfl (decide_eq_false (by omega))) (s_move  rfl ?_)
            refine w_pure rfl (gd_yes 76 (by kernel_rfl) rfl (decide_eq_false (by omega))) (s_shl  rfl rfl (by omega) (shl_v 1 i ((2 ^ i : Nat) : Int) (by show i ≤ 64; omega) (wr_u64 _ ⟨by rw [Nat.one_mul], Int.natCast_nonneg _, by omega⟩)) ?_)
            refine w_pure rfl (gd_yes 76 (by kernel_rfl) rfl (decide_eq_false (by omega))) (s_and  rfl rfl (r := ((R.getD cc 0 &&& 2 ^ i : Nat) : Int)) (by exact and_nat rfl _ _ (by show _ < 18446744073709551616; omega) (by show _ < 18446744073709551616; omega)) ?_)
            refine w_pure rfl (gd_yes 76 (by kernel_rfl) rfl (decide_eq_false (by omega))) (s_eql  rfl rfl ?_)
            refine w_pure rfl rfl (s_pick (vb rfl (decide_eq_false (by omega))) rfl ?_)
            refine w_end ?_
            repeat (with_reducible first | refine c_seq ?_ | refine c_block ?_ | refine c_skip ?_ | refine x_then ?_ | refine x_block ?_)
            by_cases hsec : secF X i cc = true
            · have hne : ¬ R.getD cc 0 &&& 2 ^ i = 0 := fun g => by rw [mask_and, hbit, show secures (X.getD i zIt) cc = true from hsec] at g; cases g
              refine c_no rfl (decide_eq_false (by omega)) ?_
              repeat (with_reducible first | refine c_seq ?_ | refine c_block ?_ | refine c_skip ?_ | refine x_then ?_ | refine x_block ?_)
              refine c_reg ?_
              refine l_pure rfl (s_move  h6 ?_)
              refine l_pure rfl (s_move  rfl ?_)
              refine l_pure rfl (s_move  h12 ?_)
              refine l_pure rfl (s_ixo (i := i)  rfl rfl (by omega) (by first | omega | (simp; done) | (simp; omega)) si_47 ?_)
              refine l_heavy rfl (s_stE (k := 2) (i := i) (enc := enI) (cc : Int) (fun _ => rfl)  rfl rfl vi_3 hS rfl (by first | omega | simp) (by first | omega | (simp; done) | (simp; omega)) rfl rfl ?_)
              intro wz9 hS
              refine l_nil ?_
              repeat (with_reducible first | refine c_seq ?_ | refine c_block ?_ | refine c_skip ?_ | refine x_then ?_ | refine x_block ?_)
              replace hS : St w _ ([(bZ, 4, Z.flatMap enB), (bB, 3, B.flatMap enI), (bF, 3, (F.set i (cc : Int)).flatMap enI)] ++ LQ) := hS
              replace hB := hB.take (Nat.lt_succ_self d) hlt hli hfi (by rw [hcc]; exact hsec)
              replace hD := hD.take (c := cc) hli hFl
              rw [hcc] at hB
              have hFi : (F.set i (cc : Int)).getD i 0 = (cc : Int) := by rw [getD_setL _ _ _ (by rw [hFl]; exact hli), if_pos rfl]
              obtain ⟨F', hF'⟩ : ∃ F', F' = F.set i (cc : Int) := ⟨_, rfl⟩
              rw [← hF'] at hS hB hD hFi
              have hFl' := hB.fl
              have hgl : (tab n fun i => ofQ (lf i)).getD i zRR = ofQ (lf i) := tab_get _ _ hli
              repeat (with_reducible first | refine c_seq ?_ | refine c_block ?_ | refine c_skip ?_ | refine x_then ?_ | refine x_block ?_)
              refine c_reg ?_
              refine l_pure rfl (s_move  h0 ?_)
              refine l_pure rfl (s_nilp  rfl ?_)
              refine l_pure rfl (s_fld  rfl fo_70_2 ?_)
              refine l_read rfl (s_ld  rfl vi_24 (atk1 (k := 4) (hF.below hS.below).a0 rfl) rfl rfl (.inr rfl) ?_)
              refine l_pure rfl (s_move  rfl ?_)
              refine l_pure rfl (s_ixr (i := i)  rfl rfl ((hF.below hS.below).l) (by omega) (by first | omega | (simp; done) | (simp; omega)) si_24 ?_)
              refine l_read rfl (s_lde (i := i) zRR  rfl vi_36 ((hF.below hS.below).l) (by first | omega | (simp; done) | (simp; omega)) rfl rfl (.inl rfl) ?_)
              refine l_heavy rfl (s_call Tryz.call12 rfl (Sign_ok ((tab n fun i => ofQ (lf i)).getD i zRR) _ (by rw [hgl, Lr_ofQ]; exact hlf i hli)) ?_)
              rintro _ wc10 ⟨rfl, hBc10⟩
              replace hS := hS.grow hBc10
              refine l_pure rfl (s_gtr  rfl rfl ?_)
              refine l_nil ?_
              repeat (with_reducible first | refine c_seq ?_ | refine c_block ?_ | refine c_skip ?_ | refine x_then ?_ | refine x_block ?_)
              rw [hgl, toQ_ofQ]
              by_cases hpos : 0 < lf i
              · refine c_yes rfl (decide_eq_true (sgnQ_pos.2 hpos)) ?_
                repeat (with_reducible first | refine c_seq ?_ | refine c_block ?_ | refine c_skip ?_ | refine x_then ?_ | refine x_block ?_)
                obtain ⟨W, hT, hW1, hW2, hW3⟩ := hB.wayOk (lf := lf) hlt hli (by rw [hcc]; exact hFi) hpos
                have hBl := hB.bl
                have hsF := hS.sle (k := 2) (enc := enI) (L := F') (n := n) (cap := n) rfl (fun _ => rfl) (by omega) (Nat.le_refl _) (by omega)
                rw [List.take_of_length_le (by omega)] at hsF
                have hsB := hS.sle (k := 1) (enc := enI) (L := B) (n := m) (cap := m) rfl (fun _ => rfl) (by omega) (Nat.le_refl _) (by omega)
                rw [List.take_of_length_le (by omega)] at hsB
                have htr := fun f => trace_ok f _ _ F' B W _ hsF hsB hT (by omega)
                rw [hW2] at htr
                repeat (with_reducible first | refine c_seq ?_ | refine c_block ?_ | refine c_skip ?_ | refine x_then ?_ | refine x_block ?_)
                refine c_reg ?_
                refine l_pure rfl (s_move  h0 ?_)
                refine l_pure rfl (s_move  rfl ?_)
                refine l_pure rfl (s_move  h6 ?_)
                refine l_pure rfl (s_move  h7 ?_)
                refine l_heavy rfl (s_call Tryz.call56 rfl (htr _) ?_)
                rintro r w6 ⟨LW, hGW, hSW⟩
                replace hS := hS.join hSW
                refine l_pure rfl (s_asg  rfl ?_)
                refine l_nil ?_
                repeat (with_reducible first | refine c_seq ?_ | refine c_block ?_ | refine c_skip ?_ | refine x_then ?_ | refine x_block ?_)
                refine c_ret ?_
                repeat (with_reducible first | refine x_then_ret ?_ | refine x_block_ret ?_)
                refine r_one rfl rfl ?_
                exact .inr ⟨W, LW, hGW, hS.drop (List.sublist_append_left _ _), hW3, hW1⟩
              · refine c_no rfl (decide_eq_false (fun g => hpos (sgnQ_pos.1 g))) ?_
                repeat (with_reducible first | refine c_seq ?_ | refine c_block ?_ | refine c_skip ?_ | refine x_then ?_ | refine x_block ?_)
                refine c_reg ?_
                refine l_pure rfl (s_move  h0 ?_)
                refine l_pure rfl (s_nilp  rfl ?_)
                refine l_pure rfl (s_fld  rfl fo_70_0 ?_)
                refine l_pure rfl (s_fld  rfl fo_67_1 ?_)
                refine l_read rfl (s_ld  rfl vi_24 (atk1 (k := 1) (hF.below hS.below).a0 rfl) rfl rfl (.inr rfl) ?_)
                refine l_pure rfl (s_lenr  rfl ((hF.below hS.below).o) ⟨_, Tryz.underlying24⟩ ?_)
                refine l_pure rfl (s_move  rfl ?_)
                refine l_nil ?_
                repeat (with_reducible first | refine c_seq ?_ | refine c_skip ?_ | refine x_then ?_ | refine x_block ?_)
                rw [hol]
                refine c_cut1 (fun ρ w' => ρ 0 = .pointer (some ⟨bf, 0, none⟩) ∧ ρ 5 = .int .i64 n ∧ ρ 6 = .slice (some ⟨bF, 0, none⟩) n n ∧ ρ 7 = .slice (some ⟨bB, 0, none⟩) m m ∧ ρ 10 = .slice (some ⟨bZ, 0, none⟩) m m ∧ ρ 12 = .int .i64 cc ∧ ρ 67 = .int .i64 n ∧ ρ 68 = .int .i64 i ∧
                  ∃ Q B Z vq LQ, ρ 11 = vq ∧ d < Q.length ∧ Q.getD d 0 = cc ∧ Bf n m c (secF X) P Q (d + 1) F' B Z ∧ Dn n m (secF X) P lf Q d (i + 1) n F' ∧ Gq enI 3 1 vq (nQ (Q.drop d)) LQ ∧ St w w' ([(bZ, 4, Z.flatMap enB), (bB, 3, B.flatMap enI), (bF, 3, F'.flatMap enI)] ++ LQ)) ?_ ?_
                · repeat (with_reducible first | refine c_seq ?_ | refine c_block ?_ | refine c_skip ?_ | refine x_then ?_ | refine x_block ?_)
                  refine c_loop (σ := Nat) (fun k ρ w' => k ≤ m ∧ ρ 0 = .pointer (some ⟨bf, 0, none⟩) ∧ ρ 5 = .int .i64 n ∧ ρ 6 = .slice (some ⟨bF, 0, none⟩) n n ∧ ρ 7 = .slice (some ⟨bB, 0, none⟩) m m ∧ ρ 10 = .slice (some ⟨bZ, 0, none⟩) m m ∧ ρ 12 = .int .i64 cc ∧ ρ 13 = .int .i64 i ∧ ρ 67 = .int .i64 n ∧ ρ 68 = .int .i64 i ∧ ρ 113 = .int .i64 m ∧ ρ 114 = .int .i64 k ∧
                    ∃ Q B Z vq LQ, ρ 11 = vq ∧ d < Q.length ∧ Q.getD d 0 = cc ∧ Bf n m c (secF X) P Q (d + 1) F' B Z ∧ Dn n m (secF X) P lf Q d (i + 1) i F' ∧ (∀ a, a < k → 0 < P i a → a ∈ Q) ∧ Gq enI 3 1 vq (nQ (Q.drop d)) LQ ∧ St w w' ([(bZ, 4, Z.flatMap enB), (bB, 3, B.flatMap enI), (bF, 3, F'.flatMap enI)] ++ LQ)) (fun k => m - k) 0
                    ⟨Nat.zero_le _, by assumption, by assumption, by assumption, by assumption, by assumption, by assumption, rfl, by assumption, by assumption, rfl, rfl, Q, B, Z, _, LQ, by assumption, hlt, hcc, hB, hD, fun a ha => absurd ha (Nat.not_lt_zero _), hG, hS⟩ ?_
                  clear hS hG hB hD hlt hcc hF' hfi hFl h0 h5 h6 h7 h10 h12 h67 h68 h11
                  rintro k ρ w5 ⟨hk, h0, h5, h6, h7, h10, h12, h13, h67, h68, h113, h114, Q, B, Z, vq, LQ, h11, hlt, hcc, hB, hD, hall, hG, hS⟩
                  have hBl := hB.bl
                  have hZl := hB.zl
                  have hvl := hF.y.len
                  rw [tabM_len] at hvl
                  have hpl := tab_len m fun k => ofQ (P i k)
                  have hql : (nQ (Q.drop d)).length = Q.length - d := by rw [nQ_len, List.length_drop]
                  have hQm := nodup_le hB.nd hB.lt
                  obtain ⟨aq, cq, rfl⟩ := hG.len
                  repeat (with_reducible first | refine c_seq ?_ | refine c_block ?_ | refine c_skip ?_ | refine x_then ?_ | refine x_block ?_)
                  refine c_reg ?_
                  refine l_pure rfl (s_lss  h114 h113 ?_)
                  refine l_nil ?_
                  repeat (with_reducible first | refine c_seq ?_ | refine c_block ?_ | refine c_skip ?_ | refine x_then ?_ | refine x_block ?_)
                  by_cases hkm : k < m
                  · refine c_yes rfl (decide_eq_true (by omega)) ?_
                    repeat (with_reducible first | refine c_seq ?_ | refine c_block ?_ | refine c_skip ?_ | refine x_then ?_ | refine x_block ?_)
                    refine c_reg ?_
                    refine l_pure rfl (s_move  h114 ?_)
                    refine l_pure rfl (s_asg  rfl ?_)
                    refine l_nil ?_
                    repeat (with_reducible first | refine c_seq ?_ | refine c_block ?_ | refine c_skip ?_ | refine x_then ?_ | refine x_block ?_)
                    cases hzk : Z.getD k false with
                    | true =>
                      repeat (with_reducible first | refine c_seq ?_ | refine c_block ?_ | refine c_skip ?_ | refine x_then ?_ | refine x_block ?_)
                      refine c_reg ?_
                      refine l_pure rfl (s_move  h10 ?_)
                      refine l_pure rfl (s_move  rfl ?_)
                      refine l_pure rfl (s_ixo (i := k)  rfl rfl (by omega) (by first | omega | (simp; done) | (simp; omega)) si_81 ?_)
                      refine l_read rfl (s_ldE (k := 0) (i := k) (enc := enB) false (fun _ => rfl)  rfl vi_4 hS rfl (by first | omega | simp) (by first | omega | (simp; done) | (simp; omega)) rfl (.inr rfl) ?_)
                      refine l_pure rfl (s_not  rfl ?_)
                      refine l_pure rfl (s_move  rfl ?_)
                      refine l_no (gno_yes 122 (by kernel_rfl) rfl (by rw [hzk])) ?_
                      refine l_no (gno_yes 122 (by kernel_rfl) rfl (by rw [hzk])) ?_
                      refine l_no (gno_yes 122 (by kernel_rfl) rfl (by rw [hzk])) ?_
                      refine l_no (gno_yes 122 (by kernel_rfl) rfl (by rw [hzk])) ?_
                      refine l_no (gno_yes 122 (by kernel_rfl) rfl (by rw [hzk])) ?_
                      refine l_no (gno_yes 122 (by kernel_rfl) rfl (by rw [hzk])) ?_
                      refine l_no (gno_yes 122 (by kernel_rfl) rfl (by rw [hzk])) ?_
                      refine l_no (gno_yes 122 (by kernel_rfl) rfl (by rw [hzk])) ?_
                      refine l_no (gno_yes 122 (by kernel_rfl) rfl (by rw [hzk])) ?_
                      refine l_no (gno_yes 122 (by kernel_rfl) rfl (by rw [hzk])) ?_
                      refine l_no (gno_yes 122 (by kernel_rfl) rfl (by rw [hzk])) ?_
                      refine l_no (gno_yes 122 (by kernel_rfl) rfl (by rw [hzk])) ?_
                      refine l_pure rfl (s_pick (vb rfl (by rw [hzk])) rfl ?_)
                      refine l_nil ?_
                      repeat (with_reducible first | refine c_seq ?_ | refine c_block ?_ | refine c_skip ?_ | refine x_then ?_ | refine x_block ?_)
                      refine c_no rfl (rfl) ?_
                      repeat (with_reducible first | refine c_seq ?_ | refine c_block ?_ | refine c_skip ?_ | refine x_then ?_ | refine x_block ?_)
                      refine c_reg ?_
                      refine l_pure rfl (s_add  h114 rfl (IntWalk.i64_in _ (by omega)) ?_)
                      refine l_pure rfl (s_move  rfl ?_)
                      refine l_nil ?_
                      repeat (with_reducible first | refine c_seq ?_ | refine c_block ?_ | refine c_skip ?_ | refine x_then ?_ | refine x_block ?_)
                      refine ⟨k + 1, _, rfl, ⟨hkm, by assumption, by assumption, by assumption, by assumption, by assumption, by assumption, by assumption, by assumption, by assumption, by assumption, vi rfl (by omega), Q, B, Z, _, LQ, by assumption, hlt, hcc, hB, hD, fun a ha hp => ?_, hG, hS⟩, by omega⟩
                      by_cases e : a = k
                      · rw [e]; exact (hB.zq k hkm).1 hzk
                      · exact hall a (by omega) hp
                    | false =>
                      have hgp : (tab m fun k => ofQ (P i k)).getD k zRR = ofQ (P i k) := tab_get _ _ hkm
                      repeat (with_reducible first | refine c_seq ?_ | refine c_block ?_ | refine c_skip ?_ | refine x_then ?_ | refine x_block ?_)
                      refine c_reg ?_
                      refine l_pure rfl (s_move  h10 ?_)
                      refine l_pure rfl (s_move  rfl ?_)
                      refine l_pure rfl (s_ixo (i := k)  rfl rfl (by omega) (by first | omega | (simp; done) | (simp; omega)) si_81 ?_)
                      refine l_read rfl (s_ldE (k := 0) (i := k) (enc := enB) false (fun _ => rfl)  rfl vi_4 hS rfl (by first | omega | simp) (by first | omega | (simp; done) | (simp; omega)) rfl (.inr rfl) ?_)
                      refine l_pure rfl (s_not  rfl ?_)
                      refine l_pure rfl (s_move  rfl ?_)
                      refine l_pure (gd_yes 122 (by kernel_rfl) rfl (by rw [hzk]; rfl)) (s_move  h0 ?_)
                      refine l_pure (gd_yes 122 (by kernel_rfl) rfl (by rw [hzk]; rfl)) (s_nilp  rfl ?_)
                      refine l_pure (gd_yes 122 (by kernel_rfl) rfl (by rw [hzk]; rfl)) (s_fld  rfl fo_70_1 ?_)
                      refine l_read (gd_yes 122 (by kernel_rfl) rfl (by rw [hzk]; rfl)) (s_ld  rfl vi_28 (atk1 (k := 3) (hF.below hS.below).a0 rfl) rfl rfl (.inr rfl) ?_)
                      refine l_pure (gd_yes 122 (by kernel_rfl) rfl (by rw [hzk]; rfl)) (s_move  h13 ?_)
                      refine l_pure (gd_yes 122 (by kernel_rfl) rfl (by rw [hzk]; rfl)) (s_ixr (i := i)  rfl rfl ((hF.below hS.below).y.sl) (by omega) (by first | omega | (simp; done) | (simp; omega)) si_28 ?_)
                      refine l_read (gd_yes 122 (by kernel_rfl) rfl (by rw [hzk]; rfl)) (s_lde (i := i) undef  rfl vi_24 ((hF.below hS.below).y.sl) (by first | omega | (simp; done) | (simp; omega)) rfl rfl (.inr rfl) ?_)
                      refine l_pure (gd_yes 122 (by kernel_rfl) rfl (by rw [hzk]; rfl)) (s_move  rfl ?_)
                      refine l_pure (gd_yes 122 (by kernel_rfl) rfl (by rw [hzk]; rfl)) (s_ixr (i := k)  rfl rfl ((hF.below hS.below).row hli) (by omega) (by first | omega | (simp; done) | (simp; omega)) si_24 ?_)
                      refine l_read (gd_yes 122 (by kernel_rfl) rfl (by rw [hzk]; rfl)) (s_lde (i := k) zRR  rfl vi_36 ((hF.below hS.below).row hli) (by first | omega | (simp; done) | (simp; omega)) rfl rfl (.inl rfl) ?_)
                      refine l_heavy (gd_yes 122 (by kernel_rfl) rfl (by rw [hzk]; rfl)) (s_call Tryz.call12 rfl (Sign_ok ((tab m fun k => ofQ (P i k)).getD k zRR) _ (by rw [hgp, Lr_ofQ]; exact hP i hli k hkm)) ?_)
                      rintro _ wc11 ⟨rfl, hBc11⟩
                      replace hS := hS.grow hBc11
                      refine l_pure (gd_yes 122 (by kernel_rfl) rfl (by rw [hzk]; rfl)) (s_gtr  rfl rfl ?_)
                      refine l_pure rfl (s_pick (vb rfl (by rw [hzk])) rfl ?_)
                      refine l_nil ?_
                      repeat (with_reducible first | refine c_seq ?_ | refine c_block ?_ | refine c_skip ?_ | refine x_then ?_ | refine x_block ?_)
                      rw [hgp, toQ_ofQ]
                      by_cases hpk : 0 < P i k
                      · refine c_yes rfl (decide_eq_true (sgnQ_pos.2 hpk)) ?_
                        repeat (with_reducible first | refine c_seq ?_ | refine c_block ?_ | refine c_skip ?_ | refine x_then ?_ | refine x_block ?_)
                        replace hB := hB.reach hlt hli hkm (by rw [hcc]; exact hFi) hpk hzk
                        replace hD := hD.grow (k := k) hlt
                        repeat (with_reducible first | refine c_seq ?_ | refine c_block ?_ | refine c_skip ?_ | refine x_then ?_ | refine x_block ?_)
                        refine c_reg ?_
                        refine l_pure rfl (s_move  h10 ?_)
                        refine l_pure rfl (s_move  rfl ?_)
                        refine l_pure rfl (s_move  h7 ?_)
                        refine l_pure rfl (s_move  rfl ?_)
                        refine l_pure rfl (s_move  h13 ?_)
                        refine l_pure rfl (s_ixo (i := k)  rfl rfl (by omega) (by first | omega | (simp; done) | (simp; omega)) si_81 ?_)
                        refine l_heavy rfl (s_stE (k := 0) (i := k) (enc := enB) true (fun _ => rfl)  rfl rfl vi_4 hS rfl (by first | omega | simp) (by first | omega | (simp; done) | (simp; omega)) rfl rfl ?_)
                        intro wz12 hS
                        refine l_pure rfl (s_ixo (i := k)  rfl rfl (by omega) (by first | omega | (simp; done) | (simp; omega)) si_47 ?_)
                        refine l_heavy rfl (s_stE (k := 1) (i := k) (enc := enI) (i : Int) (fun _ => rfl)  rfl rfl vi_3 hS rfl (by first | omega | simp) (by first | omega | (simp; done) | (simp; omega)) rfl rfl ?_)
                        intro wz13 hS
                        refine l_nil ?_
                        repeat (with_reducible first | refine c_seq ?_ | refine c_block ?_ | refine c_skip ?_ | refine x_then ?_ | refine x_block ?_)
                        replace hS : St w _ ([(bZ, 4, (Z.set k true).flatMap enB), (bB, 3, (B.set k (i : Int)).flatMap enI), (bF, 3, F'.flatMap enI)] ++ LQ) := hS
                        repeat (with_reducible first | refine c_seq ?_ | refine c_block ?_ | refine c_skip ?_ | refine x_then ?_ | refine x_block ?_)
                        refine c_reg ?_
                        refine l_pure rfl (s_move  h11 ?_)
                        refine l_pure rfl (s_move  rfl ?_)
                        refine l_heavy rfl (s_bsl (vs := [.int .i64 k])  rfl si_47 rfl (by decide) (by decide) (by decide) (by simp [Value.cells]) rfl hS ?_)
                        intro b14 wz15 hS hBz15
                        refine l_heavy rfl (s_appq [(k : Int)]  rfl rfl si_47 hG (by rw [nQ_drop Q hlt]; exact List.cons_ne_nil _ _) hS rfl rfl (fun _ => rfl) (enI_all [(k : Int)]) (by first | omega | (simp only [List.length_cons, List.length_nil]; omega)) (by first | omega | (simp only [List.length_cons, List.length_nil]; omega)) ?_)
                        intro va16 La16 wa16 hG hS
                        refine l_pure rfl (s_asg  rfl ?_)
                        refine l_nil ?_
                        repeat (with_reducible first | refine c_seq ?_ | refine c_block ?_ | refine c_skip ?_ | refine x_then ?_ | refine x_block ?_)
                        rw [← nQ_snoc Q k (by omega)] at hG
                        repeat (with_reducible first | refine c_seq ?_ | refine c_block ?_ | refine c_skip ?_ | refine x_then ?_ | refine x_block ?_)
                        refine c_reg ?_
                        refine l_pure rfl (s_add  h114 rfl (IntWalk.i64_in _ (by omega)) ?_)
                        refine l_pure rfl (s_move  rfl ?_)
                        refine l_nil ?_
                        repeat (with_reducible first | refine c_seq ?_ | refine c_block ?_ | refine c_skip ?_ | refine x_then ?_ | refine x_block ?_)
                        refine ⟨k + 1, _, rfl, ⟨hkm, by assumption, by assumption, by assumption, by assumption, by assumption, by assumption, by assumption, by assumption, by assumption, by assumption, vi rfl (by omega), Q ++ [k], _, _, _, _, rfl, by rw [List.length_append]; omega, by rw [nxt_nat _ _ _ hlt]; exact hcc, hB, hD, fun a ha hp => ?_, hG, hS⟩, by omega⟩
                        by_cases e : a = k
                        · rw [e]; exact List.mem_append_right _ (List.mem_singleton.2 rfl)
                        · exact List.mem_append_left _ (hall a (by omega) hp)
                      · refine c_no rfl (decide_eq_false (fun g => hpk (sgnQ_pos.1 g))) ?_
                        repeat (with_reducible first | refine c_seq ?_ | refine c_block ?_ | refine c_skip ?_ | refine x_then ?_ | refine x_block ?_)
                        refine c_reg ?_
                        refine l_pure rfl (s_add  h114 rfl (IntWalk.i64_in _ (by omega)) ?_)
                        refine l_pure rfl (s_move  rfl ?_)
                        refine l_nil ?_
                        repeat (with_reducible first | refine c_seq ?_ | refine c_block ?_ | refine c_skip ?_ | refine x_then ?_ | refine x_block ?_)
                        refine ⟨k + 1, _, rfl, ⟨hkm, by assumption, by assumption, by assumption, by assumption, by assumption, by assumption, by assumption, by assumption, by assumption, by assumption, vi rfl (by omega), Q, B, Z, _, LQ, by assumption, hlt, hcc, hB, hD, fun a ha hp => ?_, hG, hS⟩, by omega⟩
                        by_cases e : a = k
                        · rw [e] at hp; exact absurd hp hpk
                        · exact hall a (by omega) hp
                  · refine c_no rfl (decide_eq_false (by omega)) ?_
                    repeat (with_reducible first | refine c_seq ?_ | refine c_block ?_ | refine c_skip ?_ | refine x_then ?_ | refine x_block ?_)
                    refine c_exit ?_
                    repeat (with_reducible first | refine x_then_exit ?_ | refine x_block_exit ?_ | refine x_block_pass rfl ?_)
                    repeat (with_reducible first | refine c_seq ?_ | refine c_block ?_ | refine c_skip ?_ | refine x_then ?_ | refine x_block ?_)
                    obtain rfl : m = k := by omega
                    exact ⟨_, rfl, h0, h5, h6, h7, h10, h12, h67, h68, Q, B, Z, _, LQ, h11, hlt, hcc, hB, hD.done hpos hall, hG, hS⟩
                clear hS hG hB hD hlt hcc hF' hfi hFl h0 h5 h6 h7 h10 h12 h67 h68 h11
                rintro ρ w5 ⟨h0, h5, h6, h7, h10, h12, h67, h68, Q, B, Z, vq, LQ, h11, hlt, hcc, hB, hD, hG, hS⟩
                repeat (with_reducible first | refine c_seq ?_ | refine c_block ?_ | refine c_skip ?_ | refine x_then ?_ | refine x_block ?_)
                refine c_reg ?_
                refine l_pure rfl (s_add  h68 rfl (IntWalk.i64_in _ (by omega)) ?_)
                refine l_pure rfl (s_move  rfl ?_)
                refine l_nil ?_
                repeat (with_reducible first | refine c_seq ?_ | refine c_block ?_ | refine c_skip ?_ | refine x_then ?_ | refine x_block ?_)
                exact ⟨i + 1, _, rfl, ⟨hli, h0, h5, h6, h7, h10, h12, h67, vi rfl (by omega), Q, F', B, Z, vq, LQ, h11, hlt, hcc, hB, hD, hG, hS⟩, by omega⟩
            · have hse : secures (X.getD i zIt) cc = false := Bool.eq_false_iff.2 hsec
              have hne : R.getD cc 0 &&& 2 ^ i = 0 := by rw [mask_and, hbit, hse]
              refine c_yes rfl (decide_eq_true (by omega)) ?_
              repeat (with_reducible first | refine c_seq ?_ | refine c_block ?_ | refine c_skip ?_ | refine x_then ?_ | refine x_block ?_)
              refine c_exit ?_
              repeat (with_reducible first | refine x_then_exit ?_ | refine x_block_exit ?_ | refine x_block_pass rfl ?_)
              repeat (with_reducible first | refine c_seq ?_ | refine c_block ?_ | refine c_skip ?_ | refine x_then ?_ | refine x_block ?_)
              refine c_reg ?_
              refine l_pure rfl (s_add  h68 rfl (IntWalk.i64_in _ (by omega)) ?_)
              refine l_pure rfl (s_move  rfl ?_)
              refine l_nil ?_
              repeat (with_reducible first | refine c_seq ?_ | refine c_block ?_ | refine c_skip ?_ | refine x_then ?_ | refine x_block ?_)
              exact ⟨i + 1, _, rfl, ⟨hli, h0, h5, h6, h7, h10, h12, h67, vi rfl (by omega), Q, F, B, Z, vq, LQ, h11, hlt, hcc, hB, hD.skip (.inr (by rw [hcc]; exact hse)), hG, hS⟩, by omega⟩
          · have hge : 0 ≤ F.getD i 0 := by
              rcases hB.fr i hli with q | ⟨j, _, _, q, _⟩
              · exact absurd q hfi
              · omega
            repeat (with_reducible first | refine c_seq ?_ | refine c_block ?_ | refine c_skip ?_ | refine x_then ?_ | refine x_block ?_)
            refine c_draw [(0, .pure), (1, .pure), (2, .pure), (3, .read), (4, .pure), (5, .pure), (6, .pure), (7, .pure), (8, .pure), (9, .pure), (10, .read), (11, .pure), (12, .pure), (13, .read), (14, .pure), (15, .pure), (16, .pure), (17, .pure), (18, .pure)] (by kernel_rfl) (by kernel_rfl) hS ?_
            intro wz17 hS hBz17
            refine w_pure rfl rfl (s_move  h6 ?_)
            refine w_pure rfl rfl (s_move  rfl ?_)
            refine w_pure rfl rfl (s_ixo (i := i)  rfl rfl (by omega) (by first | omega | (simp; done) | (simp; omega)) si_47 ?_)
            refine w_read rfl rfl (s_ldE (k := 2) (i := i) (enc := enI) 0 (fun _ => rfl)  rfl vi_3 hS rfl (by first | omega | simp) (by first | omega | (simp; done) | (simp; omega)) rfl (.inr rfl) ?_)
            refine w_pure rfl rfl (s_geq  rfl rfl ?_)
            refine w_pure rfl rfl (s_move  rfl ?_)
            refine w_no rfl (gno_yes 76 (by kernel_rfl) rfl (decide_eq_true (by omega))) ?_
            refine w_no rfl (gno_yes 76 (by kernel_rfl) rfl (decide_eq_true (by omega))) ?_
            refine w_no rfl (gno_yes 76 (by kernel_rfl) rfl (decide_eq_true (by omega))) ?_
            refine w_no rfl (gno_yes 76 (by kernel_rfl) rfl (decide_eq_true (by omega))) ?_
            refine w_no rfl (gno_yes 76 (by kernel_rfl) rfl (decide_eq_true (by omega))) ?_
            refine w_no rfl (gno_yes 76 (by kernel_rfl) rfl (decide_eq_true (by omega))) ?_
            refine w_no rfl (gno_yes 76 (by kernel_rfl) rfl (decide_eq_true (by omega))) ?_
            refine w_no rfl (gno_yes 76 (by kernel_rfl) rfl (decide_eq_true (by omega))) ?_
            refine w_no rfl (gno_yes 76 (by kernel_rfl) rfl (decide_eq_true (by omega))) ?_
            refine w_no rfl (gno_yes 76 (by kernel_rfl) rfl (decide_eq_true (by omega))) ?_
            refine w_no rfl (gno_yes 76 (by kernel_rfl) rfl (decide_eq_true (by omega))) ?_
            refine w_no rfl (gno_yes 76 (by kernel_rfl) rfl (decide_eq_true (by omega))) ?_
            refine w_pure rfl rfl (s_pick (vb rfl (decide_eq_true (by omega))) rfl ?_)
            refine w_end ?_
            repeat (with_reducible first | refine c_seq ?_ | refine c_block ?_ | refine c_skip ?_ | refine x_then ?_ | refine x_block ?_)
            refine c_yes rfl (rfl) ?_
            repeat (with_reducible first | refine c_seq ?_ | refine c_block ?_ | refine c_skip ?_ | refine x_then ?_ | refine x_block ?_)
            refine c_exit ?_
            repeat (with_reducible first | refine x_then_exit ?_ | refine x_block_exit ?_ | refine x_block_pass rfl ?_)
            repeat (with_reducible first | refine c_seq ?_ | refine c_block ?_ | refine c_skip ?_ | refine x_then ?_ | refine x_block ?_)
            refine c_reg ?_
            refine l_pure rfl (s_add  h68 rfl (IntWalk.i64_in _ (by omega)) ?_)
            refine l_pure rfl (s_move  rfl ?_)
            refine l_nil ?_
            repeat (with_reducible first | refine c_seq ?_ | refine c_block ?_ | refine c_skip ?_ | refine x_then ?_ | refine x_block ?_)
            exact ⟨i + 1, _, rfl, ⟨hli, h0, h5, h6, h7, h10, h12, h67, vi rfl (by omega), Q, F, B, Z, vq, LQ, h11, hlt, hcc, hB, hD.skip (.inl hfi), hG, hS⟩, by omega⟩
        · refine c_no rfl (decide_eq_false (by omega)) ?_
          repeat (with_reducible first | refine c_seq ?_ | refine c_block ?_ | refine c_skip ?_ | refine x_then ?_ | refine x_block ?_)
          refine c_exit ?_
          repeat (with_reducible first | refine x_then_exit ?_ | refine x_block_exit ?_ | refine x_block_pass rfl ?_)
          repeat (with_reducible first | refine c_seq ?_ | refine c_block ?_ | refine c_skip ?_ | refine x_then ?_ | refine x_block ?_)
          obtain rfl : n = i := by omega
          exact ⟨_, rfl, h0, h5, h6, h7, h10, Q, F, B, Z, vq, LQ, h11, hlt, hB, hD, hG, hS⟩
      clear hS hG hB hD hne hq0 hcc hlt hQm hql hd h0 h5 h6 h7 h10 h11
      clear Q F B Z LQ
      rintro ρ w4 ⟨h0, h5, h6, h7, h10, Q, F, B, Z, vq, LQ, h11, hlt, hB, hD, hG, hS⟩
      rw [nQ_drop Q hlt] at hG
      repeat (with_reducible first | refine c_seq ?_ | refine c_block ?_ | refine c_skip ?_ | refine x_then ?_ | refine x_block ?_)
      refine c_reg ?_
      refine l_pure rfl (s_move  h11 ?_)
      refine l_pure rfl (s_cut1 si_47 (fun _ => rfl) hG  rfl rfl ?_)
      intro vq2 hG2
      refine l_pure rfl (s_asg  rfl ?_)
      refine l_nil ?_
      repeat (with_reducible first | refine c_seq ?_ | refine c_block ?_ | refine c_skip ?_ | refine x_then ?_ | refine x_block ?_)
      have hQm := nodup_le hB.nd hB.lt
      exact ⟨d + 1, _, rfl, ⟨h0, h5, h6, h7, h10, Q, F, B, Z, _, LQ, rfl, hlt, hB, hD.pop, hG2, hS⟩, by omega⟩
    · refine c_no rfl (decide_eq_false (by omega)) ?_
      repeat (with_reducible first | refine c_seq ?_ | refine c_block ?_ | refine c_skip ?_ | refine x_then ?_ | refine x_block ?_)
      refine c_exit ?_
      repeat (with_reducible first | refine x_then_exit ?_ | refine x_block_exit ?_ | refine x_block_pass rfl ?_)
      repeat (with_reducible first | refine c_seq ?_ | refine c_block ?_ | refine c_skip ?_ | refine x_then ?_ | refine x_block ?_)
      obtain rfl : d = Q.length := by omega
      exact ⟨_, rfl, Q, F, B, Z, _, LQ, h0, hB, hD, hG, hS⟩
  clear hS hG0 h0 h1 h5 h6 h7
  rintro ρ w3 ⟨Q, F, B, Z, vq, LQ, h0, hB, hD, hG, hS⟩
  repeat (with_reducible first | refine c_seq ?_ | refine c_block ?_ | refine c_skip ?_ | refine x_then ?_ | refine x_block ?_)
  refine c_reg ?_
  refine l_pure rfl (s_asg  rfl ?_)
  refine l_nil ?_
  repeat (with_reducible first | refine c_seq ?_ | refine c_block ?_ | refine c_skip ?_ | refine x_then ?_ | refine x_block ?_)
  refine c_ret ?_
  repeat (with_reducible first | refine x_then_ret ?_ | refine x_block_ret ?_)
  refine r_one rfl rfl ?_
  refine .inl ⟨rfl, hS.below, fun k => decide (k ∈ Q), fun i => decide (F.getD i 0 ≠ -1), ?_, fun i hi ht => ?_, fun k hk hs i hi hsec => ?_⟩
  · have := mem_nat hB.ql
    rw [hB.q0] at this
    exact decide_eq_true this
  · obtain ⟨h1, h2⟩ := hD.it i hi (by omega) (of_decide_eq_true ht)
    exact ⟨h1, fun k hk hp => decide_eq_true (h2 k hk hp)⟩
  · have hq := of_decide_eq_true hs
    obtain ⟨j, hj, rfl⟩ := List.mem_iff_getElem.1 hq
    exact decide_eq_true (hD.cl j hj i hi (by rw [getD_ge Q 0 hj]; exact hsec))
end Go.Proofs.YtmghobajmhdbfaaGreatDoor
namespace Go.Proofs.YtmghobajmhdbfaaGreatDoor
open Go Go.RowKit Go.Sx
theorem flW_at (W : List Pr2) : ∀ j, (flW W).getD (2 * j) 0 = ((wI W j : Nat) : Int) ∧ (flW W).getD (2 * j + 1) 0 = ((wC W j : Nat) : Int) := by
  induction W with
  | nil => exact fun j => ⟨rfl, rfl⟩
  | cons p W ih =>
    intro j
    cases j with
    | zero => exact ⟨rfl, rfl⟩
    | succ j => exact ih j
theorem L_amt {W : List Pr2} {P : Nat → Nat → Rat} {lf : Nat → Rat} {most : Rat} {K : Nat} (hm : L most ≤ K) (hl : L (lf (wI W 0)) ≤ K) : ∀ j, (∀ l, l < j → L (P (wI W (l + 1)) (wC W l)) ≤ K) → L (amt W P lf most j) ≤ K
  | 0, _ => Nat.le_trans (L_min _ _) (Nat.max_le.2 ⟨hm, hl⟩)
  | j + 1, h => Nat.le_trans (L_min _ _) (Nat.max_le.2 ⟨L_amt hm hl j fun l hl => h l (by omega), h j (by omega)⟩)
theorem upP_at (P : Nat → Nat → Rat) (i k : Nat) (d : Rat) (a b : Nat) : upP P i k d a b = if a = i ∧ b = k then P i k + d else P a b := by
  unfold upP
  by_cases h : a = i ∧ b = k
  · rw [if_pos h, if_pos h, h.1, h.2]
  · rw [if_neg h, if_neg h]
/-- What lies ahead of the rows while a way is paid. -/
def puB (b7 b6 b5 bl n : Nat) (fb : Blk) (a most : Rat) (lf : Nat → Rat) (sp : List Value) : List Blk :=
  [(b7, 36, encR (ofQ a)), (b6, 36, encR zRR), (b5, 36, encR (ofQ most)), fb, (bl, 36, (tab n fun i => ofQ (lf i)).flatMap encR ++ sp)]
def cutF (lf : Nat → Rat) (i0 : Nat) (a : Rat) (i : Nat) : Rat := if i = i0 then lf i - a else lf i
theorem put_upP {R : List (Rw RR)} {n m i j : Nat} {Q : Nat → Nat → Rat} {d : Rat} (h : MatG R n m fun i k => ofQ (Q i k)) (hi : i < n) : MatG (R.set i ((R.getD i zRw).put j (ofQ (Q i j + d)))) n m fun a b => ofQ (upP Q i j d a b) := by
  refine (h.put hi j (ofQ (Q i j + d))).congr fun a _ b _ => ?_
  rw [upP_at]
  split <;> rfl
set_option maxHeartbeats 8000000 in
theorem push_ok (bf bo bl capP capL n m c K : Nat) (vP vO vI vW : Value) (so sp : List Value) (R0 : List (Rw RR)) (sec : Nat → Nat → Bool) (P : Nat → Nat → Rat) (lf : Nat → Rat) (most : Rat) (W : List Pr2) (H : List Blk) (w0 w : World)
    (hS : St w0 w ([(bf, 70, [vP, vO, vI, .slice (some ⟨bo, 0, none⟩) n capP, .slice (some ⟨bl, 0, none⟩) n capL]), (bl, 36, (tab n fun i => ofQ (lf i)).flatMap encR ++ sp)] ++ mD encR 36 24 bo (R0.map Rw.v ++ so) R0 H))
    (hR : MatG R0 n m fun i k => ofQ (P i k)) (hW : ∀ wx pre, St w0 wx (pre ++ H) → Sl enI 1 wx vW (flW W)) (hwo : WayOk n m sec P lf c W) (hWl : W.length ≤ 1000)
    (hLP : ∀ i, i < n → ∀ k, k < m → L (P i k) ≤ K) (hLl : ∀ i, i < n → L (lf i) ≤ K) (hLm : L most ≤ K) (hK : 4 * K + 8 ≤ MX) :
    Ret Tryz.prog 30 #[.pointer (some ⟨bf, 0, none⟩), vW, aggR (ofQ most)] w fun v w' =>
      v = aggR (ofQ (amt W P lf most (W.length - 1))) ∧ ∃ R', R'.map Rw.v = R0.map Rw.v ∧ MatG R' n m (fun i k => ofQ (psh W (amt W P lf most (W.length - 1)) P W.length i k)) ∧
        St w0 w' ([(bf, 70, [vP, vO, vI, .slice (some ⟨bo, 0, none⟩) n capP, .slice (some ⟨bl, 0, none⟩) n capL]), (bl, 36, (tab n fun i => ofQ (cutF lf (wI W 0) (amt W P lf most (W.length - 1)) i)).flatMap encR ++ sp)] ++ mD encR 36 24 bo (R0.map Rw.v ++ so) R' H) := by
  have hne := hwo.ne
  have hfl := flW_len W
  have hI := fun j => (flW_at W j).1
  have hC := fun j => (flW_at W j).2
  have htl := tab_len n fun i => ofQ (lf i)
  have h0n := hwo.it 0 hne
  have hgl : (tab n fun i => ofQ (lf i)).getD (wI W 0) zRR = ofQ (lf (wI W 0)) := tab_get _ _ h0n
  have hLl0 := hLl _ h0n
  have hLa : ∀ j, j < W.length → L (amt W P lf most j) ≤ K := fun j hj => L_amt hLm hLl0 j fun l hl => hLP _ (hwo.it (l + 1) (by omega)) _ (hwo.cl l (by omega))
  have hLA := hLa (W.length - 1) (by omega)
  obtain ⟨cs, hcs⟩ : ∃ cs, cs = R0.map Rw.v ++ so := ⟨_, rfl⟩
  have hcr : ∀ R : List (Rw RR), R.map Rw.v = R0.map Rw.v → ∀ i, i < R.length → cs[i]? = some (R.getD i zRw).v := fun R h i hi => by rw [hcs, ← h]; exact mC_row hi
  rw [← hcs] at hS ⊢
  obtain ⟨fb, hfb⟩ : ∃ fb : Blk, fb = (bf, 70, [vP, vO, vI, .slice (some ⟨bo, 0, none⟩) n capP, .slice (some ⟨bl, 0, none⟩) n capL]) := ⟨_, rfl⟩
  rw [← hfb] at hS ⊢
  obtain ⟨a, ha⟩ : ∃ a, a = amt W P lf most (W.length - 1) := ⟨_, rfl⟩
  rw [← ha] at hLA ⊢
  have hWd : ∀ pre R wx, St w0 wx (pre ++ mD encR 36 24 bo cs R H) → Sl enI 1 wx vW (flW W) := fun pre R wx h => hW wx (pre ++ ((bo, 24, cs) :: R.map (Rw.blk encR 36))) (by rw [List.append_assoc]; exact h)
  refine enter Tryz.func30 rfl Tryz.ntmps30 rfl ?_
  repeat (with_reducible first | refine c_seq ?_ | refine c_block ?_ | refine c_skip ?_ | refine x_then ?_ | refine x_block ?_)
  refine c_reg ?_
  refine l_heavy rfl (s_box (new := encR (ofQ most))  rfl rfl hS ?_)
  intro b5 wz1 hS hBz1
  refine l_heavy rfl (s_alloc  vi_36 hS ?_)
  intro b6 wz2 hS hBz2
  refine l_nil ?_
  repeat (with_reducible first | refine c_seq ?_ | refine c_block ?_ | refine c_skip ?_ | refine x_then ?_ | refine x_block ?_)
  replace hS : St w0 _ ([(b6, 36, encR zRR), (b5, 36, encR (ofQ most)), fb, (bl, 36, (tab n fun i => ofQ (lf i)).flatMap encR ++ sp)] ++ mD encR 36 24 bo cs R0 H) := hS
  refine c_cut1 (fun ρ w' => ρ 0 = .pointer (some ⟨bf, 0, none⟩) ∧ ρ 1 = vW ∧ ρ 6 = .pointer (some ⟨b6, 0, none⟩) ∧ ∃ b7, ρ 7 = .pointer (some ⟨b7, 0, none⟩) ∧
    St w0 w' (puB b7 b6 b5 bl n fb (amt W P lf most 0) most lf sp ++ mD encR 36 24 bo cs R0 H)) ?_ ?_
  · repeat (with_reducible first | refine c_seq ?_ | refine c_block ?_ | refine c_skip ?_ | refine x_then ?_ | refine x_block ?_)
    refine c_float 11 [(0, .read), (1, .pure), (2, .pure), (3, .pure), (4, .read), (5, .pure), (6, .pure), (7, .read), (8, .pure), (9, .read), (10, .grow), (12, .free)] (by kernel_rfl) (by kernel_rfl) hS ?_
    intro wz3 hS hBz3
    refine wx_read (by kernel_rfl) rfl rfl (s_ldo (k := 1)  rfl vi_36 hS rfl rfl rfl (.inl rfl) ?_)
    refine wx_pure (by kernel_rfl) rfl rfl (s_move  rfl ?_)
    refine wx_pure (by kernel_rfl) rfl rfl (s_nilp  rfl ?_)
    refine wx_pure (by kernel_rfl) rfl rfl (s_fld  rfl fo_70_2 ?_)
    refine wx_read (by kernel_rfl) rfl rfl (s_ldc (k := 2)  rfl vi_24 hS (congrArg some hfb) rfl ?_)
    refine wx_pure (by kernel_rfl) rfl rfl (s_move  rfl ?_)
    refine wx_pure (by kernel_rfl) rfl rfl (s_ixr (i := 0)  rfl rfl (hWd _ _ _ hS) (by omega) (by first | omega | (simp; done) | (simp; omega)) si_47 ?_)
    refine wx_read (by kernel_rfl) rfl rfl (s_lde (i := 0) 0  rfl vi_3 (hWd _ _ _ hS) (by first | omega | (simp; done) | (simp; omega)) rfl rfl (.inr rfl) ?_)
    refine wx_pure (by kernel_rfl) rfl rfl (s_ixo (i := wI W 0)  rfl rfl (hI 0) (by first | omega | (simp; done) | (simp; omega)) si_24 ?_)
    refine wx_read (by kernel_rfl) rfl rfl (s_ldS (k := 3) (i := wI W 0) (enc := encR) zRR (fun _ => rfl)  rfl vi_36 hS rfl (by first | omega | simp) (by first | omega | (simp; done) | (simp; omega)) rfl (.inl rfl) ?_)
    refine wx_fork rfl rfl ?_ ?_
    · refine w_grow rfl rfl (s_alloc  vi_36 hS ?_)
      intro b7 wz4 hS hBz4
      refine ⟨hBz4, ?_⟩
      refine w_grow rfl rfl (s_call Tryz.call47 rfl (QMin_ok (ofQ most) ((tab n fun i => ofQ (lf i)).getD (wI W 0) zRR) _ (by rw [hgl, Lr_ofQ, Lr_ofQ]; omega)) ?_)
      rintro r w3 ⟨rfl, hB3⟩
      refine ⟨hB3, ?_⟩
      replace hS := hS.grow hB3
      rw [hgl, toQ_ofQ, toQ_ofQ]
      refine w_free rfl rfl (s_sta (k := 0)  rfl rfl vi_36 hS rfl rfl rfl (Nat.le_of_ble_eq_true rfl) rfl ?_)
      intro wz5 hS
      refine w_end ?_
      repeat (with_reducible first | refine c_seq ?_ | refine c_block ?_ | refine c_skip ?_ | refine x_then ?_ | refine x_block ?_)
      exact ⟨_, rfl, rfl, rfl, rfl, b7, rfl, hS⟩
    · refine s_call Tryz.call47 rfl (QMin_ok (ofQ most) ((tab n fun i => ofQ (lf i)).getD (wI W 0) zRR) _ (by rw [hgl, Lr_ofQ, Lr_ofQ]; omega)) ?_
      rintro r w3 ⟨rfl, hB3⟩
      refine ⟨hB3, ?_⟩
      replace hS := hS.grow hB3
      rw [hgl, toQ_ofQ, toQ_ofQ]
      refine wx_now (by kernel_rfl) ?_
      refine w_grow rfl rfl (s_alloc  vi_36 hS ?_)
      intro b7 wz6 hS hBz6
      refine ⟨hBz6, ?_⟩
      refine w_free rfl rfl (s_sta (k := 0)  rfl rfl vi_36 hS rfl rfl rfl (Nat.le_of_ble_eq_true rfl) rfl ?_)
      intro wz7 hS
      refine w_end ?_
      repeat (with_reducible first | refine c_seq ?_ | refine c_block ?_ | refine c_skip ?_ | refine x_then ?_ | refine x_block ?_)
      exact ⟨_, rfl, rfl, rfl, rfl, b7, rfl, hS⟩
  clear hS
  rintro ρ w2 ⟨h0, h1, h6, b7, h7, hS⟩
  repeat (with_reducible first | refine c_seq ?_ | refine c_block ?_ | refine c_skip ?_ | refine x_then ?_ | refine x_block ?_)
  refine c_reg ?_
  refine l_pure rfl (s_asg  rfl ?_)
  refine l_nil ?_
  repeat (with_reducible first | refine c_seq ?_ | refine c_skip ?_ | refine x_then ?_ | refine x_block ?_)
  refine c_cut1 (fun ρ w' => ρ 0 = .pointer (some ⟨bf, 0, none⟩) ∧ ρ 1 = vW ∧ ρ 6 = .pointer (some ⟨b6, 0, none⟩) ∧ ρ 7 = .pointer (some ⟨b7, 0, none⟩) ∧ St w0 w' (puB b7 b6 b5 bl n fb a most lf sp ++ mD encR 36 24 bo cs R0 H)) ?_ ?_
  · repeat (with_reducible first | refine c_seq ?_ | refine c_block ?_ | refine c_skip ?_ | refine x_then ?_ | refine x_block ?_)
    refine c_loop (σ := Nat) (fun j ρ w' => j < W.length ∧ ρ 0 = .pointer (some ⟨bf, 0, none⟩) ∧ ρ 1 = vW ∧ ρ 6 = .pointer (some ⟨b6, 0, none⟩) ∧ ρ 7 = .pointer (some ⟨b7, 0, none⟩) ∧ ρ 8 = .int .i64 ((1 + 2 * j : Nat) : Int) ∧ St w0 w' (puB b7 b6 b5 bl n fb (amt W P lf most j) most lf sp ++ mD encR 36 24 bo cs R0 H)) (fun j => W.length - j) 0
      ⟨hne, h0, h1, h6, h7, rfl, hS⟩ ?_
    clear hS h0 h1 h6 h7
    rintro j ρ w3 ⟨hj, h0, h1, h6, h7, h8, hS⟩
    repeat (with_reducible first | refine c_seq ?_ | refine c_block ?_ | refine c_skip ?_ | refine x_then ?_ | refine x_block ?_)
    refine c_reg ?_
    refine l_pure rfl (s_move  h8 ?_)
    refine l_pure rfl (s_add  rfl rfl (IntWalk.i64_in _ (by omega)) ?_)
    refine l_pure rfl (s_move  h1 ?_)
    refine l_pure rfl (s_lenr  rfl (hWd _ _ _ hS) ⟨_, Tryz.underlying47⟩ ?_)
    refine l_pure rfl (s_lss  rfl rfl ?_)
    refine l_nil ?_
    repeat (with_reducible first | refine c_seq ?_ | refine c_block ?_ | refine c_skip ?_ | refine x_then ?_ | refine x_block ?_)
    by_cases hlt : j + 1 < W.length
    · refine c_yes rfl (decide_eq_true (by omega)) ?_
      repeat (with_reducible first | refine c_seq ?_ | refine c_block ?_ | refine c_skip ?_ | refine x_then ?_ | refine x_block ?_)
      have hi1 := hwo.it (j + 1) hlt
      have hc0 := hwo.cl j hj
      have hl1 : wI W (j + 1) < R0.length := by rw [hR.len]; exact hi1
      have htr := tab_len m fun k => ofQ (P (wI W (j + 1)) k)
      have hgp : (tab m fun k => ofQ (P (wI W (j + 1)) k)).getD (wC W j) zRR = ofQ (P (wI W (j + 1)) (wC W j)) := tab_get _ _ hc0
      repeat (with_reducible first | refine c_seq ?_ | refine c_block ?_ | refine c_skip ?_ | refine x_then ?_ | refine x_block ?_)
      refine c_draw [(0, .read), (1, .pure), (2, .pure), (3, .pure), (4, .read), (5, .pure), (6, .pure), (7, .pure), (8, .pure), (9, .read), (10, .pure), (11, .read), (12, .pure), (13, .pure), (14, .pure), (15, .read), (16, .pure), (17, .read), (18, .grow), (19, .free)] (by kernel_rfl) (by kernel_rfl) hS ?_
      intro wz8 hS hBz8
      refine w_read rfl rfl (s_ldo (k := 0)  h7 vi_36 hS rfl rfl rfl (.inl rfl) ?_)
      refine w_pure rfl rfl (s_move  h0 ?_)
      refine w_pure rfl rfl (s_nilp  rfl ?_)
      refine w_pure rfl rfl (s_fld  rfl fo_70_1 ?_)
      refine w_read rfl rfl (s_ldc (k := 3)  rfl vi_28 hS (congrArg some hfb) rfl ?_)
      refine w_pure rfl rfl (s_move  h1 ?_)
      refine w_pure rfl rfl (s_move  h8 ?_)
      refine w_pure rfl rfl (s_add  rfl rfl (IntWalk.i64_in _ (by omega)) ?_)
      refine w_pure rfl rfl (s_ixr (i := 2 * (j + 1))  rfl rfl (hWd _ _ _ hS) (by omega) (by first | omega | (simp; done) | (simp; omega)) si_47 ?_)
      refine w_read rfl rfl (s_lde (i := 2 * (j + 1)) 0  rfl vi_3 (hWd _ _ _ hS) (by first | omega | (simp; done) | (simp; omega)) rfl rfl (.inr rfl) ?_)
      refine w_pure rfl rfl (s_ixo (i := wI W (j + 1))  rfl rfl (hI (j + 1)) hi1 si_28 ?_)
      refine w_read rfl rfl (s_mrowD (puB b7 b6 b5 bl n fb (amt W P lf most j) most lf sp)  rfl vi_24 hS (by omega) (hcr R0 rfl _ hl1) ?_)
      refine w_pure rfl rfl (s_move  h1 ?_)
      refine w_pure rfl rfl (s_move  h8 ?_)
      refine w_pure rfl rfl (s_ixr (i := 2 * j + 1)  rfl rfl (hWd _ _ _ hS) (by omega) (by first | omega | (simp; done) | (simp; omega)) si_47 ?_)
      refine w_read rfl rfl (s_lde (i := 2 * j + 1) 0  rfl vi_3 (hWd _ _ _ hS) (by first | omega | (simp; done) | (simp; omega)) rfl rfl (.inr rfl) ?_)
      refine w_pure rfl rfl (s_ixr (i := wC W j)  rfl rfl (hR.slD (puB b7 b6 b5 bl n fb (amt W P lf most j) most lf sp) hS encR_len hi1) (hC j) (by first | omega | (simp; done) | (simp; omega)) si_24 ?_)
      refine w_read rfl rfl (s_lde (i := wC W j) zRR  rfl vi_36 (hR.slD (puB b7 b6 b5 bl n fb (amt W P lf most j) most lf sp) hS encR_len hi1) (by first | omega | (simp; done) | (simp; omega)) rfl rfl (.inl rfl) ?_)
      refine w_grow rfl rfl (s_call Tryz.call47 rfl (QMin_ok (ofQ (amt W P lf most j)) ((tab m fun k => ofQ (P (wI W (j + 1)) k)).getD (wC W j) zRR) _ (by rw [hgp, Lr_ofQ, Lr_ofQ]; have := hLa j hj; have := hLP _ hi1 _ hc0; omega)) ?_)
      rintro r w4 ⟨rfl, hB4⟩
      refine ⟨hB4, ?_⟩
      replace hS := hS.grow hB4
      rw [hgp, toQ_ofQ, toQ_ofQ]
      refine w_free rfl rfl (s_sta (k := 0)  h7 rfl vi_36 hS rfl rfl rfl (Nat.le_of_ble_eq_true rfl) rfl ?_)
      intro wz9 hS
      refine w_end ?_
      repeat (with_reducible first | refine c_seq ?_ | refine c_block ?_ | refine c_skip ?_ | refine x_then ?_ | refine x_block ?_)
      refine c_reg ?_
      refine l_pure rfl (s_move  h8 ?_)
      refine l_pure rfl (s_add  rfl rfl (IntWalk.i64_in _ (by omega)) ?_)
      refine l_pure rfl (s_asg  rfl ?_)
      refine l_nil ?_
      repeat (with_reducible first | refine c_seq ?_ | refine c_block ?_ | refine c_skip ?_ | refine x_then ?_ | refine x_block ?_)
      exact ⟨j + 1, _, rfl, ⟨hlt, h0, h1, h6, h7, vi rfl (by omega), hS⟩, by omega⟩
    · refine c_no rfl (decide_eq_false (by omega)) ?_
      repeat (with_reducible first | refine c_seq ?_ | refine c_block ?_ | refine c_skip ?_ | refine x_then ?_ | refine x_block ?_)
      refine c_exit ?_
      repeat (with_reducible first | refine x_then_exit ?_ | refine x_block_exit ?_ | refine x_block_pass rfl ?_)
      repeat (with_reducible first | refine c_seq ?_ | refine c_block ?_ | refine c_skip ?_ | refine x_then ?_ | refine x_block ?_)
      obtain rfl : j = W.length - 1 := by omega
      rw [← ha] at hS
      exact ⟨_, rfl, h0, h1, h6, h7, hS⟩
  clear hS h0 h1 h6 h7
  rintro ρ w3 ⟨h0, h1, h6, h7, hS⟩
  repeat (with_reducible first | refine c_seq ?_ | refine c_block ?_ | refine c_skip ?_ | refine x_then ?_ | refine x_block ?_)
  refine c_draw [(0, .pure), (1, .pure), (2, .pure), (3, .read), (4, .pure), (5, .pure), (6, .read), (7, .pure), (8, .pure), (9, .pure), (10, .read), (11, .pure), (12, .pure), (13, .read), (14, .pure), (15, .read), (16, .read), (17, .grow), (18, .pure), (19, .free)] (by kernel_rfl) (by kernel_rfl) hS ?_
  intro wz10 hS hBz10
  refine w_pure rfl rfl (s_move  h0 ?_)
  refine w_pure rfl rfl (s_nilp  rfl ?_)
  refine w_pure rfl rfl (s_fld  rfl fo_70_2 ?_)
  refine w_read rfl rfl (s_ldc (k := 3)  rfl vi_24 hS (congrArg some hfb) rfl ?_)
  refine w_pure rfl rfl (s_move  h1 ?_)
  refine w_pure rfl rfl (s_ixr (i := 0)  rfl rfl (hWd _ _ _ hS) (by omega) (by first | omega | (simp; done) | (simp; omega)) si_47 ?_)
  refine w_read rfl rfl (s_lde (i := 0) 0  rfl vi_3 (hWd _ _ _ hS) (by first | omega | (simp; done) | (simp; omega)) rfl rfl (.inr rfl) ?_)
  refine w_pure rfl rfl (s_move  h0 ?_)
  refine w_pure rfl rfl (s_nilp  rfl ?_)
  refine w_pure rfl rfl (s_fld  rfl fo_70_2 ?_)
  refine w_read rfl rfl (s_ldc (k := 3)  rfl vi_24 hS (congrArg some hfb) rfl ?_)
  refine w_pure rfl rfl (s_move  h1 ?_)
  refine w_pure rfl rfl (s_ixr (i := 0)  rfl rfl (hWd _ _ _ hS) (by omega) (by first | omega | (simp; done) | (simp; omega)) si_47 ?_)
  refine w_read rfl rfl (s_lde (i := 0) 0  rfl vi_3 (hWd _ _ _ hS) (by first | omega | (simp; done) | (simp; omega)) rfl rfl (.inr rfl) ?_)
  refine w_pure rfl rfl (s_ixo (i := wI W 0)  rfl rfl (hI 0) (by first | omega | (simp; done) | (simp; omega)) si_24 ?_)
  refine w_read rfl rfl (s_ldS (k := 4) (i := wI W 0) (enc := encR) zRR (fun _ => rfl)  rfl vi_36 hS rfl (by first | omega | simp) (by first | omega | (simp; done) | (simp; omega)) rfl (.inl rfl) ?_)
  refine w_read rfl rfl (s_ldo (k := 0)  h7 vi_36 hS rfl rfl rfl (.inl rfl) ?_)
  refine w_grow rfl rfl (s_call Tryz.call29 rfl (QSubtract_ok ((tab n fun i => ofQ (lf i)).getD (wI W 0) zRR) (ofQ a) _ (by rw [hgl, Lr_ofQ, Lr_ofQ]; omega)) ?_)
  rintro r w4 ⟨rfl, hB4⟩
  refine ⟨hB4, ?_⟩
  replace hS := hS.grow hB4
  rw [hgl, toQ_ofQ, toQ_ofQ]
  refine w_pure rfl rfl (s_ixo (i := wI W 0)  rfl rfl (hI 0) (by first | omega | (simp; done) | (simp; omega)) si_24 ?_)
  refine w_free rfl rfl (s_stS (k := 4) (i := wI W 0) (enc := encR) (ofQ (lf (wI W 0) - a)) (fun _ => rfl)  rfl rfl vi_36 hS rfl (by first | omega | simp) (by first | omega | (simp; done) | (simp; omega)) rfl rfl ?_)
  intro wz11 hS
  refine w_end ?_
  repeat (with_reducible first | refine c_seq ?_ | refine c_block ?_ | refine c_skip ?_ | refine x_then ?_ | refine x_block ?_)
  have hset : (tab n fun i => ofQ (lf i)).set (wI W 0) (ofQ (lf (wI W 0) - a)) = tab n fun i => ofQ (cutF lf (wI W 0) a i) := by
    rw [tab_set]
    refine tab_congr fun i _ => ?_
    unfold cutF
    split
    · next e => rw [e]
    · rfl
  replace hS : St w0 _ ([(b7, 36, encR (ofQ a)), (b6, 36, encR zRR), (b5, 36, encR (ofQ most)), fb, (bl, 36, ((tab n fun i => ofQ (lf i)).set (wI W 0) (ofQ (lf (wI W 0) - a))).flatMap encR ++ sp)] ++ mD encR 36 24 bo cs R0 H) := hS
  rw [hset] at hS
  replace hS : St w0 _ (puB b7 b6 b5 bl n fb a most (cutF lf (wI W 0) a) sp ++ mD encR 36 24 bo cs R0 H) := hS
  repeat (with_reducible first | refine c_seq ?_ | refine c_block ?_ | refine c_skip ?_ | refine x_then ?_ | refine x_block ?_)
  refine c_reg ?_
  refine l_pure rfl (s_asg  rfl ?_)
  refine l_nil ?_
  repeat (with_reducible first | refine c_seq ?_ | refine c_skip ?_ | refine x_then ?_ | refine x_block ?_)
  refine c_cut1 (fun ρ w' => ρ 6 = .pointer (some ⟨b6, 0, none⟩) ∧ ρ 7 = .pointer (some ⟨b7, 0, none⟩) ∧ ∃ R, R.map Rw.v = R0.map Rw.v ∧ MatG R n m (fun i k => ofQ (psh W a P W.length i k)) ∧ St w0 w' (puB b7 b6 b5 bl n fb a most (cutF lf (wI W 0) a) sp ++ mD encR 36 24 bo cs R H)) ?_ ?_
  · repeat (with_reducible first | refine c_seq ?_ | refine c_block ?_ | refine c_skip ?_ | refine x_then ?_ | refine x_block ?_)
    refine c_loop (σ := Nat) (fun j ρ w' => j ≤ W.length ∧ ρ 0 = .pointer (some ⟨bf, 0, none⟩) ∧ ρ 1 = vW ∧ ρ 6 = .pointer (some ⟨b6, 0, none⟩) ∧ ρ 7 = .pointer (some ⟨b7, 0, none⟩) ∧ ρ 9 = .int .i64 ((1 + 2 * j : Nat) : Int) ∧ ∃ R, R.map Rw.v = R0.map Rw.v ∧ MatG R n m (fun i k => ofQ (psh W a P j i k)) ∧ St w0 w' (puB b7 b6 b5 bl n fb a most (cutF lf (wI W 0) a) sp ++ mD encR 36 24 bo cs R H)) (fun j => W.length - j) 0
      ⟨Nat.zero_le _, by assumption, by assumption, by assumption, by assumption, rfl, R0, rfl, hR, hS⟩ ?_
    clear hS h0 h1 h6 h7
    rintro j ρ w5 ⟨hj, h0, h1, h6, h7, h9, R1, hv1, hR1, hS⟩
    repeat (with_reducible first | refine c_seq ?_ | refine c_block ?_ | refine c_skip ?_ | refine x_then ?_ | refine x_block ?_)
    refine c_reg ?_
    refine l_pure rfl (s_move  h9 ?_)
    refine l_pure rfl (s_move  h1 ?_)
    refine l_pure rfl (s_lenr  rfl (hWd _ _ _ hS) ⟨_, Tryz.underlying47⟩ ?_)
    refine l_pure rfl (s_lss  rfl rfl ?_)
    refine l_nil ?_
    repeat (with_reducible first | refine c_seq ?_ | refine c_block ?_ | refine c_skip ?_ | refine x_then ?_ | refine x_block ?_)
    by_cases hlt : j < W.length
    · refine c_yes rfl (decide_eq_true (by omega)) ?_
      repeat (with_reducible first | refine c_seq ?_ | refine c_block ?_ | refine c_skip ?_ | refine x_then ?_ | refine x_block ?_)
      have hij := hwo.it j hlt
      have hcj := hwo.cl j hlt
      have hl1 : wI W j < R1.length := by rw [hR1.len]; exact hij
      have htr := tab_len m fun k => ofQ (psh W a P j (wI W j) k)
      have hcol := psh_col W a P (wC W j) j (fun l hlj => hwo.dif l j hlj hlt)
      have hgp : (tab m fun k => ofQ (psh W a P j (wI W j) k)).getD (wC W j) zRR = ofQ (psh W a P j (wI W j) (wC W j)) := tab_get _ _ hcj
      have hL1 : L (psh W a P j (wI W j) (wC W j)) ≤ K := by rw [hcol]; exact hLP _ hij _ hcj
      repeat (with_reducible first | refine c_seq ?_ | refine c_block ?_ | refine c_skip ?_ | refine x_then ?_ | refine x_block ?_)
      refine c_reg ?_
      refine l_pure rfl (s_move  h1 ?_)
      refine l_pure rfl (s_move  h9 ?_)
      refine l_pure rfl (s_ixr (i := 2 * j + 1)  rfl rfl (hWd _ _ _ hS) (by omega) (by first | omega | (simp; done) | (simp; omega)) si_47 ?_)
      refine l_read rfl (s_lde (i := 2 * j + 1) 0  rfl vi_3 (hWd _ _ _ hS) (by first | omega | (simp; done) | (simp; omega)) rfl rfl (.inr rfl) ?_)
      refine l_pure rfl (s_asg  rfl ?_)
      refine l_nil ?_
      repeat (with_reducible first | refine c_seq ?_ | refine c_block ?_ | refine c_skip ?_ | refine x_then ?_ | refine x_block ?_)
      rw [hC j]
      repeat (with_reducible first | refine c_seq ?_ | refine c_block ?_ | refine c_skip ?_ | refine x_then ?_ | refine x_block ?_)
      refine c_draw [(0, .pure), (1, .pure), (2, .pure), (3, .read), (4, .pure), (5, .pure), (6, .pure), (7, .pure), (8, .read), (9, .pure), (10, .read), (11, .pure), (12, .pure), (13, .pure), (14, .pure), (15, .read), (16, .pure), (17, .pure), (18, .pure), (19, .pure), (20, .read), (21, .pure), (22, .read), (23, .pure), (24, .pure), (25, .read), (26, .read), (27, .grow), (28, .pure), (29, .free)] (by kernel_rfl) (by kernel_rfl) hS ?_
      intro wz12 hS hBz12
      refine w_pure rfl rfl (s_move  h0 ?_)
      refine w_pure rfl rfl (s_nilp  rfl ?_)
      refine w_pure rfl rfl (s_fld  rfl fo_70_1 ?_)
      refine w_read rfl rfl (s_ldc (k := 3)  rfl vi_28 hS (congrArg some hfb) rfl ?_)
      refine w_pure rfl rfl (s_move  h1 ?_)
      refine w_pure rfl rfl (s_move  h9 ?_)
      refine w_pure rfl rfl (s_sub  rfl rfl (IntWalk.i64_in _ (by omega)) ?_)
      refine w_pure rfl rfl (s_ixr (i := 2 * j)  rfl rfl (hWd _ _ _ hS) (by omega) (by first | omega | (simp; done) | (simp; omega)) si_47 ?_)
      refine w_read rfl rfl (s_lde (i := 2 * j) 0  rfl vi_3 (hWd _ _ _ hS) (by first | omega | (simp; done) | (simp; omega)) rfl rfl (.inr rfl) ?_)
      refine w_pure rfl rfl (s_ixo (i := wI W j)  rfl rfl (hI j) hij si_28 ?_)
      refine w_read rfl rfl (s_mrowD (puB b7 b6 b5 bl n fb a most (cutF lf (wI W 0) a) sp)  rfl vi_24 hS (by omega) (hcr R1 hv1 _ hl1) ?_)
      refine w_pure rfl rfl (s_move  rfl ?_)
      refine w_pure rfl rfl (s_move  h0 ?_)
      refine w_pure rfl rfl (s_nilp  rfl ?_)
      refine w_pure rfl rfl (s_fld  rfl fo_70_1 ?_)
      refine w_read rfl rfl (s_ldc (k := 3)  rfl vi_28 hS (congrArg some hfb) rfl ?_)
      refine w_pure rfl rfl (s_move  h1 ?_)
      refine w_pure rfl rfl (s_move  h9 ?_)
      refine w_pure rfl rfl (s_sub  rfl rfl (IntWalk.i64_in _ (by omega)) ?_)
      refine w_pure rfl rfl (s_ixr (i := 2 * j)  rfl rfl (hWd _ _ _ hS) (by omega) (by first | omega | (simp; done) | (simp; omega)) si_47 ?_)
      refine w_read rfl rfl (s_lde (i := 2 * j) 0  rfl vi_3 (hWd _ _ _ hS) (by first | omega | (simp; done) | (simp; omega)) rfl rfl (.inr rfl) ?_)
      refine w_pure rfl rfl (s_ixo (i := wI W j)  rfl rfl (hI j) hij si_28 ?_)
      refine w_read rfl rfl (s_mrowD (puB b7 b6 b5 bl n fb a most (cutF lf (wI W 0) a) sp)  rfl vi_24 hS (by omega) (hcr R1 hv1 _ hl1) ?_)
      refine w_pure rfl rfl (s_move  rfl ?_)
      refine w_pure rfl rfl (s_ixr (i := wC W j)  rfl rfl (hR1.slD (puB b7 b6 b5 bl n fb a most (cutF lf (wI W 0) a) sp) hS encR_len hij) (by omega) (by first | omega | (simp; done) | (simp; omega)) si_24 ?_)
      refine w_read rfl rfl (s_lde (i := wC W j) zRR  rfl vi_36 (hR1.slD (puB b7 b6 b5 bl n fb a most (cutF lf (wI W 0) a) sp) hS encR_len hij) (by first | omega | (simp; done) | (simp; omega)) rfl rfl (.inl rfl) ?_)
      refine w_read rfl rfl (s_ldo (k := 0)  h7 vi_36 hS rfl rfl rfl (.inl rfl) ?_)
      refine w_grow rfl rfl (s_call Tryz.call14 rfl (QAdd_ok ((tab m fun k => ofQ (psh W a P j (wI W j) k)).getD (wC W j) zRR) (ofQ a) _ (by rw [hgp, Lr_ofQ, Lr_ofQ]; omega)) ?_)
      rintro r w6 ⟨rfl, hB6⟩
      refine ⟨hB6, ?_⟩
      replace hS := hS.grow hB6
      rw [hgp, toQ_ofQ, toQ_ofQ]
      refine w_pure rfl rfl (s_ixo (i := wC W j) rfl rfl (by omega) (by rw [hR1.xlen hij]; exact hcj) si_24 ?_)
      refine w_free rfl rfl (s_mstD (puB b7 b6 b5 bl n fb a most (cutF lf (wI W 0) a) sp) (i := wI W j) (j := wC W j) (ofQ (psh W a P j (wI W j) (wC W j) + a)) encR_len  rfl rfl vi_36 hS rfl hl1 (by omega) (by rw [hR1.xlen hij]; exact hcj) rfl rfl ?_)
      intro wz13 hS
      refine w_end ?_
      repeat (with_reducible first | refine c_seq ?_ | refine c_block ?_ | refine c_skip ?_ | refine x_then ?_ | refine x_block ?_)
      have hv2 := map_put_v R1 (wC W j) (ofQ (psh W a P j (wI W j) (wC W j) + a)) hl1
      rw [hv1] at hv2
      have hR2 := put_upP (d := a) (j := wC W j) hR1 hij
      obtain ⟨R2, hR2e⟩ : ∃ R2, R2 = R1.set (wI W j) ((R1.getD (wI W j) zRw).put (wC W j) (ofQ (psh W a P j (wI W j) (wC W j) + a))) := ⟨_, rfl⟩
      rw [← hR2e] at hS hv2 hR2
      repeat (with_reducible first | refine c_seq ?_ | refine c_block ?_ | refine c_skip ?_ | refine x_then ?_ | refine x_block ?_)
      refine c_reg ?_
      refine l_pure rfl (s_move  h9 ?_)
      refine l_pure rfl (s_add  rfl rfl (IntWalk.i64_in _ (by omega)) ?_)
      refine l_pure rfl (s_move  h1 ?_)
      refine l_pure rfl (s_lenr  rfl (hWd _ _ _ hS) ⟨_, Tryz.underlying47⟩ ?_)
      refine l_pure rfl (s_lss  rfl rfl ?_)
      refine l_nil ?_
      repeat (with_reducible first | refine c_seq ?_ | refine c_block ?_ | refine c_skip ?_ | refine x_then ?_ | refine x_block ?_)
      by_cases hlt2 : j + 1 < W.length
      · refine c_yes rfl (decide_eq_true (by omega)) ?_
        repeat (with_reducible first | refine c_seq ?_ | refine c_block ?_ | refine c_skip ?_ | refine x_then ?_ | refine x_block ?_)
        obtain ⟨Q, hQ⟩ : ∃ Q, Q = upP (psh W a P j) (wI W j) (wC W j) a := ⟨_, rfl⟩
        have hps : psh W a P (j + 1) = upP Q (wI W (j + 1)) (wC W j) (-a) := by rw [hQ]; exact if_pos hlt2
        have hi2 := hwo.it (j + 1) hlt2
        have hl2 : wI W (j + 1) < R2.length := by rw [hR2.len]; exact hi2
        have hLq : L (Q (wI W (j + 1)) (wC W j)) ≤ 2 * K + 1 := by
          have g1 := hLP _ hi2 _ hcj
          have g2 := L_add (P (wI W (j + 1)) (wC W j)) a
          rw [hQ]
          unfold upP
          rw [hcol]
          split <;> omega
        rw [← hQ] at hR2
        have htq := tab_len m fun k => ofQ (Q (wI W (j + 1)) k)
        have hgq : (tab m fun k => ofQ (Q (wI W (j + 1)) k)).getD (wC W j) zRR = ofQ (Q (wI W (j + 1)) (wC W j)) := tab_get _ _ hcj
        repeat (with_reducible first | refine c_seq ?_ | refine c_block ?_ | refine c_skip ?_ | refine x_then ?_ | refine x_block ?_)
        refine c_draw [(0, .pure), (1, .pure), (2, .pure), (3, .read), (4, .pure), (5, .pure), (6, .pure), (7, .pure), (8, .read), (9, .pure), (10, .read), (11, .pure), (12, .pure), (13, .pure), (14, .pure), (15, .read), (16, .pure), (17, .pure), (18, .pure), (19, .pure), (20, .read), (21, .pure), (22, .read), (23, .pure), (24, .pure), (25, .read), (26, .read), (27, .grow), (28, .pure), (29, .free)] (by kernel_rfl) (by kernel_rfl) hS ?_
        intro wz14 hS hBz14
        refine w_pure rfl rfl (s_move  h0 ?_)
        refine w_pure rfl rfl (s_nilp  rfl ?_)
        refine w_pure rfl rfl (s_fld  rfl fo_70_1 ?_)
        refine w_read rfl rfl (s_ldc (k := 3)  rfl vi_28 hS (congrArg some hfb) rfl ?_)
        refine w_pure rfl rfl (s_move  h1 ?_)
        refine w_pure rfl rfl (s_move  h9 ?_)
        refine w_pure rfl rfl (s_add  rfl rfl (IntWalk.i64_in _ (by omega)) ?_)
        refine w_pure rfl rfl (s_ixr (i := 2 * (j + 1))  rfl rfl (hWd _ _ _ hS) (by omega) (by first | omega | (simp; done) | (simp; omega)) si_47 ?_)
        refine w_read rfl rfl (s_lde (i := 2 * (j + 1)) 0  rfl vi_3 (hWd _ _ _ hS) (by first | omega | (simp; done) | (simp; omega)) rfl rfl (.inr rfl) ?_)
        refine w_pure rfl rfl (s_ixo (i := wI W (j + 1))  rfl rfl (hI (j + 1)) hi2 si_28 ?_)
        refine w_read rfl rfl (s_mrowD (puB b7 b6 b5 bl n fb a most (cutF lf (wI W 0) a) sp)  rfl vi_24 hS (by omega) (hcr R2 hv2 _ hl2) ?_)
        refine w_pure rfl rfl (s_move  rfl ?_)
        refine w_pure rfl rfl (s_move  h0 ?_)
        refine w_pure rfl rfl (s_nilp  rfl ?_)
        refine w_pure rfl rfl (s_fld  rfl fo_70_1 ?_)
        refine w_read rfl rfl (s_ldc (k := 3)  rfl vi_28 hS (congrArg some hfb) rfl ?_)
        refine w_pure rfl rfl (s_move  h1 ?_)
        refine w_pure rfl rfl (s_move  h9 ?_)
        refine w_pure rfl rfl (s_add  rfl rfl (IntWalk.i64_in _ (by omega)) ?_)
        refine w_pure rfl rfl (s_ixr (i := 2 * (j + 1))  rfl rfl (hWd _ _ _ hS) (by omega) (by first | omega | (simp; done) | (simp; omega)) si_47 ?_)
        refine w_read rfl rfl (s_lde (i := 2 * (j + 1)) 0  rfl vi_3 (hWd _ _ _ hS) (by first | omega | (simp; done) | (simp; omega)) rfl rfl (.inr rfl) ?_)
        refine w_pure rfl rfl (s_ixo (i := wI W (j + 1))  rfl rfl (hI (j + 1)) hi2 si_28 ?_)
        refine w_read rfl rfl (s_mrowD (puB b7 b6 b5 bl n fb a most (cutF lf (wI W 0) a) sp)  rfl vi_24 hS (by omega) (hcr R2 hv2 _ hl2) ?_)
        refine w_pure rfl rfl (s_move  rfl ?_)
        refine w_pure rfl rfl (s_ixr (i := wC W j)  rfl rfl (hR2.slD (puB b7 b6 b5 bl n fb a most (cutF lf (wI W 0) a) sp) hS encR_len hi2) (by omega) (by first | omega | (simp; done) | (simp; omega)) si_24 ?_)
        refine w_read rfl rfl (s_lde (i := wC W j) zRR  rfl vi_36 (hR2.slD (puB b7 b6 b5 bl n fb a most (cutF lf (wI W 0) a) sp) hS encR_len hi2) (by first | omega | (simp; done) | (simp; omega)) rfl rfl (.inl rfl) ?_)
        refine w_read rfl rfl (s_ldo (k := 0)  h7 vi_36 hS rfl rfl rfl (.inl rfl) ?_)
        refine w_grow rfl rfl (s_call Tryz.call29 rfl (QSubtract_ok ((tab m fun k => ofQ (Q (wI W (j + 1)) k)).getD (wC W j) zRR) (ofQ a) _ (by rw [hgq, Lr_ofQ, Lr_ofQ]; omega)) ?_)
        rintro r w7 ⟨rfl, hB7⟩
        refine ⟨hB7, ?_⟩
        replace hS := hS.grow hB7
        rw [hgq, toQ_ofQ, toQ_ofQ, Rat.sub_eq_add_neg]
        refine w_pure rfl rfl (s_ixo (i := wC W j) rfl rfl (by omega) (by rw [hR2.xlen hi2]; exact hcj) si_24 ?_)
        refine w_free rfl rfl (s_mstD (puB b7 b6 b5 bl n fb a most (cutF lf (wI W 0) a) sp) (i := wI W (j + 1)) (j := wC W j) (ofQ (Q (wI W (j + 1)) (wC W j) + -a)) encR_len  rfl rfl vi_36 hS rfl hl2 (by omega) (by rw [hR2.xlen hi2]; exact hcj) rfl rfl ?_)
        intro wz15 hS
        refine w_end ?_
        repeat (with_reducible first | refine c_seq ?_ | refine c_block ?_ | refine c_skip ?_ | refine x_then ?_ | refine x_block ?_)
        have hv3 := map_put_v R2 (wC W j) (ofQ (Q (wI W (j + 1)) (wC W j) + -a)) hl2
        rw [hv2] at hv3
        have hR3 := put_upP (d := -a) (j := wC W j) hR2 hi2
        rw [← hps] at hR3
        repeat (with_reducible first | refine c_seq ?_ | refine c_block ?_ | refine c_skip ?_ | refine x_then ?_ | refine x_block ?_)
        refine c_reg ?_
        refine l_pure rfl (s_move  h9 ?_)
        refine l_pure rfl (s_add  rfl rfl (IntWalk.i64_in _ (by omega)) ?_)
        refine l_pure rfl (s_asg  rfl ?_)
        refine l_nil ?_
        repeat (with_reducible first | refine c_seq ?_ | refine c_block ?_ | refine c_skip ?_ | refine x_then ?_ | refine x_block ?_)
        exact ⟨j + 1, _, rfl, ⟨hlt, by assumption, by assumption, by assumption, by assumption, vi rfl (by omega), _, hv3, hR3, hS⟩, by omega⟩
      · refine c_no rfl (decide_eq_false (by omega)) ?_
        repeat (with_reducible first | refine c_seq ?_ | refine c_block ?_ | refine c_skip ?_ | refine x_then ?_ | refine x_block ?_)
        have hps : psh W a P (j + 1) = upP (psh W a P j) (wI W j) (wC W j) a := if_neg hlt2
        rw [← hps] at hR2
        repeat (with_reducible first | refine c_seq ?_ | refine c_block ?_ | refine c_skip ?_ | refine x_then ?_ | refine x_block ?_)
        refine c_reg ?_
        refine l_pure rfl (s_move  h9 ?_)
        refine l_pure rfl (s_add  rfl rfl (IntWalk.i64_in _ (by omega)) ?_)
        refine l_pure rfl (s_asg  rfl ?_)
        refine l_nil ?_
        repeat (with_reducible first | refine c_seq ?_ | refine c_block ?_ | refine c_skip ?_ | refine x_then ?_ | refine x_block ?_)
        exact ⟨j + 1, _, rfl, ⟨hlt, by assumption, by assumption, by assumption, by assumption, vi rfl (by omega), _, hv2, hR2, hS⟩, by omega⟩
    · refine c_no rfl (decide_eq_false (by omega)) ?_
      repeat (with_reducible first | refine c_seq ?_ | refine c_block ?_ | refine c_skip ?_ | refine x_then ?_ | refine x_block ?_)
      refine c_exit ?_
      repeat (with_reducible first | refine x_then_exit ?_ | refine x_block_exit ?_ | refine x_block_pass rfl ?_)
      repeat (with_reducible first | refine c_seq ?_ | refine c_block ?_ | refine c_skip ?_ | refine x_then ?_ | refine x_block ?_)
      obtain rfl : j = W.length := by omega
      exact ⟨_, rfl, h6, h7, R1, hv1, hR1, hS⟩
  clear hS h0 h1 h6 h7
  rintro ρ w5 ⟨h6, h7, R1, hv1, hR1, hS⟩
  repeat (with_reducible first | refine c_seq ?_ | refine c_block ?_ | refine c_skip ?_ | refine x_then ?_ | refine x_block ?_)
  refine c_reg ?_
  refine l_read rfl (s_ldo (k := 0)  h7 vi_36 hS rfl rfl rfl (.inl rfl) ?_)
  refine l_heavy rfl (s_sta (k := 1)  h6 rfl vi_36 hS rfl rfl rfl (Nat.le_of_ble_eq_true rfl) rfl ?_)
  intro wz16 hS
  refine l_nil ?_
  repeat (with_reducible first | refine c_seq ?_ | refine c_block ?_ | refine c_skip ?_ | refine x_then ?_ | refine x_block ?_)
  refine c_ret ?_
  repeat (with_reducible first | refine x_then_ret ?_ | refine x_block_ret ?_)
  refine r_cell (k := 1) rfl h6 vi_36 hS rfl rfl ?_
  exact ⟨rfl, R1, hv1, hR1, hS.drop (((List.sublist_cons_self _ _).trans (List.sublist_cons_self _ _)).trans (List.sublist_cons_self _ _))⟩
end Go.Proofs.YtmghobajmhdbfaaGreatDoor
namespace Go.Sx
open Go Go.RowKit Go.Proofs.YtmghobajmhdbfaaGreatDoor
theorem MatG_snoc {α : Type} {R : List (Rw α)} {i m : Nat} {f : Nat → Nat → α} (h : MatG R i m f) {r : Rw α} (hX : r.X = tab m (f i)) (hc : m ≤ r.cap ∧ r.cap ≤ 9223372036854775807) : MatG (R ++ [r]) (i + 1) m f := by
  have hg : ∀ a, (R ++ [r]).getD a zRw = if a < i then R.getD a zRw else if a = i then r else zRw := by
    intro a
    rw [List.getD_eq_getElem?_getD]
    by_cases e : a < i
    · rw [if_pos e, List.getElem?_append_left (by rw [h.len]; exact e), List.getD_eq_getElem?_getD]
    · rw [if_neg e, List.getElem?_append_right (by rw [h.len]; omega), h.len]
      by_cases e2 : a = i
      · rw [if_pos e2, e2, Nat.sub_self]; rfl
      · rw [if_neg e2, List.getElem?_eq_none (by simp; omega)]; rfl
  refine ⟨by rw [List.length_append, h.len]; rfl, fun a ha => ?_, fun a ha => ?_⟩
  · rw [hg]
    by_cases e : a < i
    · rw [if_pos e]; exact h.row a e
    · obtain rfl : a = i := by omega
      rw [if_neg e, if_pos rfl]; exact hX
  · rw [hg]
    by_cases e : a < i
    · rw [if_pos e]; exact h.cap a e
    · obtain rfl : a = i := by omega
      rw [if_neg e, if_pos rfl]; exact hc
theorem perm_mD {α : Type} {enc : α → List Value} {tR tS : TypeId} {bo : Nat} {cs : List Value} {R : List (Rw α)} {H : List Blk} (LW A : List Blk) : (LW ++ (A ++ mD enc tR tS bo cs R H)).Perm (A ++ mD enc tR tS bo cs R (LW ++ H)) := by
  have e : ∀ T, A ++ mD enc tR tS bo cs R T = (A ++ (bo, tS, cs) :: R.map (Rw.blk enc tR)) ++ T := fun T => by rw [List.append_assoc]; rfl
  rw [e H, e (LW ++ H)]
  exact List.perm_append_comm_assoc _ _ _
theorem drop_mD {α : Type} {enc : α → List Value} {tR tS : TypeId} {bo : Nat} {cs : List Value} {R : List (Rw α)} {H H' : List Blk} (A : List Blk) (h : H'.Sublist H) : (A ++ mD enc tR tS bo cs R H').Sublist (A ++ mD enc tR tS bo cs R H) := by
  unfold mD
  exact List.Sublist.append (List.Sublist.refl _) (List.Sublist.cons_cons _ (List.Sublist.append (List.Sublist.refl _) h))
end Go.Sx
namespace Go.Proofs.YtmghobajmhdbfaaGreatDoor
open Go Go.RowKit Go.Sx
section
variable {X : List It} {owed : List RR} {D : Nat}
theorem Mu.tot (h1 : ∀ i, i < X.length → Mu D (prF X i)) (h2 : ∀ c, c < owed.length → Mu D (owF owed c)) (c : Nat) : Mu D (totF X owed c) := by
  have hc : ∀ s j, Mu D (capF X owed s j) := fun s j => (Mu.sumIf h1).add (Mu.sumIf h2)
  have hp : ∀ k, Mu D (preQ X owed k) := fun k => by
    unfold preQ
    split
    · exact Mu.zero
    · unfold capQ
      obtain ⟨i, _, e⟩ := mins_at (capF X owed fun i => decide (i < k)) (2 ^ X.length)
      rw [e]; exact hc _ _
  exact (hp _).sub (hp _)
theorem totF_pos (hp : Pos owed) (c : Nat) : 0 ≤ totF X owed c := by
  have h := capQ_mono (X := X) hp (s := fun i => decide (i < c)) (t := fun i => decide (i < c + 1)) (fun k _ h => by simp only [decide_eq_true_eq] at h ⊢; omega)
  rw [← preQ_eq, ← preQ_eq] at h
  unfold totF
  grind
theorem den_all {K : Nat} (hX : ItB K X) (ho : RB K owed) (hX8 : X.length ≤ 8) (ho24 : owed.length ≤ 24) : ∃ D, 0 < D ∧ sz D ≤ 32 * (2 * K + 1) + 1 ∧ (∀ i, i < X.length → Mu D (prF X i)) ∧ ∀ c, c < owed.length → Mu D (owF owed c) := by
  obtain ⟨D, h1, h2, h3⟩ := comm_den (K := 2 * K + 1) (tab X.length (prF X) ++ tab owed.length (owF owed)) (fun q hq => by
    rcases List.mem_append.1 hq with h | h
    · obtain ⟨i, hi, rfl⟩ := List.mem_map.1 h
      exact L_prF hX (List.mem_range.1 hi)
    · obtain ⟨i, hi, rfl⟩ := List.mem_map.1 h
      have := L_owF ho (List.mem_range.1 hi)
      omega)
  refine ⟨D, h1, Nat.le_trans h2 ?_, fun i hi => h3 _ (List.mem_append_left _ (List.mem_map.2 ⟨i, List.mem_range.2 hi, rfl⟩)), fun i hi => h3 _ (List.mem_append_right _ (List.mem_map.2 ⟨i, List.mem_range.2 hi, rfl⟩))⟩
  rw [List.length_append, tab_len, tab_len]
  have : (X.length + owed.length) * (2 * K + 1) ≤ 32 * (2 * K + 1) := Nat.mul_le_mul_right _ (by omega)
  omega
theorem le_natAbs (q : Rat) : q ≤ ((q.num.natAbs : Nat) : Rat) := by
  have h1 : q * (q.den : Rat) = (q.num : Rat) := by
    have h : (q.den : Rat) ≠ 0 := by
      have := Rat.natCast_pos.2 q.den_pos
      grind
    have := Rat.div_mul_cancel (a := (q.num : Rat)) h
    rwa [← Rat.mkRat_eq_div, Rat.mkRat_self] at this
  have h2 : (1 : Rat) ≤ (q.den : Rat) := by
    have : ((1 : Nat) : Rat) ≤ ((q.den : Nat) : Rat) := Rat.natCast_le_natCast.2 q.den_pos
    exact this
  have h3 : (q.num : Rat) ≤ ((q.num.natAbs : Nat) : Rat) := by
    rw [← Rat.intCast_natCast, Rat.intCast_le_intCast]; omega
  by_cases h0 : 0 ≤ q
  · have h4 : q * 1 ≤ q * (q.den : Rat) := Rat.mul_le_mul_of_nonneg_left h2 h0
    grind
  · have : (0 : Rat) ≤ ((q.num.natAbs : Nat) : Rat) := Rat.natCast_nonneg
    grind
theorem Mu.sizeQ (hD : 0 < D) {p q : Rat} (h : Mu D p) (h0 : 0 ≤ p) (hq : p ≤ q) : L p ≤ L q + sz D :=
  Nat.le_trans (h.size hD h0 (Rat.le_trans hq (le_natAbs q))) (Nat.add_le_add_right (L_num q) _)
/-- What a distribution that is being made keeps true. -/
structure Dst (X : List It) (owed : List RR) (D c : Nat) (want : Rat) (P : Nat → Nat → Rat) (lf : Nat → Rat) : Prop where
  fl : Fl X.length owed.length (secF X) (prF X) (gotF X owed c want) P lf
  mp : ∀ i, i < X.length → ∀ k, k < owed.length → Mu D (P i k)
  ml : ∀ i, i < X.length → Mu D (lf i)
theorem Fl.got {n m : Nat} {sec : Nat → Nat → Bool} {pr got got' : Nat → Rat} {P : Nat → Nat → Rat} {lf : Nat → Rat} (h : Fl n m sec pr got P lf) (e : ∀ k, k < m → got k = got' k) : Fl n m sec pr got' P lf :=
  ⟨h.p0, h.l0, h.sc, h.row, fun k hk => by rw [h.col k hk, e k hk]⟩
theorem Fl.le {n m : Nat} {sec : Nat → Nat → Bool} {pr got : Nat → Rat} {P : Nat → Nat → Rat} {lf : Nat → Rat} (h : Fl n m sec pr got P lf) {i : Nat} (hi : i < n) : lf i ≤ pr i ∧ ∀ k, k < m → P i k ≤ pr i := by
  have hr := h.row i hi
  have h0 := h.l0 i hi
  have hs := sumIf_nonneg (n := m) (p := tt) (f := P i) fun k hk => h.p0 i hi k hk
  refine ⟨by grind, fun k hk => ?_⟩
  have h1 := sumIf_upd (n := m) (p := tt) (f := P i) (g := fun b => if b = k then 0 else P i b) hk fun b _ hb => if_neg hb
  have h2 : 0 ≤ sumIf m tt (fun b => if b = k then 0 else P i b) := sumIf_nonneg fun b hb => by
    have := h.p0 i hi b hb
    show 0 ≤ if b = k then 0 else P i b
    split
    · exact Rat.le_refl
    · exact this
  rw [if_pos (show tt k = true from rfl), if_pos rfl] at h1
  grind
theorem Dst.start (hm : ∀ i, i < X.length → Mu D (prF X i)) : Dst X owed D 0 (totF X owed 0) (fun _ _ => 0) (prF X) := by
  refine ⟨⟨fun _ _ _ _ => Rat.le_refl, fun i _ => prF_nonneg X i, fun _ _ _ _ _ => rfl, fun i _ => ?_, fun k _ => ?_⟩, fun _ _ _ _ => Mu.zero, hm⟩
  · rw [sumIf_f0 (fun _ _ _ => rfl), Rat.add_zero]
  · rw [sumIf_f0 (fun _ _ _ => rfl)]
    unfold gotF
    rw [if_neg (Nat.not_lt_zero _)]
    split
    · grind
    · rfl
theorem Dst.next {c : Nat} {want : Rat} {P : Nat → Nat → Rat} {lf : Nat → Rat} (h : Dst X owed D c want P lf) (hw : want = 0) : Dst X owed D (c + 1) (totF X owed (c + 1)) P lf := by
  refine ⟨h.fl.got fun k _ => ?_, h.mp, h.ml⟩
  unfold gotF
  subst hw
  by_cases h1 : k < c
  · rw [if_pos h1, if_pos (by omega)]
  · rw [if_neg h1]
    by_cases h2 : k = c
    · rw [if_pos h2, if_pos (by omega), h2]; grind
    · rw [if_neg h2, if_neg (by omega)]
      split
      · grind
      · rfl
theorem Dst.size {K c : Nat} {want : Rat} {P : Nat → Nat → Rat} {lf : Nat → Rat} (h : Dst X owed D c want P lf) (hX : ItB K X) (hD : 0 < D) (hDs : sz D ≤ 32 * (2 * K + 1) + 1) :
    (∀ i, i < X.length → ∀ k, k < owed.length → L (P i k) ≤ 144 * K + 124) ∧ ∀ i, i < X.length → L (lf i) ≤ 144 * K + 124 := by
  refine ⟨fun i hi k hk => ?_, fun i hi => ?_⟩
  · have := (h.mp i hi k hk).sizeQ hD (h.fl.p0 i hi k hk) ((h.fl.le hi).2 k hk)
    have := L_prF hX hi
    omega
  · have := (h.ml i hi).sizeQ hD (h.fl.l0 i hi) (h.fl.le hi).1
    have := L_prF hX hi
    omega
theorem Dst.push {c : Nat} {want : Rat} {P : Nat → Nat → Rat} {lf : Nat → Rat} {W : List Pr2} (h : Dst X owed D c want P lf) (hw : WayOk X.length owed.length (secF X) P lf c W) (hpos : 0 < want) (hM : Mu D want) {a : Rat} (ha : a = amt W P lf want (W.length - 1)) :
    Dst X owed D c (want - a) (psh W a P W.length) (cutF lf (wI W 0) a) ∧ 0 < a ∧ a ≤ want ∧ Mu D a := by
  have hne := hw.ne
  obtain ⟨h1, h2, h3, h4⟩ := amt_ok hw hpos (W.length - 1) (by omega)
  have hMa : Mu D (amt W P lf want (W.length - 1)) := Mu.amt hM (h.ml _ (hw.it 0 hne)) _ fun l hl => h.mp _ (hw.it (l + 1) (by omega)) _ (hw.cl l (by omega))
  rw [← ha] at h1 h2 h3 h4 hMa
  have hf := h.fl.push hw (Rat.le_of_lt h1) h3 fun l hl => h4 l (by omega)
  refine ⟨⟨hf.got fun k _ => ?_, Mu.psh h.mp hMa _, fun i hi => ?_⟩, h1, h2, hMa⟩
  · unfold gotF
    by_cases e1 : k < c
    · rw [if_pos e1, if_pos e1, if_neg (by omega), Rat.add_zero]
    · rw [if_neg e1, if_neg e1]
      split
      · grind
      · grind
  · unfold cutF
    split
    · exact (h.ml i hi).sub hMa
    · exact h.ml i hi
end
section
variable {w0 w : World} {bf bo bl n m capP capL : Nat} {vP vO vI : Value} {tF tR tS : TypeId} {P : Nat → Nat → Rat} {lf : Nat → Rat} {R : List (Rw RR)} {so sp : List Value} {H : List Blk} {ow : List RR} {Rm : List Nat}
/-- The flow's own blocks. -/
def flB (bf bo bl n capP capL : Nat) (vP vO vI : Value) (tF tR : TypeId) (lf : Nat → Rat) (sp : List Value) : List Blk :=
  [(bf, tF, [vP, vO, vI, .slice (some ⟨bo, 0, none⟩) n capP, .slice (some ⟨bl, 0, none⟩) n capL]), (bl, tR, (tab n fun i => ofQ (lf i)).flatMap encR ++ sp)]
theorem flM_of (pre : List Blk) (hS : St w0 w (pre ++ (flB bf bo bl n capP capL vP vO vI tF tR lf sp ++ mD encR tR tS bo (R.map Rw.v ++ so) R H))) (hR : MatG R n m fun i k => ofQ (P i k)) (hO : Sl encR 3 w vO ow) (hol : ow.length = m) (hI : Sl (uk .u64) 1 w vI Rm)
    (h1 : n ≤ capP) (h2 : capP ≤ 9223372036854775807) (h3 : n ≤ capL) (h4 : capL ≤ 9223372036854775807) : FlM w bf vP vO vI (.slice (some ⟨bo, 0, none⟩) n capP) (.slice (some ⟨bl, 0, none⟩) n capL) (R.map Rw.v) n m ow Rm P lf := by
  refine ⟨hS.at (k := pre.length + 0) (by rw [preAt]; rfl) 0 5, hO, hol, hI, hR.mtsD (pre ++ flB bf bo bl n capP capL vP vO vI tF tR lf sp) (by rw [List.append_assoc]; exact hS) encR_len h1 h2, ?_⟩
  have := hS.slg (k := pre.length + 1) (enc := encR) (L := tab n fun i => ofQ (lf i)) (by rw [preAt]; rfl) encR_len (n := n) (cap := capL) (by rw [tab_len]; exact Nat.le_refl _) h3 h4
  rwa [List.take_of_length_le (by rw [tab_len]; exact Nat.le_refl _)] at this
end
end Go.Proofs.YtmghobajmhdbfaaGreatDoor
namespace Go.Sx
open Go Go.RowKit
section
variable {P : Program} {N : Nat} {ρ : Nat → Value} {w0 w w' : World} {d : Option Tmp} {ty : TypeId} {pos : String} {aft : Array Edge} {g : Option (Nat × Bool)} {x y z : Operand} {t t' e : TypeId} {H L : List Blk} {b : Nat} {cs : List Value} {v : Value} {K : Value → Prop} {K2 : Value → World → Prop}
theorem s_eqnil {a : Option Addr} {n c : Nat} (hx : ev N ρ x = .slice a n c) (hy : ev N ρ y = .slice none 0 0) (ht : ∃ e, P.underlying t = some (.slice e)) (h : K (.bool a.isNone)) : Pure1 P N ρ ⟨d, .binOp .eql t x y t', ty, pos, aft, g⟩ K := by
  obtain ⟨e, ht⟩ := ht
  refine ⟨.bool a.isNone, fun w => ?_, h⟩
  have h2 : (binOp .eql t (.slice a n c) (.slice none 0 0)).run P w = .ok (.bool a.isNone) w := by
    have h4 : ∀ k, (Op.equalIn (k + 1) t (.slice a n c) (.slice none 0 0)).run P w = .ok a.isNone w := fun k => by cases a <;> simp [Op.equalIn, run_underlying ht]
    have h3 := h4 9999
    simp only [binOp]
    simp [Op.equal, Op.maxDepth, h3]
  simp only [execOp, hx, hy, Sem.run_bind]
  have h1 : (eqGuard .eql t x y (.slice a n c) (.slice none 0 0)).run P w = .ok () w := rfl
  rw [h1, Result.andThen_ok, h2, Result.andThen_ok]
  rfl
end
section
variable {P : Program} {N : Nat} {ρ : Nat → Value} {w0 w : World} {H : List Blk} {k b : Nat} {t : TypeId} {cs : List Value}
end
end Go.Sx
namespace Go.Sx
open Go Go.RowKit
section
variable {P : Program} {ops : Array Oper} {Kend : Act → World → Prop}
/-- Does operation i wait for none of those that are left? -/
def rdyU (ops : Array Oper) (U : List (Nat × Md)) (i : Nat) : Bool := match ops[i]? with
  | some o => o.after.all fun e => !Region.binds .any e || !(U.any fun y => Nat.beq y.1 e.on)
  | none => false
def del (U : List (Nat × Md)) (i : Nat) : List (Nat × Md) := U.filter fun y => !Nat.beq y.1 i
theorem mem_del {U : List (Nat × Md)} {i : Nat} {y : Nat × Md} : y ∈ del U i ↔ y ∈ U ∧ y.1 ≠ i := by
  unfold del
  rw [List.mem_filter]
  constructor
  · rintro ⟨h1, h2⟩
    refine ⟨h1, fun e => ?_⟩
    rw [e] at h2
    simp at h2
  · rintro ⟨h1, h2⟩
    refine ⟨h1, ?_⟩
    rw [Bool.not_eq_true']
    cases hb : Nat.beq y.1 i with
    | false => rfl
    | true => exact absurd (Nat.eq_of_beq_eq_true hb) h2
theorem del_comm (U : List (Nat × Md)) (i j : Nat) : del (del U i) j = del (del U j) i := by
  unfold del
  rw [List.filter_filter, List.filter_filter]
  congr 1
  funext y
  exact Bool.and_comm _ _
theorem rdy_mono {U V : List (Nat × Md)} (h : ∀ y ∈ V, y ∈ U) {i : Nat} (hr : rdyU ops U i = true) : rdyU ops V i = true := by
  unfold rdyU at *
  cases ho : ops[i]? with
  | none => rw [ho] at hr; cases hr
  | some o =>
    rw [ho] at hr
    simp only at hr ⊢
    rw [Array.all_eq_true'] at hr ⊢
    intro e he
    have := hr e he
    rw [Bool.or_eq_true] at this ⊢
    rcases this with q | q
    · exact .inl q
    · right
      rw [Bool.not_eq_true'] at q ⊢
      rw [List.any_eq_false] at q ⊢
      exact fun y hy => q y (h y hy)
theorem rdy_some {U : List (Nat × Md)} {i : Nat} (hr : rdyU ops U i = true) : ∃ o, ops[i]? = some o ∧ ∀ e ∈ o.after, Region.binds .any e = true → ∀ y ∈ U, y.1 ≠ e.on := by
  unfold rdyU at hr
  cases ho : ops[i]? with
  | none => rw [ho] at hr; cases hr
  | some o =>
    rw [ho] at hr
    simp only at hr
    rw [Array.all_eq_true'] at hr
    refine ⟨o, rfl, fun e he hb y hy q => ?_⟩
    have := hr e he
    rw [hb, Bool.not_true, Bool.false_or, Bool.not_eq_true', List.any_eq_false] at this
    exact this y hy (by rw [q]; simp)
def allo (P : Program) (ops : Array Oper) (Kend : Act → World → Prop) : Nat → List (Nat × Md) → Act → World → Prop
  | 0, U, a, w => U = [] ∧ Kend a w
  | n + 1, U, a, w => (U = [] → Kend a w) ∧ ∀ x ∈ U, rdyU ops U x.1 = true → ∃ o, ops[x.1]? = some o ∧ rstep P ops x.2 o a w (allo P ops Kend n (del U x.1))
/-- The edges point back. -/
def lowOk (ops : Array Oper) : Bool := (List.range ops.size).all fun i => match ops[i]? with
  | some o => o.after.all fun e => !Region.binds .any e || Nat.blt e.on i
  | none => true
theorem low_at (h : lowOk ops = true) {i : Nat} {o : Oper} (hi : ops[i]? = some o) : ∀ e ∈ o.after, Region.binds .any e = true → e.on < i := by
  intro e he hb
  have hlt : i < ops.size := by
    rcases Nat.lt_or_ge i ops.size with q | q
    · exact q
    · rw [Array.getElem?_eq_none q] at hi; cases hi
  have := List.all_eq_true.1 h i (List.mem_range.2 hlt)
  rw [hi] at this
  have := Array.all_eq_true'.1 this e he
  rw [hb, Bool.not_true, Bool.false_or, Nat.blt_eq] at this
  exact this
theorem rdy_ex (hlow : lowOk ops = true) {U : List (Nat × Md)} (hU : ∀ y ∈ U, y.1 < ops.size) : ∀ k m, (k, m) ∈ U → ∃ x ∈ U, rdyU ops U x.1 = true := by
  intro k
  induction k using Nat.strongRecOn with
  | _ k ih =>
    intro m hm
    by_cases hr : rdyU ops U k = true
    · exact ⟨_, hm, hr⟩
    · have hk := hU _ hm
      have ho : ops[k]? = some ops[k] := Array.getElem?_eq_getElem hk
      unfold rdyU at hr
      rw [ho] at hr
      simp only at hr
      rw [Array.all_eq_true'] at hr
      have : ∃ e ∈ ops[k].after, ¬ (!Region.binds .any e || !(U.any fun y => Nat.beq y.1 e.on)) = true := by
        refine Classical.byContradiction fun hc => hr fun e he => ?_
        exact Classical.byContradiction fun hn => hc ⟨e, he, hn⟩
      obtain ⟨e, he, hn⟩ := this
      rw [Bool.or_eq_true, not_or] at hn
      obtain ⟨h1, h2⟩ := hn
      have hb : Region.binds .any e = true := by simpa using h1
      have h3 : (U.any fun y => Nat.beq y.1 e.on) = true := by simpa using h2
      obtain ⟨y, hy, hyb⟩ := List.any_eq_true.1 h3
      have hye := Nat.eq_of_beq_eq_true hyb
      obtain ⟨y1, y2⟩ := y
      simp only at hye
      exact ih y1 (by rw [hye]; exact low_at hlow ho e he hb) y2 hy
theorem wpAny_of_allo {Q : Exit → Act → World → Prop} (hQ : ∀ a w, Kend a w → Q .normal a w) (hlow : lowOk ops = true) :
    ∀ (n : Nat) (U : List (Nat × Md)) (listed : Array Bool) (a : Act) (w : World), listed.size = ops.size → (∀ i, listed.getD i true = false ↔ ∃ m, (i, m) ∈ U) → (∀ y ∈ U, y.1 < ops.size) → allo P ops Kend n U a w → wpAny P .any ops Q n listed a w := by
  intro n
  induction n with
  | zero =>
    intro U listed a w _ hl _ h
    obtain ⟨rfl, h⟩ := h
    refine ⟨List.eq_nil_iff_forall_not_mem.2 fun i hi => ?_, hQ _ _ h⟩
    obtain ⟨m, hm⟩ := (hl i).1 (mem_ready.1 hi).1
    cases hm
  | succ n ih =>
    intro U listed a w hsz hl hU h
    obtain ⟨h1, h2⟩ := h
    have hrd : ∀ i, listed.getD i true = false → (∀ (o : Oper), ops[i]? = some o → ∀ e ∈ o.after, Region.binds .any e = true → listed.getD e.on false = true) → (∃ o, ops[i]? = some o) → rdyU ops U i = true := by
      rintro i _ hd ⟨o, ho⟩
      unfold rdyU
      rw [ho]
      simp only
      rw [Array.all_eq_true']
      intro e he
      cases hb : Region.binds .any e with
      | false => rfl
      | true =>
        rw [Bool.not_true, Bool.false_or, Bool.not_eq_true', List.any_eq_false]
        intro y hy hyb
        have hye := Nat.eq_of_beq_eq_true hyb
        have h3 := hd o ho e he hb
        have h4 := (hl y.1).2 ⟨y.2, hy⟩
        rw [hye] at h4
        rcases Nat.lt_or_ge e.on listed.size with q | q
        · simp only [Array.getD, q, dite_true] at h3 h4
          rw [h3] at h4; cases h4
        · simp [Array.getD, Nat.not_lt.2 q] at h3
    refine ⟨fun hr => ?_, fun i hi => ?_⟩
    · refine hQ _ _ (h1 (List.eq_nil_iff_forall_not_mem.2 fun x hx => ?_))
      obtain ⟨y, hy, hyr⟩ := rdy_ex hlow hU x.1 x.2 hx
      obtain ⟨o, ho, hd⟩ := rdy_some hyr
      have : y.1 ∈ Region.ready .any ops listed := mem_ready.2 ⟨(hl y.1).2 ⟨y.2, hy⟩, o, ho, fun e he hb => by
        have hne := hd e he hb
        have hlt : e.on < listed.size := by
          have := low_at hlow ho e he hb
          have := hU y hy
          omega
        have h5 : ¬ listed.getD e.on true = false := fun g => by
          obtain ⟨m, hm⟩ := (hl e.on).1 g
          exact hne _ hm rfl
        simp only [Array.getD, hlt, dite_true] at h5 ⊢
        simpa using h5⟩
      rw [hr] at this
      cases this
    · obtain ⟨hun, oi, hoi, hdeps⟩ := mem_ready.1 hi
      obtain ⟨m, hm⟩ := (hl i).1 hun
      have hr := hrd i hun (fun o ho => by rw [hoi] at ho; obtain rfl := Option.some.inj ho; exact hdeps) ⟨oi, hoi⟩
      obtain ⟨o, ho, hst⟩ := h2 (i, m) hm hr
      have hilt : i < listed.size := by rw [hsz]; exact hU _ hm
      refine wpOp_of_rstep ho (rstep_mono (fun a w hh => ?_) hst)
      refine ih (del U i) (listed.setIfInBounds i true) a w (by simpa using hsz) ?_ (fun y hy => hU y (mem_del.1 hy).1) hh
      intro j
      by_cases hji : j = i
      · subst hji
        constructor
        · intro hf; simp [Array.getD, hilt] at hf
        · rintro ⟨m', hm'⟩; exact absurd rfl (mem_del.1 hm').2
      · rw [getD_set_ne true (Ne.symm hji), hl j]
        constructor
        · rintro ⟨m', hm'⟩; exact ⟨m', mem_del.2 ⟨hm', hji⟩⟩
        · rintro ⟨m', hm'⟩; exact ⟨m', (mem_del.1 hm').1⟩
theorem rstep_ex {m : Md} {o : Oper} {a : Act} {w : World} {K : Act → World → Prop} (h : rstep P ops m o a w K) : ∃ a' w', K a' w' := by
  unfold rstep at h
  split at h
  · cases m with
    | pure => obtain ⟨v, _, h⟩ := h; exact ⟨_, _, h⟩
    | read => obtain ⟨v, _, h⟩ := h; exact ⟨_, _, h⟩
    | grow => obtain ⟨v, w', h⟩ := hup_some h; exact ⟨_, _, h.2⟩
    | free => obtain ⟨v, w', h⟩ := hup_some h; exact ⟨_, _, h⟩
  · exact ⟨_, _, h⟩
/-- y waits for i, by operations that are left. -/
inductive Bl (ops : Array Oper) (U : List (Nat × Md)) (i : Nat) : Nat → Prop
  | one {y : Nat} {o : Oper} {e : Edge} : ops[y]? = some o → e ∈ o.after → Region.binds .any e = true → e.on = i → Bl ops U i y
  | far {y : Nat} {o : Oper} {e : Edge} {z : Nat × Md} : ops[y]? = some o → e ∈ o.after → Region.binds .any e = true → e.on = z.1 → z ∈ U → Bl ops U i z.1 → Bl ops U i y
theorem Bl.rdy {i : Nat} {m : Md} {U : List (Nat × Md)} (hm : (i, m) ∈ U) {y : Nat} (h : Bl ops U i y) : rdyU ops U y ≠ true := by
  intro hr
  obtain ⟨o, ho, hd⟩ := rdy_some hr
  cases h with
  | one h1 h2 h3 h4 =>
    rw [ho] at h1
    obtain rfl := Option.some.inj h1
    exact hd _ h2 h3 _ hm h4.symm
  | far h1 h2 h3 h4 h5 _ =>
    rw [ho] at h1
    obtain rfl := Option.some.inj h1
    exact hd _ h2 h3 _ h5 h4.symm
theorem Bl.del {i : Nat} {m : Md} {U : List (Nat × Md)} (hm : (i, m) ∈ U) {x : Nat} (hx : rdyU ops U x = true) {y : Nat} (h : Bl ops U i y) : Bl ops (del U x) i y := by
  induction h with
  | one h1 h2 h3 h4 => exact .one h1 h2 h3 h4
  | far h1 h2 h3 h4 h5 h6 ih => exact .far h1 h2 h3 h4 (mem_del.2 ⟨h5, fun e => h6.rdy hm (by rw [e]; exact hx)⟩) ih
def blb (ops : Array Oper) (U : List (Nat × Md)) (i : Nat) : Nat → Nat → Bool
  | 0, _ => false
  | n + 1, y => match ops[y]? with
    | some o => o.after.any fun e => Region.binds .any e && (Nat.beq e.on i || ((U.any fun z => Nat.beq z.1 e.on) && blb ops U i n e.on))
    | none => false
theorem blb_sound {U : List (Nat × Md)} {i : Nat} : ∀ (n y : Nat), blb ops U i n y = true → Bl ops U i y := by
  intro n
  induction n with
  | zero => intro y h; cases h
  | succ n ih =>
    intro y h
    unfold blb at h
    cases ho : ops[y]? with
    | none => rw [ho] at h; cases h
    | some o =>
      rw [ho] at h
      simp only at h
      rw [Array.any_eq_true'] at h
      obtain ⟨e, he, hq⟩ := h
      rw [Bool.and_eq_true, Bool.or_eq_true, Bool.and_eq_true] at hq
      obtain ⟨hb, q | ⟨q, r⟩⟩ := hq
      · exact .one ho he hb (Nat.eq_of_beq_eq_true q)
      · obtain ⟨z, hz, hzb⟩ := List.any_eq_true.1 q
        have e2 := Nat.eq_of_beq_eq_true hzb
        exact .far ho he hb e2.symm hz (by rw [e2]; exact ih _ r)
/-- May (i, m) be taken first? -/
def zfront (ops : Array Oper) (x : Nat × Md) (U : List (Nat × Md)) : Bool :=
  rdyU ops U x.1 && (U.any fun y => Nat.beq y.1 x.1) && U.all fun y => (Nat.beq y.1 x.1 && decide (y.2 = x.2)) || (!Nat.beq y.1 x.1 && (blb ops U x.1 6 y.1 || swapOk ops x y))
theorem allo_front (hs : noSel ops) {i : Nat} {m : Md} {oi : Oper} (hi : ops[i]? = some oi) :
    ∀ (n : Nat) (U : List (Nat × Md)) (a : Act) (w : World), (i, m) ∈ U → rdyU ops U i = true → (∀ y ∈ U, y.1 = i → y.2 = m) →
      (∀ y ∈ U, y.1 ≠ i → Bl ops U i y.1 ∨ swapOk ops (i, m) y = true) →
      rstep P ops m oi a w (allo P ops Kend n (del U i)) → allo P ops Kend (n + 1) U a w := by
  intro n
  induction n with
  | zero =>
    intro U a w hm hr hu hsw h
    refine ⟨fun e => (by rw [e] at hm; cases hm), fun x hx hxr => ?_⟩
    by_cases hxi : x.1 = i
    · obtain ⟨x1, x2⟩ := x
      simp only at hxi
      subst hxi
      obtain rfl := hu _ hx rfl
      exact ⟨oi, hi, h⟩
    · exfalso
      obtain ⟨_, _, h3, _⟩ := rstep_ex h
      have := mem_del.2 ⟨hx, hxi⟩
      rw [h3] at this
      cases this
  | succ n ih =>
    intro U a w hm hr hu hsw h
    refine ⟨fun e => (by rw [e] at hm; cases hm), fun x hx hxr => ?_⟩
    by_cases hxi : x.1 = i
    · obtain ⟨x1, x2⟩ := x
      simp only at hxi
      subst hxi
      obtain rfl := hu _ hx rfl
      exact ⟨oi, hi, h⟩
    · obtain ⟨ox, hox, hxd⟩ := rdy_some hxr
      have hsx : swapOk ops (i, m) x = true := by
        rcases hsw x hx hxi with q | q
        · exact absurd hxr (q.rdy hm)
        · exact q
      refine ⟨ox, hox, ?_⟩
      have h1 : rstep P ops m oi a w (fun a w => rstep P ops x.2 ox a w (allo P ops Kend n (del (del U i) x.1))) := rstep_mono (fun a w g => by
        obtain ⟨o, ho, g⟩ := g.2 x (mem_del.2 ⟨hx, hxi⟩) (rdy_mono (fun y hy => (mem_del.1 hy).1) hxr)
        rw [hox] at ho
        obtain rfl := Option.some.inj ho
        exact g) h
      obtain ⟨x1, x2⟩ := x
      have h2 := rswap hi hox (fun cs b => hs i oi cs b hi) (fun cs b => hs x1 ox cs b hox) hsx h1
      refine rstep_mono (fun a w g => ?_) h2
      rw [del_comm] at g
      exact ih (del U x1) a w (mem_del.2 ⟨hm, Ne.symm hxi⟩) (rdy_mono (fun y hy => (mem_del.1 hy).1) hr) (fun y hy => hu y (mem_del.1 hy).1) (fun y hy hne => (hsw y (mem_del.1 hy).1 hne).imp (fun q => q.del hm hxr) id) g
end
/-- A region's walk, those of U not yet carried out. -/
structure Wz (P : Program) (ops : Array Oper) (Kend : Act → World → Prop) (n : Nat) (U : List (Nat × Md)) (N : Nat) (ρ : Nat → Value) (w : World) : Prop where
  out : noSel ops → allo P ops Kend n U (act N ρ) w
def zstep (P : Program) (ops : Array Oper) (Kend : Act → World → Prop) (n : Nat) (U' : List (Nat × Md)) (x : Nat × Md) (N : Nat) (ρ : Nat → Value) (w : World) : Prop :=
  noSel ops → ∃ o, ops[x.1]? = some o ∧ rstep P ops x.2 o (act N ρ) w (allo P ops Kend n U')
def zallOk (ops : Array Oper) (n : Nat) (U : List (Nat × Md)) : Bool :=
  Nat.beq ops.size n && decide (U.map (·.1) = List.range n) && lowOk ops && ops.all fun o => match o.op with | .select .. => false | _ => true
section
variable {P : Program} {N : Nat} {ρ : Nat → Value} {w0 w : World} {Q : Exit → Act → World → Prop} {ops : Array Oper} {H : List Blk} {Kend : Act → World → Prop} {i n : Nat} {o : Oper} {U U' : List (Nat × Md)}
theorem c_all {id : Nat} {l : List Oper} (n : Nat) (U : List (Nat × Md)) (hm : P.follows .mixedOrders = true) (hchk : zallOk l.toArray n U = true) (hS : St w0 w H)
    (h : ∀ w', St w0 w' H → Below w.heap.size w w' → Wz P l.toArray (Q .normal) n U N ρ w') : (Code.region id l.toArray true).wp P Q (act N ρ) w := by
  simp only [zallOk, Bool.and_eq_true, decide_eq_true_eq] at hchk
  obtain ⟨⟨⟨h1, h2⟩, h3⟩, h6⟩ := hchk
  have hsz := Nat.eq_of_beq_eq_true h1
  have hs : noSel l.toArray := by
    intro i o cs b hi hsel
    have := Array.all_eq_true'.1 h6 o (Array.mem_of_getElem? hi)
    rw [hsel] at this
    cases this
  have hbd : Below w.heap.size w { w with drawn := w.drawn + 1 } := (Below.refl _ w).drew
  have hUm : ∀ i, (∃ m, (i, m) ∈ U) ↔ i < n := by
    intro i
    rw [← List.mem_range, ← h2, List.mem_map]
    constructor
    · rintro ⟨m, hm⟩; exact ⟨_, hm, rfl⟩
    · rintro ⟨⟨a, m⟩, hm, rfl⟩; exact ⟨m, hm⟩
  refine wp_region_any hm ?_
  rw [hsz]
  refine wpAny_of_allo (fun _ _ h => h) h3 n U _ _ _ (by simp; simpa using hsz.symm) ?_ (fun y hy => by rw [hsz]; exact (hUm y.1).1 ⟨y.2, hy⟩) ((h _ (hS.grow hbd) hbd).out hs)
  intro i
  rw [hUm]
  constructor
  · intro hf
    rcases Nat.lt_or_ge i n with q | q
    · exact q
    · simp [Array.getD, Nat.not_lt.2 q] at hf
  · intro q
    simp [Array.getD, q]
theorem z_end (h : Kend (act N ρ) w) : Wz P ops Kend n [] N ρ w := ⟨fun _ => by
  cases n with
  | zero => exact ⟨rfl, h⟩
  | succ n => exact ⟨fun _ => h, fun x hx => by cases hx⟩⟩
theorem zfront_spec {x : Nat × Md} (h : zfront ops x U = true) : x ∈ U ∧ rdyU ops U x.1 = true ∧ (∀ y ∈ U, y.1 = x.1 → y.2 = x.2) ∧
    ∀ y ∈ U, y.1 ≠ x.1 → Bl ops U x.1 y.1 ∨ swapOk ops x y = true := by
  simp only [zfront, Bool.and_eq_true] at h
  obtain ⟨⟨h1, h2⟩, h3⟩ := h
  have hu : ∀ y ∈ U, y.1 = x.1 → y.2 = x.2 := fun y hy e => by
    have := List.all_eq_true.1 h3 y hy
    rw [e] at this
    simp at this
    exact this
  refine ⟨?_, h1, hu, fun y hy hne => ?_⟩
  · obtain ⟨y, hy, hb⟩ := List.any_eq_true.1 h2
    have e := Nat.eq_of_beq_eq_true hb
    have e2 := hu y hy e
    obtain ⟨y1, y2⟩ := y
    obtain ⟨x1, x2⟩ := x
    simp only at e e2
    rw [← e, ← e2]; exact hy
  · have := List.all_eq_true.1 h3 y hy
    have hb : Nat.beq y.1 x.1 = false := by
      cases hb : Nat.beq y.1 x.1 with
      | false => rfl
      | true => exact absurd (Nat.eq_of_beq_eq_true hb) hne
    rw [hb, Bool.false_and, Bool.false_or, Bool.not_false, Bool.true_and, Bool.or_eq_true] at this
    rcases this with q | q
    · exact .inl (blb_sound _ _ q)
    · exact .inr q
theorem z_pure {d : Option Tmp} {p : Op} {ty : TypeId} {pos : String} {aft : Array Edge} {g : Option (Nat × Bool)} (hf : zfront ops (i, .pure) U = true) (hd : del U i = U') (ho : ops[i]? = some ⟨d, p, ty, pos, aft, g⟩) (hg : gd ops N ρ g = true)
    (h : Pure1 P N ρ ⟨d, p, ty, pos, aft, g⟩ fun v => Wz P ops Kend n U' N (updo ρ d v) w) : Wz P ops Kend (n + 1) U N ρ w := by
  subst hd
  obtain ⟨f1, f2, f3, f4⟩ := zfront_spec hf
  refine ⟨fun hs => allo_front hs ho n U _ _ f1 f2 f3 f4 ?_⟩
  rw [rstep_pure (gd_wanted ops N ρ ⟨d, p, ty, pos, aft, g⟩ hg), act_eval]
  obtain ⟨v, h1, h2⟩ := h
  exact ⟨v, h1, by rw [act_put]; exact h2.out hs⟩
theorem z_read {d : Option Tmp} {p : Op} {ty : TypeId} {pos : String} {aft : Array Edge} {g : Option (Nat × Bool)} (hf : zfront ops (i, .read) U = true) (hd : del U i = U') (ho : ops[i]? = some ⟨d, p, ty, pos, aft, g⟩) (hg : gd ops N ρ g = true)
    (h : Read1 P N ρ w ⟨d, p, ty, pos, aft, g⟩ fun v => Wz P ops Kend n U' N (updo ρ d v) w) : Wz P ops Kend (n + 1) U N ρ w := by
  subst hd
  obtain ⟨f1, f2, f3, f4⟩ := zfront_spec hf
  refine ⟨fun hs => allo_front hs ho n U _ _ f1 f2 f3 f4 ?_⟩
  rw [rstep_read (gd_wanted ops N ρ ⟨d, p, ty, pos, aft, g⟩ hg), act_eval]
  obtain ⟨v, h1, h2⟩ := h
  exact ⟨v, h1, by rw [act_put]; exact h2.out hs⟩
theorem z_grow {d : Option Tmp} {p : Op} {ty : TypeId} {pos : String} {aft : Array Edge} {g : Option (Nat × Bool)} (ho : ops[i]? = some ⟨d, p, ty, pos, aft, g⟩) (hg : gd ops N ρ g = true)
    (h : Hup1 P N ρ w ⟨d, p, ty, pos, aft, g⟩ fun v w' => Below w.heap.size w w' ∧ Wz P ops Kend n U' N (updo ρ d v) w') : zstep P ops Kend n U' (i, .grow) N ρ w := fun hs => by
  refine ⟨_, ho, ?_⟩
  rw [rstep_grow (gd_wanted ops N ρ ⟨d, p, ty, pos, aft, g⟩ hg), act_eval]
  simp only [act_put]
  exact hup_mono (fun v w h => ⟨h.1, h.2.out hs⟩) h.out
theorem z_free {d : Option Tmp} {p : Op} {ty : TypeId} {pos : String} {aft : Array Edge} {g : Option (Nat × Bool)} (ho : ops[i]? = some ⟨d, p, ty, pos, aft, g⟩) (hg : gd ops N ρ g = true)
    (h : Hup1 P N ρ w ⟨d, p, ty, pos, aft, g⟩ fun v w' => Wz P ops Kend n U' N (updo ρ d v) w') : zstep P ops Kend n U' (i, .free) N ρ w := fun hs => by
  refine ⟨_, ho, ?_⟩
  rw [rstep_free (gd_wanted ops N ρ ⟨d, p, ty, pos, aft, g⟩ hg), act_eval]
  simp only [act_put]
  exact hup_mono (fun v w h => Wz.out h hs) h.out
theorem z_one {x : Nat × Md} (hR : (U.filter fun y => rdyU ops U y.1) = [x]) (hd : del U x.1 = U') (h : zstep P ops Kend n U' x N ρ w) : Wz P ops Kend (n + 1) U N ρ w := by
  subst hd
  refine ⟨fun hs => ⟨fun e => (by rw [e] at hR; cases hR), fun y hy hr => ?_⟩⟩
  have : y ∈ [x] := by rw [← hR]; exact List.mem_filter.2 ⟨hy, hr⟩
  obtain rfl := List.mem_singleton.1 this
  exact h hs
theorem z_two {x y : Nat × Md} {U'' : List (Nat × Md)} (hR : (U.filter fun y => rdyU ops U y.1) = [x, y]) (hd : del U x.1 = U') (hd' : del U y.1 = U'') (h : zstep P ops Kend n U' x N ρ w) (h' : zstep P ops Kend n U'' y N ρ w) : Wz P ops Kend (n + 1) U N ρ w := by
  subst hd hd'
  refine ⟨fun hs => ⟨fun e => (by rw [e] at hR; cases hR), fun z hz hr => ?_⟩⟩
  have : z ∈ [x, y] := by rw [← hR]; exact List.mem_filter.2 ⟨hz, hr⟩
  rcases List.mem_cons.1 this with rfl | this
  · exact h hs
  · obtain rfl := List.mem_singleton.1 this
    exact h' hs
end
end Go.Sx
namespace Go.Proofs.YtmghobajmhdbfaaGreatDoor
open Go Go.RowKit Go.Sx
theorem built_Fl (p o s : Option Addr) (a b c d e f : Nat) : Tryz.prog.built 70 [(0, .agg #[.slice p a b, .slice o c d, .slice s e f])] = some #[.slice p a b, .slice o c d, .slice s e f, .slice none 0 0, .slice none 0 0] := by kernel_rfl
theorem pos_of {owed : List RR} (h : negs owed = false) : Pos owed := by
  intro c hc
  unfold negs at h
  rw [List.any_eq_false] at h
  have := h _ (getD_mem owed c zRR hc)
  unfold owF
  simp only [decide_eq_true_eq] at this
  grind
theorem totF_none {X : List It} {owed : List RR} (h : X.length = 0) (c : Nat) : totF X owed c = 0 := by
  have e : ∀ k, preQ X owed k = 0 := fun k => by
    unfold preQ
    split
    · rfl
    · unfold capQ
      obtain ⟨i, _, e⟩ := mins_at (capF X owed fun i => decide (i < k)) (2 ^ X.length)
      rw [e, capF_eq, show payF X i = 0 by unfold payF; rw [h]; rfl, sumIf_f0, Rat.add_zero]
      intro c _ hs
      rw [Bool.and_eq_true] at hs
      obtain ⟨j, hj, _⟩ := (outs_iff _ _ _).1 hs.2
      omega
  unfold totF
  rw [e, e]; grind
theorem hup_read {P : Program} {N : Nat} {ρ : Nat → Value} {w : World} {o : Oper} {K : Value → World → Prop} (h : Read1 P N ρ w o fun v => Below w.heap.size w w ∧ K v w) : Hup1 P N ρ w o fun v w' => Below w.heap.size w w' ∧ K v w' := by
  obtain ⟨v, hr, hk⟩ := h
  exact hup_of_run (hr w (Below.refl _ _)) hk
theorem perm3 {α : Type} (A B C : List α) : (A ++ B ++ C).Perm (A ++ C ++ B) := by
  rw [List.append_assoc, List.append_assoc]
  exact List.Perm.append_left _ List.perm_append_comm
theorem nat_less {D a : Nat} {want x : Rat} (hD : 0 < D) (ha : want * (D : Rat) = (a : Rat)) (hM : Mu D want) (hx : 0 < x) (hMx : Mu D x) (hle : x ≤ want) : ∃ a' : Nat, (want - x) * (D : Rat) = (a' : Rat) ∧ a' < a := by
  obtain ⟨a', h1, _, _⟩ := (hM.sub hMx).int hD (by grind) (le_natAbs _)
  refine ⟨a', h1, ?_⟩
  have h2 : (want - x) * (D : Rat) < want * (D : Rat) := Rat.mul_lt_mul_of_pos_right (by grind) (Rat.natCast_pos.2 hD)
  rw [h1, ha] at h2
  exact Rat.natCast_lt_natCast.1 h2
theorem perm6 {α : Type} (x y z : α) (A : List α) : ([x] ++ A ++ [y] ++ [z]).Perm ([x, z] ++ (y :: (A ++ []))) := by
  rw [List.append_nil]
  exact List.Perm.cons _ ((List.perm_append_singleton _ _).trans (List.Perm.cons _ (List.perm_append_singleton _ _)))
theorem perm4 {α : Type} (x y : α) (f : List α) (A B C : List α) : (x :: y :: (f ++ A ++ B ++ C)).Perm (x :: (([y] ++ f ++ A ++ C) ++ B)) := by
  refine List.Perm.cons _ (List.Perm.cons _ ?_)
  show (f ++ A ++ B ++ C).Perm ((f ++ A ++ C) ++ B)
  exact perm3 _ _ _
theorem perm5 {α : Type} (y : α) (f : List α) (A B C : List α) : (([y] ++ f ++ A ++ C) ++ B).Perm (f ++ (y :: A) ++ B ++ C) := by
  refine (perm3 _ _ _).trans (List.Perm.append_right _ (List.Perm.append_right _ ?_))
  exact List.perm_middle.symm
set_option maxHeartbeats 8000000 in
theorem Distribute_ok (vi_ vo : Value) (X : List It) (cvs : List Value) (owed : List RR) (K : Nat) (w : World) (hX : Its w vi_ X cvs) (ho : Sl encR 3 w vo owed) (hXB : ItB K X) (hoB : RB K owed) (hK : 600 * K + 600 ≤ MX)
    (hT : At w ⟨2, 0, none⟩ (Kr .u8 tzTab)) :
    Ret Tryz.prog 7 #[vi_, vo] w fun v w' => (∃ vm, v = .tuple #[vm, .int .i64 (checkE X owed)] ∧ (checkE X owed = 0 → ∃ P lf vs, Mts encR 3 w' vm (tabM X.length owed.length fun i k => ofQ (P i k)) vs ∧
      Fl X.length owed.length (secF X) (prF X) (totF X owed) P lf ∧ ∀ i, i < X.length → ∀ k, k < owed.length → L (P i k) ≤ 144 * K + 124)) ∧ Below w.heap.size w w' := by
  have hM : MX = 1099511627776 := rfl
  have hom := ho.maxLen
  have hS := St.init w
  refine enter Tryz.func7 rfl Tryz.ntmps7 rfl ?_
  repeat (with_reducible first | refine c_seq ?_ | refine c_block ?_ | refine c_skip ?_ | refine x_then ?_ | refine x_block ?_)
  refine c_reg ?_
  refine l_pure rfl (s_asg  rfl ?_)
  refine l_pure rfl (s_asg  rfl ?_)
  refine l_nil ?_
  repeat (with_reducible first | refine c_seq ?_ | refine c_block ?_ | refine c_skip ?_ | refine x_then ?_ | refine x_block ?_)
  refine c_reg ?_
  refine l_pure rfl (s_move  rfl ?_)
  refine l_pure rfl (s_move  rfl ?_)
  refine l_heavy rfl (s_call Tryz.call25 rfl (Check_ok vi_ vo X cvs owed _ (hX.below hS.below) (ho.below hS.below) (ItB_mono hXB (by omega)) (RB_mono hoB (by omega))) ?_)
  rintro _ wc1 ⟨rfl, hBc1⟩
  replace hS := hS.grow hBc1
  refine l_pure rfl (s_asg  rfl ?_)
  refine l_nil ?_
  repeat (with_reducible first | refine c_seq ?_ | refine c_block ?_ | refine c_skip ?_ | refine x_then ?_ | refine x_block ?_)
  obtain ⟨e, he⟩ : ∃ e, e = checkE X owed := ⟨_, rfl⟩
  rw [← he]
  repeat (with_reducible first | refine c_seq ?_ | refine c_block ?_ | refine c_skip ?_ | refine x_then ?_ | refine x_block ?_)
  refine c_reg ?_
  refine l_pure rfl (s_move  rfl ?_)
  refine l_pure rfl (s_neq  rfl rfl ?_)
  refine l_nil ?_
  repeat (with_reducible first | refine c_seq ?_ | refine c_block ?_ | refine c_skip ?_ | refine x_then ?_ | refine x_block ?_)
  by_cases h0 : e = 0
  · refine c_no rfl (decide_eq_false (by omega)) ?_
    repeat (with_reducible first | refine c_seq ?_ | refine c_block ?_ | refine c_skip ?_ | refine x_then ?_ | refine x_block ?_)
    have hck := he.symm.trans h0
    obtain ⟨hX8, ho24, hng, hit, hcl⟩ := checkE_zero hck
    have hpos := pos_of hng
    obtain ⟨D, hD0, hDs, hDp, hDo⟩ := den_all hXB hoB hX8 ho24
    have hDt := Mu.tot hDp hDo
    rw [h0]
    repeat (with_reducible first | refine c_seq ?_ | refine c_block ?_ | refine c_skip ?_ | refine x_then ?_ | refine x_block ?_)
    refine c_reg ?_
    refine l_pure rfl (s_move  rfl ?_)
    refine l_pure rfl (s_move  rfl ?_)
    refine l_heavy rfl (s_call Tryz.call26 rfl (build_ok vi_ vo X cvs owed K _ (hX.below hS.below) (ho.below hS.below) hXB hoB (by omega) hX8 ho24 hcl) ?_)
    rintro r w3 ⟨sP, sO, LP, LO, bI, R, rfl, hP, hO, hR, hS3⟩
    have hN := netOf (H := []) hP hO hR ho24 hS3
    have hB3 := hS.below.trans (hS3.below.mono hS.below.size)
    have ho3 := ho.below hB3
    have hT3 := hT.below hB3
    obtain ⟨aP, cP, hsP⟩ := hP.len
    obtain ⟨aO, cO, hsO⟩ := hO.len
    have hpl := procs_len X
    have hol := owed_len owed
    clear hP hO hS3 hS
    obtain ⟨sM, hsM⟩ : ∃ sM, sM = Value.slice (some ⟨bI, 0, none⟩) owed.length owed.length := ⟨_, rfl⟩
    have hS := St.init w3
    have hbl : Tryz.prog.built 70 [(0, .agg #[sP, sO, sM])] = some #[sP, sO, sM, .slice none 0 0, .slice none 0 0] := by rw [hsP, hsO, hsM]; exact built_Fl _ _ _ _ _ _ _ _ _
    rw [← hsM] at hN
    rw [← hsM]
    refine l_pure rfl (s_build  rfl (hbl) ?_)
    refine l_heavy rfl (s_box (new := [sP, sO, sM, .slice none 0 0, .slice none 0 0])  rfl rfl hS ?_)
    intro bf wz2 hS hBz2
    refine l_pure rfl (s_asg  rfl ?_)
    refine l_nil ?_
    repeat (with_reducible first | refine c_seq ?_ | refine c_block ?_ | refine c_skip ?_ | refine x_then ?_ | refine x_block ?_)
    refine c_reg ?_
    refine l_pure rfl (s_move  rfl ?_)
    refine l_pure rfl (s_nilp  rfl ?_)
    refine l_pure rfl (s_fld  rfl fo_70_0 ?_)
    refine l_pure rfl (s_fld  rfl fo_67_0 ?_)
    refine l_read rfl (s_ldo (k := 0)  rfl vi_24 hS rfl rfl rfl (.inr rfl) ?_)
    refine l_pure rfl (s_lenr  rfl (hN.P.below hS.below) ⟨_, Tryz.underlying24⟩ ?_)
    refine l_pure rfl (s_move  rfl ?_)
    refine l_nil ?_
    repeat (with_reducible first | refine c_seq ?_ | refine c_skip ?_ | refine x_then ?_ | refine x_block ?_)
    rw [hpl]
    have hzr : List.replicate owed.length zRR = tab owed.length fun _ => ofQ 0 := by rw [tab_rep]; exact tab_congr fun _ _ => by rw [ofQ_zero]; rfl
    refine c_cut1 (fun ρ w' => ρ 7 = .pointer (some ⟨bf, 0, none⟩) ∧ ∃ vY vL LY LL RS, MatG RS X.length owed.length (fun _ _ => ofQ 0) ∧ Gl enV 24 1 vY (RS.map Rw.v) LY ∧ Gl encR 36 3 vL (tab X.length fun j => ofQ (prF X j)) LL ∧
      St w3 w' ([(bf, 70, [sP, sO, sM, vY, vL])] ++ RS.map (Rw.blk encR 36) ++ LY ++ LL)) ?_ ?_
    · repeat (with_reducible first | refine c_seq ?_ | refine c_block ?_ | refine c_skip ?_ | refine x_then ?_ | refine x_block ?_)
      refine c_loop (σ := Nat) (fun i ρ w' => i ≤ X.length ∧ ρ 1 = vo ∧ ρ 7 = .pointer (some ⟨bf, 0, none⟩) ∧ ρ 28 = sP ∧ ρ 29 = .int .i64 X.length ∧ ρ 30 = .int .i64 i ∧ ∃ vY vL LY LL RS, MatG RS i owed.length (fun _ _ => ofQ 0) ∧ Gl enV 24 1 vY (RS.map Rw.v) LY ∧ Gl encR 36 3 vL (tab i fun j => ofQ (prF X j)) LL ∧
        St w3 w' ([(bf, 70, [sP, sO, sM, vY, vL])] ++ RS.map (Rw.blk encR 36) ++ LY ++ LL)) (fun i => X.length - i) 0
        ⟨Nat.zero_le _, rfl, rfl, rfl, rfl, rfl, _, _, [], [], [], ⟨rfl, fun i hi => absurd hi (Nat.not_lt_zero _), fun i hi => absurd hi (Nat.not_lt_zero _)⟩, Gl.nil _ _ _, Gl.nil _ _ _, hS⟩ ?_
      clear hS
      rintro i ρ w4 ⟨hi, h1, h7, h28, h29, h30, vY, vL, LY, LL, RS, hRS, hGY, hGL, hS⟩
      have htl := tab_len i fun j => ofQ (prF X j)
      have hvl : (RS.map Rw.v).length = i := by rw [List.length_map, hRS.len]
      repeat (with_reducible first | refine c_seq ?_ | refine c_block ?_ | refine c_skip ?_ | refine x_then ?_ | refine x_block ?_)
      refine c_reg ?_
      refine l_pure rfl (s_lss  h30 h29 ?_)
      refine l_nil ?_
      repeat (with_reducible first | refine c_seq ?_ | refine c_block ?_ | refine c_skip ?_ | refine x_then ?_ | refine x_block ?_)
      by_cases hlt : i < X.length
      · refine c_yes rfl (decide_eq_true (by omega)) ?_
        repeat (with_reducible first | refine c_seq ?_ | refine c_block ?_ | refine c_skip ?_ | refine x_then ?_ | refine x_block ?_)
        refine c_reg ?_
        refine l_pure rfl (s_ixr (i := i)  h28 h30 (hN.P.below hS.below) (by omega) (by first | omega | (simp; done) | (simp; omega)) si_24 ?_)
        refine l_read rfl (s_lde (i := i) zRR  rfl vi_36 (hN.P.below hS.below) (by first | omega | (simp; done) | (simp; omega)) rfl rfl (.inl rfl) ?_)
        refine l_heavy rfl (s_alloc  vi_36 hS ?_)
        intro b9 wz3 hS hBz3
        refine l_heavy rfl (s_sta (k := 0)  rfl rfl vi_36 hS rfl rfl rfl (Nat.le_of_ble_eq_true rfl) rfl ?_)
        intro wz4 hS
        refine l_nil ?_
        repeat (with_reducible first | refine c_seq ?_ | refine c_block ?_ | refine c_skip ?_ | refine x_then ?_ | refine x_block ?_)
        rw [procs_get X hlt] at hS
        replace hS : St w3 _ ([(b9, 36, encR (ofQ (prF X i))), (bf, 70, [sP, sO, sM, vY, vL])] ++ RS.map (Rw.blk encR 36) ++ LY ++ LL) := hS
        repeat (with_reducible first | refine c_seq ?_ | refine c_block ?_ | refine c_skip ?_ | refine x_then ?_ | refine x_block ?_)
        refine c_draw [(0, .pure), (1, .pure), (2, .pure), (3, .pure), (4, .read), (5, .read), (6, .grow), (7, .free), (8, .pure), (9, .pure), (10, .free)] (by kernel_rfl) (by kernel_rfl) hS ?_
        intro wz5 hS hBz5
        refine w_pure rfl rfl (s_move  h7 ?_)
        refine w_pure rfl rfl (s_move  h7 ?_)
        refine w_pure rfl rfl (s_nilp  rfl ?_)
        refine w_pure rfl rfl (s_fld  rfl fo_70_2 ?_)
        refine w_read rfl rfl (s_ldo (k := 1)  rfl vi_24 hS rfl rfl rfl (.inr rfl) ?_)
        refine w_read rfl rfl (s_ldo (k := 0)  rfl vi_36 hS rfl rfl rfl (.inl rfl) ?_)
        refine w_grow rfl rfl (s_bsl (vs := [aggR (ofQ (prF X i))])  rfl si_24 rfl (by decide) (by decide) (by decide) (by simp [Value.cells, aggR]) rfl hS ?_)
        intro b6 wz7 hS hBz7
        refine ⟨hBz7, ?_⟩
        refine w_free rfl rfl (s_appl [ofQ (prF X i)]  rfl rfl si_24 (by decide) hGL hS rfl rfl encR_len (encR_one [ofQ (prF X i)]) (by first | omega | (simp only [List.length_cons, List.length_nil]; omega)) (by first | omega | (simp only [List.length_cons, List.length_nil]; omega)) ?_)
        intro va8 La8 wa8 hGL hS hga8
        refine w_pure rfl rfl (s_nilp  rfl ?_)
        refine w_pure rfl rfl (s_fld  rfl fo_70_2 ?_)
        refine w_free rfl rfl (s_stc (k := 1)  rfl rfl vi_24 hS rfl (Nat.le_of_ble_eq_true rfl) (by obtain ⟨a, c, h⟩ := hGL.len; rw [h]; rfl) ?_)
        intro wz9 hS
        refine w_end ?_
        repeat (with_reducible first | refine c_seq ?_ | refine c_block ?_ | refine c_skip ?_ | refine x_then ?_ | refine x_block ?_)
        rw [← tab_succ] at hGL
        replace hS : St w3 _ ([(bf, 70, [sP, sO, sM, vY, _])] ++ RS.map (Rw.blk encR 36) ++ LY ++ _) := hS.drop (List.sublist_cons_self _ _)
        repeat (with_reducible first | refine c_seq ?_ | refine c_block ?_ | refine c_skip ?_ | refine x_then ?_ | refine x_block ?_)
        refine c_draw [(0, .pure), (1, .pure), (2, .pure), (3, .pure), (4, .read), (5, .pure), (6, .pure), (7, .grow), (8, .grow), (9, .free), (10, .pure), (11, .pure), (12, .free)] (by kernel_rfl) (by kernel_rfl) hS ?_
        intro wz10 hS hBz10
        refine w_pure rfl rfl (s_move  h7 ?_)
        refine w_pure rfl rfl (s_move  h7 ?_)
        refine w_pure rfl rfl (s_nilp  rfl ?_)
        refine w_pure rfl rfl (s_fld  rfl fo_70_1 ?_)
        refine w_read rfl rfl (s_ldo (k := 0)  rfl vi_28 hS rfl rfl rfl (.inr rfl) ?_)
        refine w_pure rfl rfl (s_move  h1 ?_)
        refine w_pure rfl rfl (s_lenr  rfl (ho3.below hS.below) ⟨_, Tryz.underlying24⟩ ?_)
        refine w_grow rfl rfl (s_makeE (enc := encR) (n := owed.length) zRR  rfl rfl si_24 rfl (by omega) (by omega) (by omega) (by omega) hS ?_)
        intro b51 wz11 hS hBz11
        refine ⟨hBz11, ?_⟩
        refine w_grow rfl rfl (s_bsl (vs := [.slice (some ⟨b51, 0, none⟩) owed.length owed.length])  rfl si_28 rfl (by decide) (by decide) (by decide) (by simp [Value.cells]) rfl hS ?_)
        intro b52 wz12 hS hBz12
        refine ⟨hBz12, ?_⟩
        replace hS := hS.perm (perm4 _ _ _ _ _ _)
        refine w_free rfl rfl (s_appl [.slice (some ⟨b51, 0, none⟩) owed.length owed.length]  rfl rfl si_28 (by decide) hGY hS rfl rfl (fun _ => rfl) (fun u hu => by rw [List.mem_singleton.1 (show u ∈ [Value.slice (some ⟨b51, 0, none⟩) owed.length owed.length] from hu)]; rfl) (by first | omega | (simp only [List.length_cons, List.length_nil]; omega)) (by first | omega | (simp only [List.length_cons, List.length_nil]; omega)) ?_)
        intro va13 La13 wa13 hGY hS hga13
        refine w_pure rfl rfl (s_nilp  rfl ?_)
        refine w_pure rfl rfl (s_fld  rfl fo_70_1 ?_)
        refine w_free rfl rfl (s_stc (k := 1)  rfl rfl vi_28 hS rfl (Nat.le_of_ble_eq_true rfl) (by obtain ⟨a, c, h⟩ := hGY.len; rw [h]; rfl) ?_)
        intro wz14 hS
        refine w_end ?_
        repeat (with_reducible first | refine c_seq ?_ | refine c_block ?_ | refine c_skip ?_ | refine x_then ?_ | refine x_block ?_)
        obtain ⟨nr, hnr⟩ : ∃ nr : Rw RR, nr = ⟨b51, owed.length, List.replicate owed.length zRR, []⟩ := ⟨_, rfl⟩
        have hnv : Value.slice (some ⟨b51, 0, none⟩) owed.length owed.length = nr.v := by rw [hnr]; unfold Rw.v; rw [List.length_replicate]
        have hnb : (b51, 36, (List.replicate owed.length zRR).flatMap encR) = nr.blk encR 36 := by rw [hnr]; unfold Rw.blk; rw [List.append_nil]
        rw [hnv, show RS.map Rw.v ++ [nr.v] = (RS ++ [nr]).map Rw.v by rw [List.map_append]; rfl] at hGY
        replace hS : St w3 _ (([(b51, 36, (List.replicate owed.length zRR).flatMap encR)] ++ [(bf, 70, [sP, sO, sM, _, _])] ++ RS.map (Rw.blk encR 36) ++ _) ++ _) := hS
        rw [hnb] at hS
        replace hS := hS.perm (perm5 _ _ _ _ _)
        have hpm : ∀ A B C : List Blk, (A ++ (nr.blk encR 36 :: RS.map (Rw.blk encR 36)) ++ B ++ C).Perm (A ++ (RS ++ [nr]).map (Rw.blk encR 36) ++ B ++ C) := fun A B C => by
          rw [List.map_append]
          exact List.Perm.append_right _ (List.Perm.append_right _ (List.Perm.append_left _ (List.perm_append_singleton _ _).symm))
        replace hS := hS.perm (hpm _ _ _)
        have hR2 := MatG_snoc hRS (r := nr) (by rw [hnr]; exact hzr) (by rw [hnr]; exact ⟨Nat.le_refl _, by show owed.length ≤ _; omega⟩)
        repeat (with_reducible first | refine c_seq ?_ | refine c_block ?_ | refine c_skip ?_ | refine x_then ?_ | refine x_block ?_)
        refine c_reg ?_
        refine l_pure rfl (s_add  h30 rfl (IntWalk.i64_in _ (by omega)) ?_)
        refine l_pure rfl (s_move  rfl ?_)
        refine l_nil ?_
        repeat (with_reducible first | refine c_seq ?_ | refine c_block ?_ | refine c_skip ?_ | refine x_then ?_ | refine x_block ?_)
        exact ⟨i + 1, _, rfl, ⟨hlt, by assumption, by assumption, by assumption, by assumption, vi rfl (by omega), _, _, _, _, RS ++ [nr], hR2, hGY, hGL, hS⟩, by omega⟩
      · refine c_no rfl (decide_eq_false (by omega)) ?_
        repeat (with_reducible first | refine c_seq ?_ | refine c_block ?_ | refine c_skip ?_ | refine x_then ?_ | refine x_block ?_)
        refine c_exit ?_
        repeat (with_reducible first | refine x_then_exit ?_ | refine x_block_exit ?_ | refine x_block_pass rfl ?_)
        repeat (with_reducible first | refine c_seq ?_ | refine c_block ?_ | refine c_skip ?_ | refine x_then ?_ | refine x_block ?_)
        obtain rfl : i = X.length := by omega
        exact ⟨_, rfl, h7, vY, vL, LY, LL, RS, hRS, hGY, hGL, hS⟩
    clear hS
    rintro ρ w4 ⟨h7, vY, vL, LY, LL, RS, hRS, hGY, hGL, hS⟩
    repeat (with_reducible first | refine c_seq ?_ | refine c_block ?_ | refine c_skip ?_ | refine x_then ?_ | refine x_block ?_)
    have hOl : (owedR owed).length = owed.length := hol
    by_cases hz : X.length = 0
    · have htz := totF_none hz (owed := owed)
      repeat (with_reducible first | refine c_seq ?_ | refine c_block ?_ | refine c_skip ?_ | refine x_then ?_ | refine x_block ?_)
      refine c_reg ?_
      refine l_pure rfl (s_move  h7 ?_)
      refine l_pure rfl (s_nilp  rfl ?_)
      refine l_pure rfl (s_fld  rfl fo_70_0 ?_)
      refine l_read rfl (s_ldo (k := 0)  rfl vi_67 hS rfl rfl rfl (.inl rfl) ?_)
      refine l_heavy rfl (s_call Tryz.call27 rfl (totals_ok sP sO sM X owed R K _ (hN.P.below hS.below) (hN.O.below hS.below) (hN.M.below hS.below) hN.R hXB hoB (by omega) hX8 ho24 (hT3.below hS.below)) ?_)
      rintro r w5 ⟨bt, rfl, hS5⟩
      replace hS := hS.join hS5
      refine l_pure rfl (s_leno  rfl ⟨_, Tryz.underlying24⟩ ?_)
      refine l_pure rfl (s_move  rfl ?_)
      refine l_nil ?_
      repeat (with_reducible first | refine c_seq ?_ | refine c_skip ?_ | refine x_then ?_ | refine x_block ?_)
      refine c_cut1 (fun ρ w' => ρ 7 = .pointer (some ⟨bf, 0, none⟩) ∧ St w3 w' ([(bt, 36, (tab owed.length fun c => ofQ (totF X owed c)).flatMap encR), (bf, 70, [sP, sO, sM, vY, vL])] ++ RS.map (Rw.blk encR 36) ++ LY ++ LL)) ?_ ?_
      · repeat (with_reducible first | refine c_seq ?_ | refine c_block ?_ | refine c_skip ?_ | refine x_then ?_ | refine x_block ?_)
        refine c_loop (σ := Nat) (fun c ρ w' => c ≤ owed.length ∧ ρ 7 = .pointer (some ⟨bf, 0, none⟩) ∧ ρ 61 = .slice (some ⟨bt, 0, none⟩) owed.length owed.length ∧ ρ 62 = .int .i64 owed.length ∧ ρ 63 = .int .i64 c ∧
            St w3 w' ([(bt, 36, (tab owed.length fun c => ofQ (totF X owed c)).flatMap encR), (bf, 70, [sP, sO, sM, vY, vL])] ++ RS.map (Rw.blk encR 36) ++ LY ++ LL)) (fun c => owed.length - c) 0
          ⟨Nat.zero_le _, by assumption, rfl, rfl, rfl, hS⟩ ?_
        clear hS h7
        rintro c ρ w6 ⟨hc, h7, h61, h62, h63, hS⟩
        have htl := tab_len owed.length fun c => ofQ (totF X owed c)
        repeat (with_reducible first | refine c_seq ?_ | refine c_block ?_ | refine c_skip ?_ | refine x_then ?_ | refine x_block ?_)
        refine c_reg ?_
        refine l_pure rfl (s_lss  h63 h62 ?_)
        refine l_nil ?_
        repeat (with_reducible first | refine c_seq ?_ | refine c_block ?_ | refine c_skip ?_ | refine x_then ?_ | refine x_block ?_)
        by_cases hlt : c < owed.length
        · refine c_yes rfl (decide_eq_true (by omega)) ?_
          repeat (with_reducible first | refine c_seq ?_ | refine c_block ?_ | refine c_skip ?_ | refine x_then ?_ | refine x_block ?_)
          have hgt : (tab owed.length fun c => ofQ (totF X owed c)).getD c zRR = ofQ 0 := by rw [tab_get _ _ hlt, htz]
          repeat (with_reducible first | refine c_seq ?_ | refine c_block ?_ | refine c_skip ?_ | refine x_then ?_ | refine x_block ?_)
          refine c_reg ?_
          refine l_pure rfl (s_move  h63 ?_)
          refine l_pure rfl (s_ixo (i := c)  h61 h63 (by omega) (by first | omega | (simp; done) | (simp; omega)) si_24 ?_)
          refine l_read rfl (s_ldE (k := 0) (i := c) (enc := encR) zRR (fun _ => rfl)  rfl vi_36 hS rfl (by first | omega | simp) (by first | omega | (simp; done) | (simp; omega)) rfl (.inl rfl) ?_)
          refine l_heavy rfl (s_alloc  vi_36 hS ?_)
          intro b11 wz15 hS hBz15
          refine l_pure rfl (s_asg  rfl ?_)
          refine l_heavy rfl (s_sta (k := 0)  rfl rfl vi_36 hS rfl rfl rfl (Nat.le_of_ble_eq_true rfl) rfl ?_)
          intro wz16 hS
          refine l_nil ?_
          repeat (with_reducible first | refine c_seq ?_ | refine c_skip ?_ | refine x_then ?_ | refine x_block ?_)
          rw [hgt] at hS
          have hs0 := fun w => Sign_ok (ofQ 0) w (by rw [Lr_ofQ, L_zero]; omega)
          refine c_cut1 (fun ρ w' => ρ 7 = .pointer (some ⟨bf, 0, none⟩) ∧ ρ 61 = .slice (some ⟨bt, 0, none⟩) owed.length owed.length ∧ ρ 62 = .int .i64 owed.length ∧ ρ 63 = .int .i64 c ∧
            St w3 w' ([(bt, 36, (tab owed.length fun c => ofQ (totF X owed c)).flatMap encR), (bf, 70, [sP, sO, sM, vY, vL])] ++ RS.map (Rw.blk encR 36) ++ LY ++ LL)) ?_ ?_
          · repeat (with_reducible first | refine c_seq ?_ | refine c_block ?_ | refine c_skip ?_ | refine x_then ?_ | refine x_block ?_)
            refine c_loop (σ := Nat) (fun a ρ w' => a = 0 ∧ ρ 7 = .pointer (some ⟨bf, 0, none⟩) ∧ ρ 61 = .slice (some ⟨bt, 0, none⟩) owed.length owed.length ∧ ρ 62 = .int .i64 owed.length ∧ ρ 63 = .int .i64 c ∧ ρ 11 = .pointer (some ⟨b11, 0, none⟩) ∧
              St w3 w' ((b11, 36, encR (ofQ 0)) :: ([(bt, 36, (tab owed.length fun c => ofQ (totF X owed c)).flatMap encR), (bf, 70, [sP, sO, sM, vY, vL])] ++ RS.map (Rw.blk encR 36) ++ LY ++ LL))) (fun _ => 0) 0
              ⟨rfl, by assumption, by assumption, by assumption, by assumption, rfl, hS⟩ ?_
            clear hS h7 h61 h62 h63
            rintro a ρ w7 ⟨_, h7, h61, h62, h63, h11, hS⟩
            repeat (with_reducible first | refine c_seq ?_ | refine c_block ?_ | refine c_skip ?_ | refine x_then ?_ | refine x_block ?_)
            refine c_reg ?_
            refine l_read rfl (s_ldo (k := 0)  h11 vi_36 hS rfl rfl rfl (.inl rfl) ?_)
            refine l_heavy rfl (s_call Tryz.call12 rfl (hs0 _) ?_)
            rintro _ wc17 ⟨rfl, hBc17⟩
            replace hS := hS.grow hBc17
            refine l_pure rfl (s_gtr  rfl rfl ?_)
            refine l_nil ?_
            repeat (with_reducible first | refine c_seq ?_ | refine c_block ?_ | refine c_skip ?_ | refine x_then ?_ | refine x_block ?_)
            rw [toQ_ofQ]
            refine c_no rfl (decide_eq_false (by rw [sgnQ_pos]; exact Rat.lt_irrefl)) ?_
            repeat (with_reducible first | refine c_seq ?_ | refine c_block ?_ | refine c_skip ?_ | refine x_then ?_ | refine x_block ?_)
            refine c_exit ?_
            repeat (with_reducible first | refine x_then_exit ?_ | refine x_block_exit ?_ | refine x_block_pass rfl ?_)
            repeat (with_reducible first | refine c_seq ?_ | refine c_block ?_ | refine c_skip ?_ | refine x_then ?_ | refine x_block ?_)
            exact ⟨_, rfl, h7, h61, h62, h63, hS.drop (List.sublist_cons_self _ _)⟩
          clear hS h7 h61 h62 h63
          rintro ρ w7 ⟨h7, h61, h62, h63, hS⟩
          repeat (with_reducible first | refine c_seq ?_ | refine c_block ?_ | refine c_skip ?_ | refine x_then ?_ | refine x_block ?_)
          refine c_reg ?_
          refine l_pure rfl (s_add  h63 rfl (IntWalk.i64_in _ (by omega)) ?_)
          refine l_pure rfl (s_move  rfl ?_)
          refine l_nil ?_
          repeat (with_reducible first | refine c_seq ?_ | refine c_block ?_ | refine c_skip ?_ | refine x_then ?_ | refine x_block ?_)
          exact ⟨c + 1, _, rfl, ⟨hlt, h7, h61, h62, vi rfl (by omega), hS⟩, by omega⟩
        · refine c_no rfl (decide_eq_false (by omega)) ?_
          repeat (with_reducible first | refine c_seq ?_ | refine c_block ?_ | refine c_skip ?_ | refine x_then ?_ | refine x_block ?_)
          refine c_exit ?_
          repeat (with_reducible first | refine x_then_exit ?_ | refine x_block_exit ?_ | refine x_block_pass rfl ?_)
          repeat (with_reducible first | refine c_seq ?_ | refine c_block ?_ | refine c_skip ?_ | refine x_then ?_ | refine x_block ?_)
          exact ⟨_, rfl, h7, hS⟩
      clear hS h7
      rintro ρ w6 ⟨h7, hS⟩
      repeat (with_reducible first | refine c_seq ?_ | refine c_block ?_ | refine c_skip ?_ | refine x_then ?_ | refine x_block ?_)
      refine c_reg ?_
      refine l_pure rfl (s_move  h7 ?_)
      refine l_pure rfl (s_nilp  rfl ?_)
      refine l_pure rfl (s_fld  rfl fo_70_1 ?_)
      refine l_read rfl (s_ldo (k := 1)  rfl vi_28 hS rfl rfl rfl (.inr rfl) ?_)
      refine l_pure rfl (s_asg  rfl ?_)
      refine l_pure rfl (s_asg  rfl ?_)
      refine l_nil ?_
      repeat (with_reducible first | refine c_seq ?_ | refine c_block ?_ | refine c_skip ?_ | refine x_then ?_ | refine x_block ?_)
      refine c_ret ?_
      repeat (with_reducible first | refine x_then_ret ?_ | refine x_block_ret ?_)
      refine r_two rfl rfl rfl ?_
      have hvs : RS = [] := List.eq_nil_of_length_eq_zero (by rw [hRS.len]; exact hz)
      refine ⟨⟨vY, rfl, fun _ => ⟨fun _ _ => 0, prF X, [], ⟨by rw [tabM_len, hz]; rfl, ?_, fun i hi => by rw [tabM_len, hz] at hi; omega⟩, (Dst.start hDp).fl.got fun k hk => ?_, fun i hi => by omega⟩⟩, hB3.trans (hS.below.mono hB3.size)⟩
      · have := hGY.sl (hS.perm (perm3 _ _ _)) (fun _ => rfl)
        rwa [hvs] at this
      · unfold gotF
        rw [htz, htz, if_neg (Nat.not_lt_zero _)]
        split <;> grind
    obtain ⟨_, ⟨_, h2, _⟩ | ⟨bo, capP, so, rfl, rfl, hc1, hc2, _⟩⟩ := hGY
    · rw [List.length_map, hRS.len] at h2; omega
    obtain ⟨_, ⟨_, h2, _⟩ | ⟨bl, capL, sp, rfl, rfl, hc3, hc4, _⟩⟩ := hGL
    · rw [tab_len] at h2; omega
    have hRn := hRS.len
    rw [enV_flat] at hS
    have hn1 : (RS.map Rw.v).length = X.length := by rw [List.length_map, hRn]
    rw [hn1] at hc1 hS
    rw [tab_len] at hc3 hS
    unfold Go.maxLen at hc2 hc4
    repeat (with_reducible first | refine c_seq ?_ | refine c_block ?_ | refine c_skip ?_ | refine x_then ?_ | refine x_block ?_)
    refine c_reg ?_
    refine l_pure rfl (s_move  h7 ?_)
    refine l_pure rfl (s_nilp  rfl ?_)
    refine l_pure rfl (s_fld  rfl fo_70_0 ?_)
    refine l_read rfl (s_ldo (k := 0)  rfl vi_67 hS rfl rfl rfl (.inl rfl) ?_)
    refine l_heavy rfl (s_call Tryz.call27 rfl (totals_ok sP sO sM X owed R K _ (hN.P.below hS.below) (hN.O.below hS.below) (hN.M.below hS.below) hN.R hXB hoB (by omega) hX8 ho24 (hT3.below hS.below)) ?_)
    rintro r w5 ⟨bt, rfl, hS5⟩
    obtain ⟨lf0, hlf0⟩ : ∃ lf0, lf0 = prF X := ⟨_, rfl⟩
    replace hS := (hS.perm (perm6 _ _ _ _)).join hS5
    have hD := Dst.start (owed := owed) hDp
    rw [← hlf0] at hD hS
    replace hS : St w3 _ ([(bt, 36, (tab owed.length fun c => ofQ (totF X owed c)).flatMap encR)] ++ (flB bf bo bl X.length capP capL sP sO sM 70 36 lf0 sp ++ mD encR 36 24 bo (RS.map Rw.v ++ so) RS [])) := hS
    refine l_pure rfl (s_leno  rfl ⟨_, Tryz.underlying24⟩ ?_)
    refine l_pure rfl (s_move  rfl ?_)
    refine l_nil ?_
    repeat (with_reducible first | refine c_seq ?_ | refine c_skip ?_ | refine x_then ?_ | refine x_block ?_)
    refine c_cut1 (fun ρ w' => ρ 7 = .pointer (some ⟨bf, 0, none⟩) ∧ ∃ P lf RS, MatG RS X.length owed.length (fun i k => ofQ (P i k)) ∧ Dst X owed D owed.length (totF X owed owed.length) P lf ∧ St w3 w' ([(bt, 36, (tab owed.length fun c => ofQ (totF X owed c)).flatMap encR)] ++ (flB bf bo bl X.length capP capL sP sO sM 70 36 lf sp ++ mD encR 36 24 bo (RS.map Rw.v ++ so) RS []))) ?_ ?_
    · repeat (with_reducible first | refine c_seq ?_ | refine c_block ?_ | refine c_skip ?_ | refine x_then ?_ | refine x_block ?_)
      refine c_loop (σ := Nat) (fun c ρ w' => c ≤ owed.length ∧ ρ 7 = .pointer (some ⟨bf, 0, none⟩) ∧ ρ 61 = .slice (some ⟨bt, 0, none⟩) owed.length owed.length ∧ ρ 62 = .int .i64 owed.length ∧ ρ 63 = .int .i64 c ∧ ∃ P lf RS, MatG RS X.length owed.length (fun i k => ofQ (P i k)) ∧ Dst X owed D c (totF X owed c) P lf ∧ St w3 w' ([(bt, 36, (tab owed.length fun c => ofQ (totF X owed c)).flatMap encR)] ++ (flB bf bo bl X.length capP capL sP sO sM 70 36 lf sp ++ mD encR 36 24 bo (RS.map Rw.v ++ so) RS []))) (fun c => owed.length - c) 0
        ⟨Nat.zero_le _, by assumption, rfl, rfl, rfl, _, lf0, RS, hRS, hD, hS⟩ ?_
      clear hS h7 hD hRS hRn hn1 hlf0
      clear lf0
      rintro c ρ w6 ⟨hc, h7, h61, h62, h63, P, lf, RS, hRS, hD, hS⟩
      have htl := tab_len owed.length fun c => ofQ (totF X owed c)
      repeat (with_reducible first | refine c_seq ?_ | refine c_block ?_ | refine c_skip ?_ | refine x_then ?_ | refine x_block ?_)
      refine c_reg ?_
      refine l_pure rfl (s_lss  h63 h62 ?_)
      refine l_nil ?_
      repeat (with_reducible first | refine c_seq ?_ | refine c_block ?_ | refine c_skip ?_ | refine x_then ?_ | refine x_block ?_)
      by_cases hlt : c < owed.length
      · refine c_yes rfl (decide_eq_true (by omega)) ?_
        repeat (with_reducible first | refine c_seq ?_ | refine c_block ?_ | refine c_skip ?_ | refine x_then ?_ | refine x_block ?_)
        have hgt : (tab owed.length fun c => ofQ (totF X owed c)).getD c zRR = ofQ (totF X owed c) := tab_get _ _ hlt
        obtain ⟨a0, ha0, _, _⟩ := (hDt c).int hD0 (totF_pos hpos c) (le_natAbs _)
        have hLt := L_totF hXB hoB hX8 ho24 c
        repeat (with_reducible first | refine c_seq ?_ | refine c_block ?_ | refine c_skip ?_ | refine x_then ?_ | refine x_block ?_)
        refine c_reg ?_
        refine l_pure rfl (s_move  h63 ?_)
        refine l_pure rfl (s_ixo (i := c)  h61 h63 (by omega) (by first | omega | (simp; done) | (simp; omega)) si_24 ?_)
        refine l_read rfl (s_ldE (k := 0) (i := c) (enc := encR) zRR (fun _ => rfl)  rfl vi_36 hS rfl (by first | omega | simp) (by first | omega | (simp; done) | (simp; omega)) rfl (.inl rfl) ?_)
        refine l_heavy rfl (s_alloc  vi_36 hS ?_)
        intro b11 wz18 hS hBz18
        refine l_pure rfl (s_asg  rfl ?_)
        refine l_heavy rfl (s_sta (k := 0)  rfl rfl vi_36 hS rfl rfl rfl (Nat.le_of_ble_eq_true rfl) rfl ?_)
        intro wz19 hS
        refine l_nil ?_
        repeat (with_reducible first | refine c_seq ?_ | refine c_skip ?_ | refine x_then ?_ | refine x_block ?_)
        rw [hgt] at hS
        refine c_cut1 (fun ρ w' => ρ 7 = .pointer (some ⟨bf, 0, none⟩) ∧ ρ 61 = .slice (some ⟨bt, 0, none⟩) owed.length owed.length ∧ ρ 62 = .int .i64 owed.length ∧ ρ 63 = .int .i64 c ∧ ∃ P lf RS, MatG RS X.length owed.length (fun i k => ofQ (P i k)) ∧ Dst X owed D c 0 P lf ∧ St w3 w' ([(bt, 36, (tab owed.length fun c => ofQ (totF X owed c)).flatMap encR)] ++ (flB bf bo bl X.length capP capL sP sO sM 70 36 lf sp ++ mD encR 36 24 bo (RS.map Rw.v ++ so) RS []))) ?_ ?_
        · repeat (with_reducible first | refine c_seq ?_ | refine c_block ?_ | refine c_skip ?_ | refine x_then ?_ | refine x_block ?_)
          refine c_loop (σ := Nat) (fun a ρ w' => ρ 7 = .pointer (some ⟨bf, 0, none⟩) ∧ ρ 61 = .slice (some ⟨bt, 0, none⟩) owed.length owed.length ∧ ρ 62 = .int .i64 owed.length ∧ ρ 63 = .int .i64 c ∧ ρ 10 = .int .i64 c ∧ ρ 11 = .pointer (some ⟨b11, 0, none⟩) ∧ ∃ (want : Rat) (P : Nat → Nat → Rat) (lf : Nat → Rat) (RS : List (Rw RR)), want * (D : Rat) = (a : Rat) ∧ Mu D want ∧ 0 ≤ want ∧ want ≤ totF X owed c ∧ MatG RS X.length owed.length (fun i k => ofQ (P i k)) ∧ Dst X owed D c want P lf ∧ St w3 w' ([(b11, 36, encR (ofQ want)), (bt, 36, (tab owed.length fun c => ofQ (totF X owed c)).flatMap encR)] ++ (flB bf bo bl X.length capP capL sP sO sM 70 36 lf sp ++ mD encR 36 24 bo (RS.map Rw.v ++ so) RS []))) (fun a => a) a0
            ⟨by assumption, by assumption, by assumption, by assumption, rfl, rfl, totF X owed c, P, lf, RS, ha0, hDt c, totF_pos hpos c, Rat.le_refl, hRS, hD, hS⟩ ?_
          clear hS h7 h61 h62 h63 hD hRS
          rintro a ρ w7 ⟨h7, h61, h62, h63, h10, h11, want, P, lf, RS, haD, hMw, hw0, hwt, hRS, hD, hS⟩
          obtain ⟨hLP, hLl⟩ := hD.size hXB hD0 hDs
          have hLw := hMw.sizeQ hD0 hw0 hwt
          replace hLw : L want ≤ 144 * K + 124 := by omega
          repeat (with_reducible first | refine c_seq ?_ | refine c_block ?_ | refine c_skip ?_ | refine x_then ?_ | refine x_block ?_)
          refine c_reg ?_
          refine l_read rfl (s_ldo (k := 0)  h11 vi_36 hS rfl rfl rfl (.inl rfl) ?_)
          refine l_heavy rfl (s_call Tryz.call12 rfl (Sign_ok (ofQ want) _ (by rw [Lr_ofQ]; omega)) ?_)
          rintro _ wc20 ⟨rfl, hBc20⟩
          replace hS := hS.grow hBc20
          refine l_pure rfl (s_gtr  rfl rfl ?_)
          refine l_nil ?_
          repeat (with_reducible first | refine c_seq ?_ | refine c_block ?_ | refine c_skip ?_ | refine x_then ?_ | refine x_block ?_)
          rw [toQ_ofQ]
          by_cases hwp : 0 < want
          · refine c_yes rfl (decide_eq_true (sgnQ_pos.2 hwp)) ?_
            repeat (with_reducible first | refine c_seq ?_ | refine c_block ?_ | refine c_skip ?_ | refine x_then ?_ | refine x_block ?_)
            have hF := flM_of (pre := [(b11, 36, encR (ofQ want)), (bt, 36, (tab owed.length fun c => ofQ (totF X owed c)).flatMap encR)]) hS hRS (hN.O.below hS.below) hOl (hN.M.below hS.below) hc1 hc2 hc3 hc4
            repeat (with_reducible first | refine c_seq ?_ | refine c_block ?_ | refine c_skip ?_ | refine x_then ?_ | refine x_block ?_)
            refine c_reg ?_
            refine l_pure rfl (s_move  h7 ?_)
            refine l_pure rfl (s_move  h10 ?_)
            refine l_heavy rfl (s_call Tryz.call28 rfl (path_ok bf sP sO sM _ _ _ owed.length c X _ R P lf _ hF hN.R hlt hX8 ho24 (fun i hi => by have := hLl i hi; omega) (fun i hi k hk => by have := hLP i hi k hk; omega)) ?_)
            rintro r w8 (⟨rfl, _, S, T, q1, q2, q3⟩ | ⟨W, LW, hGW, hSW, hwo, hWl⟩)
            · exact (hD.fl.way hpos hlt hwp q1 q2 q3).elim
            have hne := hwo.ne
            have hLa : L (amt W P lf want (W.length - 1)) ≤ 144 * K + 124 := L_amt hLw (hLl _ (hwo.it 0 hne)) _ fun l hl => hLP _ (hwo.it (l + 1) (by omega)) _ (hwo.cl l (by omega))
            obtain ⟨p1, p2, p3, p4⟩ := hD.push hwo hwp hMw rfl
            have hWr : ∀ wx pre, St w3 wx (pre ++ ([(b11, 36, encR (ofQ want)), (bt, 36, (tab owed.length fun c => ofQ (totF X owed c)).flatMap encR)] ++ LW)) → Sl enI 1 wx r (flW W) := fun wx pre h => hGW.sl (H := pre) (h.drop (List.Sublist.append (List.Sublist.refl _) (List.sublist_append_right _ _))) enI_len
            replace hS := (hS.join hSW).perm ((List.perm_append_comm_assoc _ _ _).trans (List.Perm.append_left _ (perm_mD LW _)))
            rw [List.append_nil] at hS
            have hform : ∃ b cap, r = .slice (some ⟨b, 0, none⟩) (flW W).length cap := by
              obtain ⟨_, ⟨_, h2, _⟩ | ⟨b, cap, _, h1, _⟩⟩ := hGW
              · rw [flW_len] at h2; omega
              · exact ⟨b, cap, h1⟩
            obtain ⟨bw, capw, rfl⟩ := hform
            refine l_pure rfl (s_asg  rfl ?_)
            refine l_nil ?_
            repeat (with_reducible first | refine c_seq ?_ | refine c_block ?_ | refine c_skip ?_ | refine x_then ?_ | refine x_block ?_)
            refine c_reg ?_
            refine l_pure rfl (s_move  rfl ?_)
            refine l_pure rfl (s_eqnil  rfl rfl ⟨_, Tryz.underlying47⟩ ?_)
            refine l_nil ?_
            repeat (with_reducible first | refine c_seq ?_ | refine c_block ?_ | refine c_skip ?_ | refine x_then ?_ | refine x_block ?_)
            refine c_no rfl (rfl) ?_
            repeat (with_reducible first | refine c_seq ?_ | refine c_block ?_ | refine c_skip ?_ | refine x_then ?_ | refine x_block ?_)
            refine c_all 7 [(0, .grow), (1, .pure), (2, .pure), (3, .read), (4, .free), (5, .grow), (6, .free)] (by kernel_rfl) (by kernel_rfl) hS ?_
            intro wz21 hS hBz21
            refine z_pure (i := 1) (U' := [(0, .grow), (2, .pure), (3, .read), (4, .free), (5, .grow), (6, .free)]) (by kernel_rfl) (by kernel_rfl) rfl rfl (s_move  h7 ?_)
            refine z_pure (i := 2) (U' := [(0, .grow), (3, .read), (4, .free), (5, .grow), (6, .free)]) (by kernel_rfl) (by kernel_rfl) rfl rfl (s_move  rfl ?_)
            refine z_read (i := 3) (U' := [(0, .grow), (4, .free), (5, .grow), (6, .free)]) (by kernel_rfl) (by kernel_rfl) rfl rfl (s_ldo (k := 0)  h11 vi_36 hS rfl rfl rfl (.inl rfl) ?_)
            refine z_two (x := (0, .grow)) (y := (4, .free)) (U' := [(4, .free), (5, .grow), (6, .free)]) (U'' := [(0, .grow), (5, .grow), (6, .free)]) (by kernel_rfl) (by kernel_rfl) (by kernel_rfl) ?_ ?_
            · refine z_grow rfl rfl (hup_read (s_ldo (k := 0)  h11 vi_36 hS rfl rfl rfl (.inl rfl) ?_))
              refine ⟨Below.refl _ _, ?_⟩
              refine z_one (x := (4, .free)) (U' := [(5, .grow), (6, .free)]) (by kernel_rfl) (by kernel_rfl) ?_
              refine z_free rfl rfl (s_call Tryz.call30 rfl (push_ok bf bo bl capP capL X.length owed.length c (144 * K + 124) sP sO sM _ so sp RS (secF X) P lf want W ([(b11, 36, encR (ofQ want)), (bt, 36, (tab owed.length fun c => ofQ (totF X owed c)).flatMap encR)] ++ LW) w3 _ (hS.perm (perm_mD _ _)) hRS hWr hwo (by omega) hLP hLl hLw (by omega)) ?_)
              rintro r w7 ⟨rfl, RT, hRv, hRT, hS⟩
              replace hS := hS.perm (perm_mD _ _).symm
              rw [hRv.symm] at hS
              refine z_one (x := (5, .grow)) (U' := [(6, .free)]) (by kernel_rfl) (by kernel_rfl) ?_
              refine z_grow rfl rfl (s_call Tryz.call29 rfl (QSubtract_ok (ofQ want) (ofQ (amt W P lf want (W.length - 1))) _ (by rw [Lr_ofQ, Lr_ofQ]; omega)) ?_)
              rintro r w8 ⟨rfl, hB8⟩
              refine ⟨hB8, ?_⟩
              replace hS := hS.grow hB8
              rw [toQ_ofQ, toQ_ofQ]
              refine z_one (x := (6, .free)) (U' := []) (by kernel_rfl) (by kernel_rfl) ?_
              refine z_free rfl rfl (s_sta (k := 0)  h11 rfl vi_36 hS rfl rfl rfl (Nat.le_of_ble_eq_true rfl) rfl ?_)
              intro wz22 hS
              refine z_end ?_
              repeat (with_reducible first | refine c_seq ?_ | refine c_block ?_ | refine c_skip ?_ | refine x_then ?_ | refine x_block ?_)
              obtain ⟨a', ha', hlt'⟩ := nat_less hD0 haD hMw p2 p4 p3
              exact ⟨a', _, rfl, ⟨by assumption, by assumption, by assumption, by assumption, by assumption, by assumption, want - amt W P lf want (W.length - 1), _, _, RT, ha', hMw.sub p4, by grind, by grind, hRT, p1, hS.drop (List.Sublist.append (List.Sublist.refl _) (drop_mD _ (List.nil_sublist _)))⟩, hlt'⟩
            · refine z_free rfl rfl (s_call Tryz.call30 rfl (push_ok bf bo bl capP capL X.length owed.length c (144 * K + 124) sP sO sM _ so sp RS (secF X) P lf want W ([(b11, 36, encR (ofQ want)), (bt, 36, (tab owed.length fun c => ofQ (totF X owed c)).flatMap encR)] ++ LW) w3 _ (hS.perm (perm_mD _ _)) hRS hWr hwo (by omega) hLP hLl hLw (by omega)) ?_)
              rintro r w7 ⟨rfl, RT, hRv, hRT, hS⟩
              replace hS := hS.perm (perm_mD _ _).symm
              rw [hRv.symm] at hS
              refine z_one (x := (0, .grow)) (U' := [(5, .grow), (6, .free)]) (by kernel_rfl) (by kernel_rfl) ?_
              refine z_grow rfl rfl (hup_read (s_ldo (k := 0)  h11 vi_36 hS rfl rfl rfl (.inl rfl) ?_))
              refine ⟨Below.refl _ _, ?_⟩
              refine z_one (x := (5, .grow)) (U' := [(6, .free)]) (by kernel_rfl) (by kernel_rfl) ?_
              refine z_grow rfl rfl (s_call Tryz.call29 rfl (QSubtract_ok (ofQ want) (ofQ (amt W P lf want (W.length - 1))) _ (by rw [Lr_ofQ, Lr_ofQ]; omega)) ?_)
              rintro r w8 ⟨rfl, hB8⟩
              refine ⟨hB8, ?_⟩
              replace hS := hS.grow hB8
              rw [toQ_ofQ, toQ_ofQ]
              refine z_one (x := (6, .free)) (U' := []) (by kernel_rfl) (by kernel_rfl) ?_
              refine z_free rfl rfl (s_sta (k := 0)  h11 rfl vi_36 hS rfl rfl rfl (Nat.le_of_ble_eq_true rfl) rfl ?_)
              intro wz23 hS
              refine z_end ?_
              repeat (with_reducible first | refine c_seq ?_ | refine c_block ?_ | refine c_skip ?_ | refine x_then ?_ | refine x_block ?_)
              obtain ⟨a', ha', hlt'⟩ := nat_less hD0 haD hMw p2 p4 p3
              exact ⟨a', _, rfl, ⟨by assumption, by assumption, by assumption, by assumption, by assumption, by assumption, want - amt W P lf want (W.length - 1), _, _, RT, ha', hMw.sub p4, by grind, by grind, hRT, p1, hS.drop (List.Sublist.append (List.Sublist.refl _) (drop_mD _ (List.nil_sublist _)))⟩, hlt'⟩
          · refine c_no rfl (decide_eq_false (fun g => hwp (sgnQ_pos.1 g))) ?_
            repeat (with_reducible first | refine c_seq ?_ | refine c_block ?_ | refine c_skip ?_ | refine x_then ?_ | refine x_block ?_)
            refine c_exit ?_
            repeat (with_reducible first | refine x_then_exit ?_ | refine x_block_exit ?_ | refine x_block_pass rfl ?_)
            repeat (with_reducible first | refine c_seq ?_ | refine c_block ?_ | refine c_skip ?_ | refine x_then ?_ | refine x_block ?_)
            obtain rfl : want = 0 := by grind
            exact ⟨_, rfl, h7, h61, h62, h63, P, lf, RS, hRS, hD, hS.drop (List.sublist_cons_self _ _)⟩
        clear hS h7 h61 h62 h63 hD hRS
        rintro ρ w7 ⟨h7, h61, h62, h63, P, lf, RS, hRS, hD, hS⟩
        repeat (with_reducible first | refine c_seq ?_ | refine c_block ?_ | refine c_skip ?_ | refine x_then ?_ | refine x_block ?_)
        refine c_reg ?_
        refine l_pure rfl (s_add  h63 rfl (IntWalk.i64_in _ (by omega)) ?_)
        refine l_pure rfl (s_move  rfl ?_)
        refine l_nil ?_
        repeat (with_reducible first | refine c_seq ?_ | refine c_block ?_ | refine c_skip ?_ | refine x_then ?_ | refine x_block ?_)
        exact ⟨c + 1, _, rfl, ⟨hlt, h7, h61, h62, vi rfl (by omega), P, lf, RS, hRS, hD.next rfl, hS⟩, by omega⟩
      · refine c_no rfl (decide_eq_false (by omega)) ?_
        repeat (with_reducible first | refine c_seq ?_ | refine c_block ?_ | refine c_skip ?_ | refine x_then ?_ | refine x_block ?_)
        refine c_exit ?_
        repeat (with_reducible first | refine x_then_exit ?_ | refine x_block_exit ?_ | refine x_block_pass rfl ?_)
        repeat (with_reducible first | refine c_seq ?_ | refine c_block ?_ | refine c_skip ?_ | refine x_then ?_ | refine x_block ?_)
        obtain rfl : c = owed.length := by omega
        exact ⟨_, rfl, h7, P, lf, RS, hRS, hD, hS⟩
    clear hS h7 hD hRS hRn hn1
    rintro ρ w6 ⟨h7, P, lf, RS, hRS, hD, hS⟩
    repeat (with_reducible first | refine c_seq ?_ | refine c_block ?_ | refine c_skip ?_ | refine x_then ?_ | refine x_block ?_)
    refine c_reg ?_
    refine l_pure rfl (s_move  h7 ?_)
    refine l_pure rfl (s_nilp  rfl ?_)
    refine l_pure rfl (s_fld  rfl fo_70_1 ?_)
    refine l_read rfl (s_ldo (k := 1)  rfl vi_28 hS rfl rfl rfl (.inr rfl) ?_)
    refine l_pure rfl (s_asg  rfl ?_)
    refine l_pure rfl (s_asg  rfl ?_)
    refine l_nil ?_
    repeat (with_reducible first | refine c_seq ?_ | refine c_block ?_ | refine c_skip ?_ | refine x_then ?_ | refine x_block ?_)
    refine c_ret ?_
    repeat (with_reducible first | refine x_then_ret ?_ | refine x_block_ret ?_)
    refine r_two rfl rfl rfl ?_
    refine ⟨⟨_, rfl, fun _ => ⟨P, lf, _, hRS.mtsD ([(bt, 36, (tab owed.length fun c => ofQ (totF X owed c)).flatMap encR)] ++ flB bf bo bl X.length capP capL sP sO sM 70 36 lf sp) (by rw [List.append_assoc]; exact hS) encR_len hc1 hc2, hD.fl.got fun k hk => if_pos hk, (hD.size hXB hD0 hDs).1⟩⟩, hB3.trans (hS.below.mono hB3.size)⟩
  · refine c_yes rfl (decide_eq_true (by omega)) ?_
    repeat (with_reducible first | refine c_seq ?_ | refine c_block ?_ | refine c_skip ?_ | refine x_then ?_ | refine x_block ?_)
    refine c_reg ?_
    refine l_pure rfl (s_move  rfl ?_)
    refine l_pure rfl (s_asg  rfl ?_)
    refine l_pure rfl (s_asg  rfl ?_)
    refine l_nil ?_
    repeat (with_reducible first | refine c_seq ?_ | refine c_block ?_ | refine c_skip ?_ | refine x_then ?_ | refine x_block ?_)
    refine c_ret ?_
    repeat (with_reducible first | refine x_then_ret ?_ | refine x_block_ret ?_)
    refine r_two rfl rfl rfl ?_
    exact ⟨⟨_, rfl, fun h => absurd h h0⟩, hS.below⟩
end Go.Proofs.YtmghobajmhdbfaaGreatDoor
