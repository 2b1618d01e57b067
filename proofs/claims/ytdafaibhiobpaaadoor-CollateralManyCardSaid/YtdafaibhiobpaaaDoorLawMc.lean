/-
  The law which numbers of items, charges and claims are accepted: its walk.
-/
import Derived.Test.YtdafaibhiobpaaaDoorLawCg
namespace Go.Proofs.YtdafaibhiobpaaaDoor
open Go Go.RowKit Go.Sx

def itN (k : Nat) : It := ⟨zRR, zRR, List.replicate k zCh⟩
theorem built_It1 (a : Option Addr) (n c : Nat) : Tryd.prog.built 55 [(2, .slice a n c)] = some #[.bool false, .string ⟨#[]⟩, .string ⟨#[]⟩, .bool false, .string ⟨#[]⟩, .string ⟨#[]⟩, .slice a n c] := by kernel_rfl
theorem firstE_all {α : Type} {f : α → Int} {l : List α} (h : ∀ x ∈ l, f x = 0) : firstE f l = 0 := by
  induction l with
  | nil => rfl
  | cons x l ih =>
    rw [firstE, if_pos (h x (List.mem_cons_self ..))]
    exact ih fun y hy => h y (List.mem_cons_of_mem _ hy)
theorem many_check (n k m : Nat) (hn : 1 ≤ n) (hm : 1 ≤ m) : checkE (List.replicate n (itN k)) (List.replicate m zRR) = if (8 < n ∨ 8 < k) ∨ 24 < m then 2 else 0 := by
  unfold checkE
  rw [List.length_replicate, List.length_replicate]
  by_cases h1 : 8 < n ∨ 24 < m
  · rw [if_pos h1, if_pos (by omega)]
  · rw [if_neg h1]
    have hz : ¬ negs (List.replicate m zRR) = true := by
      unfold negs
      rw [List.any_eq_true]
      rintro ⟨x, hx, h2⟩
      rw [List.eq_of_mem_replicate hx, toQ_zRR] at h2
      exact absurd h2 (by decide)
    rw [if_neg hz]
    by_cases hk : 8 < k
    · rw [if_pos (by omega)]
      obtain ⟨n, rfl⟩ : ∃ n', n = n' + 1 := ⟨n - 1, by omega⟩
      have e : itErr m (itN k) = 2 := by unfold itErr itN; rw [if_pos (by rw [List.length_replicate]; exact hk)]
      rw [List.replicate_succ, firstE, e, if_neg (by decide)]
    · rw [if_neg (by omega)]
      refine firstE_all fun x hx => ?_
      rw [List.eq_of_mem_replicate hx]
      unfold itErr itN
      rw [if_neg (by rw [List.length_replicate]; exact hk), if_neg (by rw [toQ_zRR]; decide)]
      refine firstE_all fun c hc => ?_
      rw [List.eq_of_mem_replicate hc]
      unfold chErr zCh
      rw [if_neg (by show ¬ ((0 : Int) < 0 ∨ (m : Int) ≤ 0); omega), if_neg (fun h => Bool.noConfusion h.1)]
theorem gl_made {b n : Nat} {T : TypeId} (hn : n ≤ 1000000) : Gl encCh T 6 (.slice (some ⟨b, 0, none⟩) n n) (List.replicate n zCh) [(b, T, (List.replicate n zCh).flatMap encCh)] := by
  unfold Gl Gs
  rw [flat_len encCh_len, List.length_replicate]
  exact ⟨rfl, .inr ⟨b, n, [], rfl, by rw [List.append_nil], Nat.le_refl _, by unfold Go.maxLen; omega, by rw [List.append_nil, flat_len encCh_len, List.length_replicate]⟩⟩
theorem sl_rep {w0 w : World} {H : List Blk} {k b m : Nat} {t : TypeId} (hS : St w0 w H) (hk : H[k]? = some (b, t, (List.replicate m zRR).flatMap encR)) (hm : m ≤ 1000000) : Sl encR 3 w (.slice (some ⟨b, 0, none⟩) m m) (List.replicate m zRR) := by
  have h1 := hS.sle (k := k) (L := List.replicate m zRR) (n := m) (cap := m) hk encR_len (by rw [List.length_replicate]; exact Nat.le_refl _) (Nat.le_refl _) (by omega)
  rwa [List.take_of_length_le (by rw [List.length_replicate]; exact Nat.le_refl _)] at h1
set_option maxHeartbeats 1000000 in
theorem CollateralMany_ok (nn cc mm : Nat) (w : World) :
    Ret Tryd.prog 10 #[.int .u8 nn, .int .u8 cc, .int .u8 mm] w fun v w' => v = .bool true ∧ Below w.heap.size w w' := by
  have hM : MX = 1099511627776 := rfl
  have hS := St.init w
  obtain ⟨n, hn⟩ : ∃ n, n = 1 + nn % 12 := ⟨_, rfl⟩
  obtain ⟨k, hk⟩ : ∃ k, k = cc % 12 := ⟨_, rfl⟩
  obtain ⟨m, hm⟩ : ∃ m, m = 1 + mm % 40 := ⟨_, rfl⟩
  have hn12 : nn % 12 < 12 := Nat.mod_lt _ (by decide)
  have hk12 : cc % 12 < 12 := Nat.mod_lt _ (by decide)
  have hm40 : mm % 40 < 40 := Nat.mod_lt _ (by decide)
  refine enter Tryd.func10 rfl Tryd.ntmps10 rfl ?_
  repeat (with_reducible first | refine c_seq ?_ | refine c_block ?_ | refine c_skip ?_ | refine x_then ?_ | refine x_block ?_)
  refine c_reg ?_
  refine l_pure rfl (s_asg  rfl ?_)
  refine l_nil ?_
  repeat (with_reducible first | refine c_seq ?_ | refine c_block ?_ | refine c_skip ?_ | refine x_then ?_ | refine x_block ?_)
  refine c_reg ?_
  refine l_pure rfl (s_asg  rfl ?_)
  refine l_nil ?_
  repeat (with_reducible first | refine c_seq ?_ | refine c_block ?_ | refine c_skip ?_ | refine x_then ?_ | refine x_block ?_)
  refine c_reg ?_
  refine l_pure rfl (s_asg  rfl ?_)
  refine l_nil ?_
  repeat (with_reducible first | refine c_seq ?_ | refine c_skip ?_ | refine x_then ?_ | refine x_block ?_)
  refine c_cut1 (fun ρ w' => ρ 1 = .int .u8 cc ∧ ρ 2 = .int .u8 mm ∧ ∃ sO LO LC cvs, ρ 7 = sO ∧ cvs.length = n ∧ Gl encIt 55 7 sO ((List.replicate n (itN k)).zip cvs) LO ∧ RdC w LC cvs (List.replicate n (itN k)) ∧ St w w' (LO ++ LC)) ?_ ?_
  · repeat (with_reducible first | refine c_seq ?_ | refine c_block ?_ | refine c_skip ?_ | refine x_then ?_ | refine x_block ?_)
    refine c_loop (σ := Nat) (fun i ρ w' => i ≤ n ∧ ρ 0 = .int .u8 nn ∧ ρ 1 = .int .u8 cc ∧ ρ 2 = .int .u8 mm ∧ ρ 8 = .int .i64 i ∧ ∃ sO LO LC cvs, ρ 7 = sO ∧ cvs.length = i ∧ Gl encIt 55 7 sO ((List.replicate i (itN k)).zip cvs) LO ∧ RdC w LC cvs (List.replicate i (itN k)) ∧ St w w' (LO ++ LC)) (fun i => n - i) 0
      ⟨Nat.zero_le _, rfl, rfl, rfl, rfl, ⟨_, [], [], [], rfl, rfl, Gl.nil _ _ _, fun w' H h j hj => absurd hj (Nat.not_lt_zero _), hS⟩⟩ ?_
    clear hS
    rintro i ρ w2 ⟨hi, h0, h1, h2, h8, sO, LO, LC, cvs, h7, hcv, hO, hRd, hS⟩
    repeat (with_reducible first | refine c_seq ?_ | refine c_block ?_ | refine c_skip ?_ | refine x_then ?_ | refine x_block ?_)
    refine c_reg ?_
    refine l_pure rfl (s_move  h8 ?_)
    refine l_pure rfl (s_move  h0 ?_)
    refine l_pure rfl (s_rem  rfl rfl (by omega) (r := ((nn % 12 : Nat) : Int)) (by exact rem_nat nn 12) ?_)
    refine l_pure rfl (s_conv  rfl Tryd.underlying3 ⟨_, Tryd.underlying5⟩ (r := ((nn % 12 : Nat) : Int)) (by exact wr_i64 _ ⟨rfl, by omega, by omega⟩) ?_)
    refine l_pure rfl (s_add  rfl rfl (IntWalk.i64_in _ (by omega)) ?_)
    refine l_pure rfl (s_lss  rfl rfl ?_)
    refine l_nil ?_
    repeat (with_reducible first | refine c_seq ?_ | refine c_block ?_ | refine c_skip ?_ | refine x_then ?_ | refine x_block ?_)
    have e7 : (List.zip (List.replicate i (itN k)) cvs).length = i := by rw [List.length_zip, List.length_replicate]; omega
    by_cases hlt : i < n
    · refine c_yes rfl (decide_eq_true (by omega)) ?_
      repeat (with_reducible first | refine c_seq ?_ | refine c_block ?_ | refine c_skip ?_ | refine x_then ?_ | refine x_block ?_)
      refine c_reg ?_
      refine l_pure rfl (s_move  h7 ?_)
      refine l_pure rfl (s_move  h1 ?_)
      refine l_pure rfl (s_rem  rfl rfl (by omega) (r := ((cc % 12 : Nat) : Int)) (by exact rem_nat cc 12) ?_)
      refine l_heavy rfl (s_makeE (enc := encCh) (n := (cc % 12)) zCh  rfl rfl si_53 rfl (by omega) (by omega) (by omega) (by omega) hS ?_)
      intro bc wz1 hS hBz1
      refine l_pure rfl (s_build  rfl (built_It1 _ _ _) ?_)
      refine l_heavy rfl (s_bsl (vs := [.agg (encIt (itN (cc % 12), .slice (some ⟨bc, 0, none⟩) (cc % 12) (cc % 12))).toArray])  rfl si_52 rfl (by decide) (by decide) (by decide) (by simp [Value.cells, encIt, itN, zRR]) rfl hS ?_)
      intro bx wz2 hS hBz2
      replace hS : St w _ ((bx, 55, _) :: (((bc, 74, (List.replicate (cc % 12) zCh).flatMap encCh) :: LC) ++ LO)) := hS.perm (List.Perm.cons _ (List.Perm.cons _ List.perm_append_comm))
      refine l_heavy rfl (s_appl [(itN (cc % 12), .slice (some ⟨bc, 0, none⟩) (cc % 12) (cc % 12))]  rfl rfl si_52 (by decide) hO hS rfl rfl encIt_len (encIt_one (itN (cc % 12)) (some ⟨bc, 0, none⟩) (cc % 12) (cc % 12)) (by first | omega | (simp only [List.length_cons, List.length_nil]; omega)) (by first | omega | (simp only [List.length_cons, List.length_nil]; omega)) ?_)
      intro va3 La3 wa3 hO hS hga3
      refine l_pure rfl (s_asg  rfl ?_)
      refine l_nil ?_
      repeat (with_reducible first | refine c_seq ?_ | refine c_block ?_ | refine c_skip ?_ | refine x_then ?_ | refine x_block ?_)
      rw [← hk] at hO hS
      have hz : (List.replicate (i + 1) (itN k)).zip (cvs ++ [.slice (some ⟨bc, 0, none⟩) k k]) = (List.replicate i (itN k)).zip cvs ++ [(itN k, .slice (some ⟨bc, 0, none⟩) k k)] := by
        rw [List.replicate_succ', List.zip_append (by rw [List.length_replicate]; omega)]; rfl
      rw [← hz] at hO
      repeat (with_reducible first | refine c_seq ?_ | refine c_block ?_ | refine c_skip ?_ | refine x_then ?_ | refine x_block ?_)
      refine c_reg ?_
      refine l_pure rfl (s_move  h8 ?_)
      refine l_pure rfl (s_add  rfl rfl (IntWalk.i64_in _ (by omega)) ?_)
      refine l_pure rfl (s_asg  rfl ?_)
      refine l_nil ?_
      repeat (with_reducible first | refine c_seq ?_ | refine c_block ?_ | refine c_skip ?_ | refine x_then ?_ | refine x_block ?_)
      refine ⟨i + 1, _, rfl, ⟨hlt, by assumption, by assumption, by assumption, vi rfl (by omega), ⟨_, _, LC ++ [(bc, 74, (List.replicate k zCh).flatMap encCh)], _, rfl, ?_, hO, ?_, ?_⟩⟩, by omega⟩
      · rw [List.length_append, hcv]; rfl
      · rw [List.replicate_succ']
        exact hRd.add (x := itN k) (by rw [List.length_replicate, hcv]) (gl_made (by omega))
      · exact hS.perm (List.perm_append_comm.trans (List.Perm.append_left _ (List.perm_append_singleton _ _).symm))
    · refine c_no rfl (decide_eq_false (by omega)) ?_
      repeat (with_reducible first | refine c_seq ?_ | refine c_block ?_ | refine c_skip ?_ | refine x_then ?_ | refine x_block ?_)
      refine c_exit ?_
      repeat (with_reducible first | refine x_then_exit ?_ | refine x_block_exit ?_ | refine x_block_pass rfl ?_)
      repeat (with_reducible first | refine c_seq ?_ | refine c_block ?_ | refine c_skip ?_ | refine x_then ?_ | refine x_block ?_)
      obtain rfl : i = n := by omega
      exact ⟨_, rfl, h1, h2, sO, LO, LC, cvs, h7, hcv, hO, hRd, hS⟩
  clear hS
  rintro ρ w2 ⟨h1, h2, sO, LO, LC, cvs, h7, hcv, hO, hRd, hS⟩
  have e7 : (List.zip (List.replicate n (itN k)) cvs).length = n := by rw [List.length_zip, List.length_replicate]; omega
  repeat (with_reducible first | refine c_seq ?_ | refine c_block ?_ | refine c_skip ?_ | refine x_then ?_ | refine x_block ?_)
  refine c_reg ?_
  refine l_pure rfl (s_move  h2 ?_)
  refine l_pure rfl (s_rem  rfl rfl (by omega) (r := ((mm % 40 : Nat) : Int)) (by exact rem_nat mm 40) ?_)
  refine l_pure rfl (s_conv  rfl Tryd.underlying3 ⟨_, Tryd.underlying5⟩ (r := ((mm % 40 : Nat) : Int)) (by exact wr_i64 _ ⟨rfl, by omega, by omega⟩) ?_)
  refine l_pure rfl (s_add  rfl rfl (IntWalk.i64_in _ (by omega)) ?_)
  refine l_heavy rfl (s_makeE (enc := encR) (n := (1 + mm % 40)) zRR  rfl rfl si_37 rfl (by omega) (by omega) (by omega) (by omega) hS ?_)
  intro b9 wz4 hS hBz4
  refine l_pure rfl (s_asg  rfl ?_)
  refine l_nil ?_
  repeat (with_reducible first | refine c_seq ?_ | refine c_block ?_ | refine c_skip ?_ | refine x_then ?_ | refine x_block ?_)
  rw [← hm] at hS ⊢
  repeat (with_reducible first | refine c_seq ?_ | refine c_block ?_ | refine c_skip ?_ | refine x_then ?_ | refine x_block ?_)
  refine c_reg ?_
  refine l_pure rfl (s_asg  rfl ?_)
  refine l_nil ?_
  repeat (with_reducible first | refine c_seq ?_ | refine c_block ?_ | refine c_skip ?_ | refine x_then ?_ | refine x_block ?_)
  refine c_forget (fun ρ' => ρ' 1 = .int .u8 cc ∧ ρ' 7 = sO ∧ ρ' 9 = .slice (some ⟨b9, 0, none⟩) m m ∧ ρ' 10 = .int .i64 0 ∧ True) ⟨h1, h7, rfl, rfl, trivial⟩ ?_
  rintro ρk5 ⟨hk5_1, hk5_7, hk5_9, hk5_10, -⟩
  have hI : Its _ sO (List.replicate n (itN k)) cvs := ⟨by rw [List.length_replicate]; exact hcv, hO.sl (H := (b9, 26, (List.replicate m zRR).flatMap encR) :: LC) (hS.perm (List.Perm.cons _ List.perm_append_comm)) encIt_len, fun j hj => hRd _ (_ :: LO) hS j hj⟩
  have hR := sl_rep (k := 0) hS rfl (by omega)
  replace hS := hS.drop (List.nil_sublist _)
  refine c_cut1 (fun ρ w' => ρ 7 = sO ∧ ρ 9 = .slice (some ⟨b9, 0, none⟩) m m ∧ ρ 10 = .int .i64 0 ∧ ρ 44 = .bool (decide ((8 < n ∨ 8 < k) ∨ 24 < m)) ∧ Its w' sO (List.replicate n (itN k)) cvs ∧ Sl encR 3 w' (.slice (some ⟨b9, 0, none⟩) m m) (List.replicate m zRR) ∧ St w w' []) ?_ ?_
  · by_cases hA : 8 < n
    · repeat (with_reducible first | refine c_seq ?_ | refine c_block ?_ | refine c_skip ?_ | refine x_then ?_ | refine x_block ?_)
      refine c_reg ?_
      refine l_pure rfl (s_move  hk5_7 ?_)
      refine l_pure rfl (s_lenr  rfl hI.sl ⟨_, Tryd.underlying52⟩ ?_)
      refine l_pure rfl (s_gtr  rfl rfl ?_)
      refine l_pure rfl (s_move  rfl ?_)
      refine l_no (gno_yes 34 (by kernel_rfl) rfl (decide_eq_true (by omega))) ?_
      refine l_no (gno_yes 34 (by kernel_rfl) rfl (decide_eq_true (by omega))) ?_
      refine l_no (gno_yes 34 (by kernel_rfl) rfl (decide_eq_true (by omega))) ?_
      refine l_no (gno_yes 34 (by kernel_rfl) rfl (decide_eq_true (by omega))) ?_
      refine l_pure rfl (s_pick (vb rfl (decide_eq_true (by omega))) rfl ?_)
      refine l_pure rfl (s_move  rfl ?_)
      refine l_no (gno_yes 40 (by kernel_rfl) rfl rfl) ?_
      refine l_no (gno_yes 40 (by kernel_rfl) rfl rfl) ?_
      refine l_no (gno_yes 40 (by kernel_rfl) rfl rfl) ?_
      refine l_pure rfl (s_pick (vb rfl rfl) rfl ?_)
      refine l_nil ?_
      repeat (with_reducible first | refine c_seq ?_ | refine c_block ?_ | refine c_skip ?_ | refine x_then ?_ | refine x_block ?_)
      exact ⟨_, rfl, by assumption, by assumption, by assumption, vb rfl (decide_eq_true (.inl (.inl hA))).symm, hI, hR, hS⟩
    by_cases hB : 8 < k
    · repeat (with_reducible first | refine c_seq ?_ | refine c_block ?_ | refine c_skip ?_ | refine x_then ?_ | refine x_block ?_)
      refine c_reg ?_
      refine l_pure rfl (s_move  hk5_7 ?_)
      refine l_pure rfl (s_lenr  rfl hI.sl ⟨_, Tryd.underlying52⟩ ?_)
      refine l_pure rfl (s_gtr  rfl rfl ?_)
      refine l_pure rfl (s_move  rfl ?_)
      refine l_pure (gd_yes 34 (by kernel_rfl) rfl (decide_eq_false (by omega))) (s_move  hk5_1 ?_)
      refine l_pure (gd_yes 34 (by kernel_rfl) rfl (decide_eq_false (by omega))) (s_rem  rfl rfl (by omega) (r := ((cc % 12 : Nat) : Int)) (by exact rem_nat cc 12) ?_)
      refine l_pure (gd_yes 34 (by kernel_rfl) rfl (decide_eq_false (by omega))) (s_conv  rfl Tryd.underlying3 ⟨_, Tryd.underlying5⟩ (r := ((cc % 12 : Nat) : Int)) (by exact wr_i64 _ ⟨rfl, by omega, by omega⟩) ?_)
      refine l_pure (gd_yes 34 (by kernel_rfl) rfl (decide_eq_false (by omega))) (s_gtr  rfl rfl ?_)
      refine l_pure rfl (s_pick (vb rfl (decide_eq_false (by omega))) rfl ?_)
      refine l_pure rfl (s_move  rfl ?_)
      refine l_no (gno_yes 40 (by kernel_rfl) rfl (decide_eq_true (by omega))) ?_
      refine l_no (gno_yes 40 (by kernel_rfl) rfl (decide_eq_true (by omega))) ?_
      refine l_no (gno_yes 40 (by kernel_rfl) rfl (decide_eq_true (by omega))) ?_
      refine l_pure rfl (s_pick (vb rfl (decide_eq_true (by omega))) rfl ?_)
      refine l_nil ?_
      repeat (with_reducible first | refine c_seq ?_ | refine c_block ?_ | refine c_skip ?_ | refine x_then ?_ | refine x_block ?_)
      exact ⟨_, rfl, by assumption, by assumption, by assumption, vb rfl (decide_eq_true (.inl (.inr hB))).symm, hI, hR, hS⟩
    · repeat (with_reducible first | refine c_seq ?_ | refine c_block ?_ | refine c_skip ?_ | refine x_then ?_ | refine x_block ?_)
      refine c_reg ?_
      refine l_pure rfl (s_move  hk5_7 ?_)
      refine l_pure rfl (s_lenr  rfl hI.sl ⟨_, Tryd.underlying52⟩ ?_)
      refine l_pure rfl (s_gtr  rfl rfl ?_)
      refine l_pure rfl (s_move  rfl ?_)
      refine l_pure (gd_yes 34 (by kernel_rfl) rfl (decide_eq_false (by omega))) (s_move  hk5_1 ?_)
      refine l_pure (gd_yes 34 (by kernel_rfl) rfl (decide_eq_false (by omega))) (s_rem  rfl rfl (by omega) (r := ((cc % 12 : Nat) : Int)) (by exact rem_nat cc 12) ?_)
      refine l_pure (gd_yes 34 (by kernel_rfl) rfl (decide_eq_false (by omega))) (s_conv  rfl Tryd.underlying3 ⟨_, Tryd.underlying5⟩ (r := ((cc % 12 : Nat) : Int)) (by exact wr_i64 _ ⟨rfl, by omega, by omega⟩) ?_)
      refine l_pure (gd_yes 34 (by kernel_rfl) rfl (decide_eq_false (by omega))) (s_gtr  rfl rfl ?_)
      refine l_pure rfl (s_pick (vb rfl (decide_eq_false (by omega))) rfl ?_)
      refine l_pure rfl (s_move  rfl ?_)
      refine l_pure (gd_yes 40 (by kernel_rfl) rfl (decide_eq_false (by omega))) (s_move  hk5_9 ?_)
      refine l_pure (gd_yes 40 (by kernel_rfl) rfl (decide_eq_false (by omega))) (s_leno  rfl ⟨_, Tryd.underlying37⟩ ?_)
      refine l_pure (gd_yes 40 (by kernel_rfl) rfl (decide_eq_false (by omega))) (s_gtr  rfl rfl ?_)
      refine l_pure rfl (s_pick (vb rfl (decide_eq_false (by omega))) rfl ?_)
      refine l_nil ?_
      repeat (with_reducible first | refine c_seq ?_ | refine c_block ?_ | refine c_skip ?_ | refine x_then ?_ | refine x_block ?_)
      exact ⟨_, rfl, by assumption, by assumption, by assumption, vb rfl (by rw [decide_eq_decide]; omega), hI, hR, hS⟩
  clear hI hR hS
  rintro ρ w3 ⟨h7, h9, h10, h44, hI, hR, hS⟩
  repeat (with_reducible first | refine c_seq ?_ | refine c_block ?_ | refine c_skip ?_ | refine x_then ?_ | refine x_block ?_)
  have hck := many_check n k m (by omega) (by omega)
  refine c_cut1 (fun ρ w' => ρ 7 = sO ∧ ρ 9 = .slice (some ⟨b9, 0, none⟩) m m ∧ ρ 10 = .int .i64 (checkE (List.replicate n (itN k)) (List.replicate m zRR)) ∧ Its w' sO (List.replicate n (itN k)) cvs ∧ Sl encR 3 w' (.slice (some ⟨b9, 0, none⟩) m m) (List.replicate m zRR) ∧ St w w' []) ?_ ?_
  · by_cases hbig : (8 < n ∨ 8 < k) ∨ 24 < m
    · rw [if_pos hbig] at hck
      refine c_yes h44 (decide_eq_true hbig) ?_
      repeat (with_reducible first | refine c_seq ?_ | refine c_block ?_ | refine c_skip ?_ | refine x_then ?_ | refine x_block ?_)
      refine c_reg ?_
      refine l_pure rfl (s_asg  rfl ?_)
      refine l_nil ?_
      repeat (with_reducible first | refine c_seq ?_ | refine c_block ?_ | refine c_skip ?_ | refine x_then ?_ | refine x_block ?_)
      exact ⟨_, rfl, by assumption, by assumption, by rw [hck]; rfl, hI, hR, hS⟩
    · rw [if_neg hbig] at hck
      refine c_no h44 (decide_eq_false hbig) ?_
      repeat (with_reducible first | refine c_seq ?_ | refine c_block ?_ | refine c_skip ?_ | refine x_then ?_ | refine x_block ?_)
      exact ⟨_, rfl, by assumption, by assumption, by rw [hck]; assumption, hI, hR, hS⟩
  clear hI hR hS h7 h9 h10 h44
  rintro ρ w4 ⟨h7, h9, h10, hI, hR, hS⟩
  have hXB : ItB MX (List.replicate n (itN k)) := fun x hx => by
    rw [List.eq_of_mem_replicate hx]
    refine ⟨by show Lr zRR ≤ _; rw [Lr_zRR, hM]; decide, by show Lr zRR ≤ _; rw [Lr_zRR, hM]; decide, fun c hc => ?_⟩
    rw [List.eq_of_mem_replicate hc]
    show Lr zRR ≤ _
    rw [Lr_zRR, hM]; decide
  have hRB : RB MX (List.replicate m zRR) := fun x hx => by rw [List.eq_of_mem_replicate hx, Lr_zRR, hM]; decide
  repeat (with_reducible first | refine c_seq ?_ | refine c_block ?_ | refine c_skip ?_ | refine x_then ?_ | refine x_block ?_)
  refine c_reg ?_
  refine l_heavy rfl (s_call Tryd.call26 rfl (Cawake_ok _) ?_)
  rintro r w5 ⟨rfl, hB5⟩
  replace hS := hS.grow hB5
  refine l_pure rfl (s_move  rfl ?_)
  refine l_pure (gd_yes 46 (by kernel_rfl) rfl rfl) (s_move  h7 ?_)
  refine l_pure (gd_yes 46 (by kernel_rfl) rfl rfl) (s_move  h9 ?_)
  refine l_heavy (gd_yes 46 (by kernel_rfl) rfl rfl) (s_call Tryd.call27 rfl (Check_ok _ _ (List.replicate n (itN k)) cvs (List.replicate m zRR) _ (hI.below hB5) (hR.below hB5) hXB hRB) ?_)
  rintro r w6 ⟨rfl, hB6⟩
  replace hS := hS.grow hB6
  refine l_pure (gd_yes 46 (by kernel_rfl) rfl rfl) (s_move  h10 ?_)
  refine l_pure (gd_yes 46 (by kernel_rfl) rfl rfl) (s_eql  rfl rfl ?_)
  refine l_pure rfl (s_pick (vb rfl rfl) rfl ?_)
  refine l_pure rfl (s_asg  rfl ?_)
  refine l_nil ?_
  repeat (with_reducible first | refine c_seq ?_ | refine c_block ?_ | refine c_skip ?_ | refine x_then ?_ | refine x_block ?_)
  refine c_ret ?_
  repeat (with_reducible first | refine x_then_ret ?_ | refine x_block_ret ?_)
  refine r_one rfl rfl ?_
  exact ⟨vb rfl (decide_eq_true rfl), hS.below⟩
end Go.Proofs.YtdafaibhiobpaaaDoor
