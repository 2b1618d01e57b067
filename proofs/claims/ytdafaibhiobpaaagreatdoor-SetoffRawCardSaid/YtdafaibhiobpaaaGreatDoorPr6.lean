/-
  Part 6 of the texts that the law's proof is made of: the framework and the walks.
-/
import Derived.Test.YtdafaibhiobpaaaGreatDoorPr5
namespace Go.Proofs.YtdafaibhiobpaaaGreatDoor
open Go Go.RowKit Go.Sx
theorem insertionSort_none (v fv : Value) (w : World) : Ret Tryz.prog 114 #[v, .int .i64 0, .int .i64 0, fv] w fun r w' => r = .tuple #[] ∧ w' = w := by
  refine enter Tryz.func114 rfl Tryz.ntmps114 rfl ?_
  repeat (with_reducible first | refine c_seq ?_ | refine c_block ?_ | refine c_skip ?_ | refine x_then ?_ | refine x_block ?_)
  refine c_reg ?_
  refine l_pure rfl (s_move  rfl ?_)
  refine l_pure rfl (s_add  rfl rfl (IntWalk.i64_in _ (by omega)) ?_)
  refine l_pure rfl (s_asg  rfl ?_)
  refine l_nil ?_
  repeat (with_reducible first | refine c_seq ?_ | refine c_block ?_ | refine c_skip ?_ | refine x_then ?_ | refine x_block ?_)
  refine c_loop (σ := Unit) (fun _ ρ w' => ρ 2 = .int .i64 0 ∧ ρ 8 = .int .i64 1 ∧ w' = w) (fun _ => 0) () ⟨rfl, vi rfl (by omega), rfl⟩ ?_
  rintro _ ρ w2 ⟨h2, h8, rfl⟩
  repeat (with_reducible first | refine c_seq ?_ | refine c_block ?_ | refine c_skip ?_ | refine x_then ?_ | refine x_block ?_)
  refine c_reg ?_
  refine l_pure rfl (s_move  h8 ?_)
  refine l_pure rfl (s_move  h2 ?_)
  refine l_pure rfl (s_lss  rfl rfl ?_)
  refine l_nil ?_
  repeat (with_reducible first | refine c_seq ?_ | refine c_block ?_ | refine c_skip ?_ | refine x_then ?_ | refine x_block ?_)
  refine c_no rfl (decide_eq_false (by omega)) ?_
  repeat (with_reducible first | refine c_seq ?_ | refine c_block ?_ | refine c_skip ?_ | refine x_then ?_ | refine x_block ?_)
  refine c_exit ?_
  repeat (with_reducible first | refine x_then_exit ?_ | refine x_block_exit ?_ | refine x_block_pass rfl ?_)
  repeat (with_reducible first | refine c_seq ?_ | refine c_block ?_ | refine c_skip ?_ | refine x_then ?_ | refine x_block ?_)
  exact r_none rfl ⟨rfl, rfl⟩
theorem stable_none (v fv : Value) (w : World) : Ret Tryz.prog 93 #[v, .int .i64 0, fv] w fun r w' => r = .tuple #[] ∧ w' = w := by
  refine enter Tryz.func93 rfl Tryz.ntmps93 rfl ?_
  repeat (with_reducible first | refine c_seq ?_ | refine c_block ?_ | refine c_skip ?_ | refine x_then ?_ | refine x_block ?_)
  refine c_reg ?_
  refine l_pure rfl (s_asg  rfl ?_)
  refine l_nil ?_
  repeat (with_reducible first | refine c_seq ?_ | refine c_block ?_ | refine c_skip ?_ | refine x_then ?_ | refine x_block ?_)
  refine c_reg ?_
  refine l_pure rfl (s_move  rfl ?_)
  refine l_pure rfl (s_asg  rfl ?_)
  refine l_pure rfl (s_asg  rfl ?_)
  refine l_nil ?_
  repeat (with_reducible first | refine c_seq ?_ | refine c_skip ?_ | refine x_then ?_ | refine x_block ?_)
  refine c_cut1 (fun ρ w' => ρ 0 = v ∧ ρ 1 = .int .i64 0 ∧ ρ 2 = fv ∧ ρ 6 = .int .i64 20 ∧ ρ 7 = .int .i64 0 ∧ w' = w) ?_ ?_
  · repeat (with_reducible first | refine c_seq ?_ | refine c_block ?_ | refine c_skip ?_ | refine x_then ?_ | refine x_block ?_)
    refine c_loop (σ := Unit) (fun _ ρ w' => ρ 0 = v ∧ ρ 1 = .int .i64 0 ∧ ρ 2 = fv ∧ ρ 6 = .int .i64 20 ∧ ρ 7 = .int .i64 0 ∧ ρ 8 = .int .i64 20 ∧ w' = w) (fun _ => 0) () ⟨rfl, rfl, rfl, rfl, rfl, rfl, rfl⟩ ?_
    rintro _ ρ w2 ⟨h0, h1, h2, h6, h7, h8, rfl⟩
    repeat (with_reducible first | refine c_seq ?_ | refine c_block ?_ | refine c_skip ?_ | refine x_then ?_ | refine x_block ?_)
    refine c_reg ?_
    refine l_pure rfl (s_move  h8 ?_)
    refine l_pure rfl (s_move  h1 ?_)
    refine l_pure rfl (s_leq  rfl rfl ?_)
    refine l_nil ?_
    repeat (with_reducible first | refine c_seq ?_ | refine c_block ?_ | refine c_skip ?_ | refine x_then ?_ | refine x_block ?_)
    refine c_no rfl (decide_eq_false (by omega)) ?_
    repeat (with_reducible first | refine c_seq ?_ | refine c_block ?_ | refine c_skip ?_ | refine x_then ?_ | refine x_block ?_)
    refine c_exit ?_
    repeat (with_reducible first | refine x_then_exit ?_ | refine x_block_exit ?_ | refine x_block_pass rfl ?_)
    repeat (with_reducible first | refine c_seq ?_ | refine c_block ?_ | refine c_skip ?_ | refine x_then ?_ | refine x_block ?_)
    exact ⟨_, rfl, h0, h1, h2, h6, h7, rfl⟩
  rintro ρ w2 ⟨h0, h1, h2, h6, h7, rfl⟩
  repeat (with_reducible first | refine c_seq ?_ | refine c_block ?_ | refine c_skip ?_ | refine x_then ?_ | refine x_block ?_)
  refine c_reg ?_
  refine l_pure rfl (s_move  h0 ?_)
  refine l_pure rfl (s_move  h7 ?_)
  refine l_pure rfl (s_move  h1 ?_)
  refine l_pure rfl (s_move  h2 ?_)
  refine l_heavy rfl (s_call Tryz.call114 rfl (insertionSort_none v fv _) ?_)
  rintro r w3 ⟨rfl, rfl⟩
  refine l_nil ?_
  repeat (with_reducible first | refine c_seq ?_ | refine c_block ?_ | refine c_skip ?_ | refine x_then ?_ | refine x_block ?_)
  refine c_loop (σ := Unit) (fun _ ρ w' => ρ 1 = .int .i64 0 ∧ ρ 6 = .int .i64 20 ∧ w' = w3) (fun _ => 0) () ⟨h1, h6, rfl⟩ ?_
  rintro _ ρ w4 ⟨h1, h6, rfl⟩
  repeat (with_reducible first | refine c_seq ?_ | refine c_block ?_ | refine c_skip ?_ | refine x_then ?_ | refine x_block ?_)
  refine c_reg ?_
  refine l_pure rfl (s_move  h6 ?_)
  refine l_pure rfl (s_move  h1 ?_)
  refine l_pure rfl (s_lss  rfl rfl ?_)
  refine l_nil ?_
  repeat (with_reducible first | refine c_seq ?_ | refine c_block ?_ | refine c_skip ?_ | refine x_then ?_ | refine x_block ?_)
  refine c_no rfl (decide_eq_false (by omega)) ?_
  repeat (with_reducible first | refine c_seq ?_ | refine c_block ?_ | refine c_skip ?_ | refine x_then ?_ | refine x_block ?_)
  refine c_exit ?_
  repeat (with_reducible first | refine x_then_exit ?_ | refine x_block_exit ?_ | refine x_block_pass rfl ?_)
  repeat (with_reducible first | refine c_seq ?_ | refine c_block ?_ | refine c_skip ?_ | refine x_then ?_ | refine x_block ?_)
  exact r_none rfl ⟨rfl, rfl⟩
set_option maxHeartbeats 1000000 in
theorem stable_ok {f : FuncId} {cap : List Value} {c : Int → Int → Int} {w0 : World} {b : Nat} {t : TypeId} {H : List Blk} (L : List Int) (hc : CmpOk f cap c L w0 b t H) (sp : List Value) (n cp : Nat)
    (hn : L.length = n) (h20 : n ≤ 20) (w : World) (hS : St w0 w ((b, t, L.flatMap enI ++ sp) :: H)) :
    Ret Tryz.prog 93 #[.slice (some ⟨b, 0, none⟩) n cp, .int .i64 n, .func (.func f) #[] cap.toArray] w fun v w' => v = .tuple #[] ∧ St w0 w' ((b, t, (isort (ltC c) L).flatMap enI ++ sp) :: H) := by
  have hl := isort_len (ltC c) L
  refine enter Tryz.func93 rfl Tryz.ntmps93 rfl ?_
  repeat (with_reducible first | refine c_seq ?_ | refine c_block ?_ | refine c_skip ?_ | refine x_then ?_ | refine x_block ?_)
  refine c_reg ?_
  refine l_pure rfl (s_asg  rfl ?_)
  refine l_nil ?_
  repeat (with_reducible first | refine c_seq ?_ | refine c_block ?_ | refine c_skip ?_ | refine x_then ?_ | refine x_block ?_)
  refine c_reg ?_
  refine l_pure rfl (s_move  rfl ?_)
  refine l_pure rfl (s_asg  rfl ?_)
  refine l_pure rfl (s_asg  rfl ?_)
  refine l_nil ?_
  repeat (with_reducible first | refine c_seq ?_ | refine c_skip ?_ | refine x_then ?_ | refine x_block ?_)
  refine c_cut1 (fun ρ w' => ρ 0 = .slice (some ⟨b, 0, none⟩) n cp ∧ ρ 1 = .int .i64 n ∧ ρ 2 = .func (.func f) #[] cap.toArray ∧ ρ 6 = .int .i64 20 ∧ ((ρ 7 = .int .i64 0 ∧ St w0 w' ((b, t, L.flatMap enI ++ sp) :: H)) ∨ (ρ 7 = .int .i64 n ∧ St w0 w' ((b, t, (isort (ltC c) L).flatMap enI ++ sp) :: H)))) ?_ ?_
  · repeat (with_reducible first | refine c_seq ?_ | refine c_block ?_ | refine c_skip ?_ | refine x_then ?_ | refine x_block ?_)
    refine c_loop (σ := Nat) (fun d ρ w' => ρ 0 = .slice (some ⟨b, 0, none⟩) n cp ∧ ρ 1 = .int .i64 n ∧ ρ 2 = .func (.func f) #[] cap.toArray ∧ ρ 6 = .int .i64 20 ∧ d ≤ 1 ∧
        ((d = 0 ∧ ρ 7 = .int .i64 0 ∧ ρ 8 = .int .i64 20 ∧ St w0 w' ((b, t, L.flatMap enI ++ sp) :: H)) ∨ (d = 1 ∧ n = 20 ∧ ρ 7 = .int .i64 20 ∧ ρ 8 = .int .i64 40 ∧ St w0 w' ((b, t, (isort (ltC c) L).flatMap enI ++ sp) :: H)))) (fun d => 1 - d) 0
      ⟨rfl, rfl, rfl, rfl, by omega, .inl ⟨rfl, rfl, rfl, hS⟩⟩ ?_
    clear hS
    rintro d ρ w2 ⟨h0, h1, h2, h6, hd, ⟨rfl, h7, h8, hS⟩ | ⟨rfl, hn20, h7, h8, hS⟩⟩
    · repeat (with_reducible first | refine c_seq ?_ | refine c_block ?_ | refine c_skip ?_ | refine x_then ?_ | refine x_block ?_)
      repeat (with_reducible first | refine c_seq ?_ | refine c_block ?_ | refine c_skip ?_ | refine x_then ?_ | refine x_block ?_)
      refine c_reg ?_
      refine l_pure rfl (s_move  h8 ?_)
      refine l_pure rfl (s_move  h1 ?_)
      refine l_pure rfl (s_leq  rfl rfl ?_)
      refine l_nil ?_
      repeat (with_reducible first | refine c_seq ?_ | refine c_block ?_ | refine c_skip ?_ | refine x_then ?_ | refine x_block ?_)
      by_cases hlt : n = 20
      · refine c_yes rfl (decide_eq_true (by omega)) ?_
        repeat (with_reducible first | refine c_seq ?_ | refine c_block ?_ | refine c_skip ?_ | refine x_then ?_ | refine x_block ?_)
        subst hlt
        repeat (with_reducible first | refine c_seq ?_ | refine c_block ?_ | refine c_skip ?_ | refine x_then ?_ | refine x_block ?_)
        refine c_reg ?_
        refine l_pure rfl (s_move  h0 ?_)
        refine l_pure rfl (s_move  h7 ?_)
        refine l_pure rfl (s_move  h8 ?_)
        refine l_pure rfl (s_move  h2 ?_)
        have hS2 : St w0 w2 ((b, t, ([] ++ L ++ []).flatMap enI ++ sp) :: H) := by simpa using hS
        refine l_heavy rfl (s_call Tryz.call114 rfl (insertionSort_ok hc [] L [] sp 20 cp 0 20 (by simp [hn]) rfl (by simp [hn]) (fun _ h => h) (by omega) _ hS2) ?_)
        rintro r w3 ⟨rfl, hS3⟩
        replace hS3 : St w0 w3 ((b, t, (isort (ltC c) L).flatMap enI ++ sp) :: H) := by simpa using hS3
        clear hS hS2
        have hS := hS3
        refine l_nil ?_
        repeat (with_reducible first | refine c_seq ?_ | refine c_block ?_ | refine c_skip ?_ | refine x_then ?_ | refine x_block ?_)
        refine c_reg ?_
        refine l_pure rfl (s_move  h8 ?_)
        refine l_pure rfl (s_asg  rfl ?_)
        refine l_nil ?_
        repeat (with_reducible first | refine c_seq ?_ | refine c_block ?_ | refine c_skip ?_ | refine x_then ?_ | refine x_block ?_)
        refine c_reg ?_
        refine l_pure rfl (s_move  h8 ?_)
        refine l_pure rfl (s_move  h6 ?_)
        refine l_pure rfl (s_add  rfl rfl (IntWalk.i64_in _ (by omega)) ?_)
        refine l_pure rfl (s_asg  rfl ?_)
        refine l_nil ?_
        repeat (with_reducible first | refine c_seq ?_ | refine c_block ?_ | refine c_skip ?_ | refine x_then ?_ | refine x_block ?_)
        exact ⟨1, _, rfl, ⟨by assumption, by assumption, by assumption, by assumption, by omega, .inr ⟨rfl, rfl, rfl, vi rfl (by omega), hS⟩⟩, by omega⟩
      · refine c_no rfl (decide_eq_false (by omega)) ?_
        repeat (with_reducible first | refine c_seq ?_ | refine c_block ?_ | refine c_skip ?_ | refine x_then ?_ | refine x_block ?_)
        refine c_exit ?_
        repeat (with_reducible first | refine x_then_exit ?_ | refine x_block_exit ?_ | refine x_block_pass rfl ?_)
        repeat (with_reducible first | refine c_seq ?_ | refine c_block ?_ | refine c_skip ?_ | refine x_then ?_ | refine x_block ?_)
        exact ⟨_, rfl, by assumption, by assumption, by assumption, by assumption, .inl ⟨by assumption, hS⟩⟩
    · repeat (with_reducible first | refine c_seq ?_ | refine c_block ?_ | refine c_skip ?_ | refine x_then ?_ | refine x_block ?_)
      repeat (with_reducible first | refine c_seq ?_ | refine c_block ?_ | refine c_skip ?_ | refine x_then ?_ | refine x_block ?_)
      refine c_reg ?_
      refine l_pure rfl (s_move  h8 ?_)
      refine l_pure rfl (s_move  h1 ?_)
      refine l_pure rfl (s_leq  rfl rfl ?_)
      refine l_nil ?_
      repeat (with_reducible first | refine c_seq ?_ | refine c_block ?_ | refine c_skip ?_ | refine x_then ?_ | refine x_block ?_)
      refine c_no rfl (decide_eq_false (by omega)) ?_
      repeat (with_reducible first | refine c_seq ?_ | refine c_block ?_ | refine c_skip ?_ | refine x_then ?_ | refine x_block ?_)
      refine c_exit ?_
      repeat (with_reducible first | refine x_then_exit ?_ | refine x_block_exit ?_ | refine x_block_pass rfl ?_)
      repeat (with_reducible first | refine c_seq ?_ | refine c_block ?_ | refine c_skip ?_ | refine x_then ?_ | refine x_block ?_)
      exact ⟨_, rfl, by assumption, by assumption, by assumption, by assumption, .inr ⟨vi h7 (by omega), hS⟩⟩
  clear hS
  rintro ρ w2 ⟨h0, h1, h2, h6, h78⟩
  have key : ∃ k : Nat, ρ 7 = .int .i64 k ∧ Ret Tryz.prog 114 #[.slice (some ⟨b, 0, none⟩) n cp, .int .i64 k, .int .i64 n, .func (.func f) #[] cap.toArray] w2 fun v w' => v = .tuple #[] ∧ St w0 w' ((b, t, (isort (ltC c) L).flatMap enI ++ sp) :: H) := by
    rcases h78 with ⟨h7, hS⟩ | ⟨h7, hS⟩
    · refine ⟨0, h7, ?_⟩
      have hS2 : St w0 w2 ((b, t, ([] ++ L ++ []).flatMap enI ++ sp) :: H) := by simpa using hS
      refine (insertionSort_ok hc [] L [] sp n cp 0 n (by simp [hn]) rfl (by simp [hn]) (fun _ h => h) (by omega) _ hS2).mono ?_
      rintro v w' ⟨rfl, h⟩
      exact ⟨rfl, by simpa using h⟩
    · refine ⟨n, h7, ?_⟩
      have hS2 : St w0 w2 ((b, t, (isort (ltC c) L ++ [] ++ []).flatMap enI ++ sp) :: H) := by simpa using hS
      refine (insertionSort_ok hc (isort (ltC c) L) [] [] sp n cp n n (by simp [hl, hn]) (by rw [hl, hn]) (by simp [hl, hn]) (fun _ h => (by cases h)) (by omega) _ hS2).mono ?_
      rintro v w' ⟨rfl, h⟩
      exact ⟨rfl, by simpa [isort] using h⟩
  obtain ⟨k, h7, hret⟩ := key
  repeat (with_reducible first | refine c_seq ?_ | refine c_block ?_ | refine c_skip ?_ | refine x_then ?_ | refine x_block ?_)
  refine c_reg ?_
  refine l_pure rfl (s_move  h0 ?_)
  refine l_pure rfl (s_move  h7 ?_)
  refine l_pure rfl (s_move  h1 ?_)
  refine l_pure rfl (s_move  h2 ?_)
  refine l_heavy rfl (s_call Tryz.call114 rfl (hret) ?_)
  rintro r w3 ⟨rfl, hS⟩
  refine l_nil ?_
  repeat (with_reducible first | refine c_seq ?_ | refine c_block ?_ | refine c_skip ?_ | refine x_then ?_ | refine x_block ?_)
  refine c_loop (σ := Unit) (fun _ ρ w' => ρ 1 = .int .i64 n ∧ ρ 6 = .int .i64 20 ∧ w' = w3) (fun _ => 0) () ⟨h1, h6, rfl⟩ ?_
  rintro _ ρ w4 ⟨h1, h6, rfl⟩
  repeat (with_reducible first | refine c_seq ?_ | refine c_block ?_ | refine c_skip ?_ | refine x_then ?_ | refine x_block ?_)
  refine c_reg ?_
  refine l_pure rfl (s_move  h6 ?_)
  refine l_pure rfl (s_move  h1 ?_)
  refine l_pure rfl (s_lss  rfl rfl ?_)
  refine l_nil ?_
  repeat (with_reducible first | refine c_seq ?_ | refine c_block ?_ | refine c_skip ?_ | refine x_then ?_ | refine x_block ?_)
  refine c_no rfl (decide_eq_false (by omega)) ?_
  repeat (with_reducible first | refine c_seq ?_ | refine c_block ?_ | refine c_skip ?_ | refine x_then ?_ | refine x_block ?_)
  refine c_exit ?_
  repeat (with_reducible first | refine x_then_exit ?_ | refine x_block_exit ?_ | refine x_block_pass rfl ?_)
  repeat (with_reducible first | refine c_seq ?_ | refine c_block ?_ | refine c_skip ?_ | refine x_then ?_ | refine x_block ?_)
  exact r_none rfl ⟨rfl, hS⟩
theorem SortStable_ok {f : FuncId} {cap : List Value} {c : Int → Int → Int} {w0 : World} {b : Nat} {t : TypeId} {H : List Blk} (L : List Int) (hc : CmpOk f cap c L w0 b t H) (sp : List Value) (n cp : Nat)
    (hn : L.length = n) (h20 : n ≤ 20) (w : World) (hS : St w0 w ((b, t, L.flatMap enI ++ sp) :: H)) :
    Ret Tryz.prog 66 #[.slice (some ⟨b, 0, none⟩) n cp, .func (.func f) #[] cap.toArray] w fun v w' => v = .tuple #[] ∧ St w0 w' ((b, t, (isort (ltC c) L).flatMap enI ++ sp) :: H) := by
  refine enter Tryz.func66 rfl Tryz.ntmps66 rfl ?_
  repeat (with_reducible first | refine c_seq ?_ | refine c_block ?_ | refine c_skip ?_ | refine x_then ?_ | refine x_block ?_)
  refine c_reg ?_
  refine l_pure rfl (s_move  rfl ?_)
  refine l_pure rfl (s_move  rfl ?_)
  refine l_pure rfl (s_leno  rfl ⟨_, Tryz.underlying67⟩ ?_)
  refine l_pure rfl (s_move  rfl ?_)
  refine l_heavy rfl (s_call Tryz.call93 rfl (stable_ok L hc sp n cp hn h20 _ hS) ?_)
  rintro r w3 ⟨rfl, hS⟩
  refine l_nil ?_
  repeat (with_reducible first | refine c_seq ?_ | refine c_block ?_ | refine c_skip ?_ | refine x_then ?_ | refine x_block ?_)
  exact r_none rfl ⟨rfl, hS⟩
theorem SortStable_none (fv : Value) (w : World) : Ret Tryz.prog 66 #[.slice none 0 0, fv] w fun r w' => r = .tuple #[] ∧ w' = w := by
  refine enter Tryz.func66 rfl Tryz.ntmps66 rfl ?_
  repeat (with_reducible first | refine c_seq ?_ | refine c_block ?_ | refine c_skip ?_ | refine x_then ?_ | refine x_block ?_)
  refine c_reg ?_
  refine l_pure rfl (s_move  rfl ?_)
  refine l_pure rfl (s_move  rfl ?_)
  refine l_pure rfl (s_leno  rfl ⟨_, Tryz.underlying67⟩ ?_)
  refine l_pure rfl (s_move  rfl ?_)
  refine l_heavy rfl (s_call Tryz.call93 rfl (stable_none _ _ _) ?_)
  rintro r w3 ⟨rfl, rfl⟩
  refine l_nil ?_
  repeat (with_reducible first | refine c_seq ?_ | refine c_block ?_ | refine c_skip ?_ | refine x_then ?_ | refine x_block ?_)
  exact r_none rfl ⟨rfl, rfl⟩
/-- Of a slice that was grown by append. -/
theorem SortStable_gl {f : FuncId} {cap : List Value} {c : Int → Int → Int} {w0 : World} {t : TypeId} {H LB : List Blk} {v : Value} {L : List Int} (hc : ∀ b, CmpOk f cap c L w0 b t H) (hG : Gl enI t 1 v L LB) (h20 : L.length ≤ 20) (w : World) (hS : St w0 w (H ++ LB)) :
    Ret Tryz.prog 66 #[v, .func (.func f) #[] cap.toArray] w fun r w' => r = .tuple #[] ∧ ∃ LB', Gl enI t 1 v (isort (ltC c) L) LB' ∧ St w0 w' (H ++ LB') := by
  have hl := isort_len (ltC c) L
  obtain ⟨hX, ⟨rfl, h0, rfl⟩ | ⟨b, cp, sp, rfl, rfl, h1, h2, h3⟩⟩ := hG
  · refine (SortStable_none _ w).mono ?_
    rintro r w' ⟨rfl, rfl⟩
    obtain rfl : L = [] := List.eq_nil_of_length_eq_zero h0
    exact ⟨rfl, [], Gl.nil _ _ _, hS⟩
  · refine (SortStable_ok L (hc b) sp L.length cp rfl h20 w (hS.perm List.perm_append_comm)).mono ?_
    rintro r w' ⟨rfl, hS'⟩
    refine ⟨rfl, [(b, t, (isort (ltC c) L).flatMap enI ++ sp)], ⟨?_, .inr ⟨b, cp, sp, ?_, rfl, by rw [hl]; exact h1, h2, ?_⟩⟩, hS'.perm (List.perm_append_comm (l₁ := [_]))⟩
    · rw [flat_len enI_len]
    · rw [hl]
    · rw [List.length_append, flat_len enI_len] at h3
      rw [List.length_append, flat_len enI_len, hl]
      exact h3
end Go.Proofs.YtdafaibhiobpaaaGreatDoor
namespace Go.Proofs.YtdafaibhiobpaaaGreatDoor
open Go Go.RowKit Go.Sx
structure Ob where
  deb : Int
  cre : Int
  amt : RR
  inc : Int
  acq : Int
  cont : Bool
def encOb (o : Ob) : List Value := [.int .i64 o.deb, .int .i64 o.cre, .bool o.amt.neg, .string o.amt.num, .string o.amt.den, .int .i64 o.inc, .int .i64 o.acq, .bool o.cont]
def aggOb (o : Ob) : Value := .agg #[.int .i64 o.deb, .int .i64 o.cre, .bool o.amt.neg, .string o.amt.num, .string o.amt.den, .int .i64 o.inc, .int .i64 o.acq, .bool o.cont]
theorem encOb_len : ∀ o, (encOb o).length = 8 := fun _ => rfl
def zOb : Ob := ⟨0, 0, zRR, 0, 0, false⟩
def isDay (d : Int) : Bool := decide (0 ≤ d ∧ d ≤ 1048576)
def pairB (n a b : Int) : Bool := decide (0 ≤ a ∧ a < n ∧ 0 ≤ b ∧ b < n ∧ a ≠ b)
def obErr (n : Int) (o : Ob) : Int := if pairB n o.deb o.cre = false then 14 else if toQ o.amt < 0 then 7 else if isDay o.inc = false ∨ isDay o.acq = false then 1 else if o.acq < o.inc then 15 else 0
def obsE (n : Int) (l : List Ob) : Int := if n < 0 ∨ 32 < n then 1 else if 64 < l.length then 2 else firstE (obErr n) l
def chkE (n : Int) (l : List Ob) (c s : Int) : Int := if obsE n l ≠ 0 then obsE n l else if isDay c = false ∨ isDay s = false then 1 else 0
def eligB (o : Ob) (c s : Int) : Bool := isDay c && isDay s && !o.cont && decide (o.inc ≤ c) && (decide (o.acq = o.inc) || decide (o.acq < c - s))
def ObB (k : Nat) (l : List Ob) : Prop := ∀ o ∈ l, Lr o.amt ≤ k
def gO (l : List Ob) (i : Nat) : Ob := l.getD i zOb
def goes (l : List Ob) (c s a b : Int) (i : Nat) : Bool := decide ((gO l i).deb = a) && decide ((gO l i).cre = b) && eligB (gO l i) c s
def selL (l : List Ob) (c s a b : Int) (n : Nat) : List Nat := (List.range n).filter (goes l c s a b)
theorem selL_succ (l : List Ob) (c s a b : Int) (n : Nat) : selL l c s a b (n + 1) = if goes l c s a b n = true then selL l c s a b n ++ [n] else selL l c s a b n := by
  unfold selL
  rw [List.range_succ, List.filter_append]
  cases h : goes l c s a b n with
  | true => simp [h]
  | false => simp [h]
theorem selL_len (l : List Ob) (c s a b : Int) (n : Nat) : (selL l c s a b n).length ≤ n := by
  unfold selL
  have h := List.length_filter_le (goes l c s a b) (List.range n)
  rwa [List.length_range] at h
theorem selL_mem {l : List Ob} {c s a b : Int} {n i : Nat} : i ∈ selL l c s a b n ↔ i < n ∧ goes l c s a b i = true := by
  unfold selL
  rw [List.mem_filter, List.mem_range]
def older (l : List Ob) (i k : Nat) : Bool := decide ((gO l i).inc < (gO l k).inc)
/-- The eligible obligations of a to b in the order in which they are set off. -/
def ordL (l : List Ob) (c s a b : Int) : List Nat := isort (older l) (selL l c s a b l.length)
theorem ordL_mem {l : List Ob} {c s a b : Int} {i : Nat} : i ∈ ordL l c s a b ↔ i < l.length ∧ goes l c s a b i = true := by
  unfold ordL
  rw [(isort_perm _ _).mem_iff, selL_mem]
theorem ordL_nodup (l : List Ob) (c s a b : Int) : (ordL l c s a b).Nodup := by
  unfold ordL
  rw [(isort_perm _ _).nodup_iff]
  exact List.Nodup.sublist List.filter_sublist List.nodup_range
/-- i goes ahead of k. -/
def ahead (l : List Ob) (i k : Nat) : Prop := (gO l i).inc < (gO l k).inc ∨ ((gO l i).inc = (gO l k).inc ∧ i < k)
theorem ordL_sorted (l : List Ob) (c s a b : Int) : (ordL l c s a b).Pairwise (ahead l) := by
  have h := isort_sorted (lt := older l) (L := selL l c s a b l.length) (R := fun i k => i < k)
    (fun i k h => by unfold older at h ⊢; have := of_decide_eq_true h; exact decide_eq_false (by omega))
    (fun i k m h1 h2 => by unfold older at h1 h2 ⊢; have := of_decide_eq_false h1; have := of_decide_eq_false h2; exact decide_eq_false (by omega))
    (List.Pairwise.sublist List.filter_sublist List.pairwise_lt_range)
  refine h.imp ?_
  rintro i k ⟨h1, h2⟩
  unfold older at h1 h2
  have h1' := of_decide_eq_false h1
  by_cases g : (gO l i).inc < (gO l k).inc
  · exact .inl g
  · exact .inr ⟨by omega, h2 (decide_eq_false g)⟩
structure RS where
  rest : Nat → Rat
  amt : Rat
def rstp (s : RS) (i : Nat) : RS := ⟨fun k => if k = i then s.rest i - minQ (s.rest i) s.amt else s.rest k, s.amt - minQ (s.rest i) s.amt⟩
def redu (s : RS) (idx : List Nat) : RS := idx.foldl rstp s
theorem redu_snoc (s : RS) (idx : List Nat) (i : Nat) : redu s (idx ++ [i]) = rstp (redu s idx) i := by unfold redu; rw [List.foldl_append]; rfl
theorem redu_off {idx : List Nat} {i : Nat} (h : i ∉ idx) (s : RS) : (redu s idx).rest i = s.rest i := by
  unfold redu
  induction idx generalizing s with
  | nil => rfl
  | cons k idx ih =>
    rw [List.foldl_cons, ih (fun g => h (List.mem_cons_of_mem _ g))]
    show (if i = k then _ else _) = _
    rw [if_neg (fun g => h (by rw [g]; exact List.mem_cons_self ..))]
theorem redu_congr {idx : List Nat} {s t : RS} (h : ∀ i ∈ idx, s.rest i = t.rest i) (ha : s.amt = t.amt) : (∀ i ∈ idx, (redu s idx).rest i = (redu t idx).rest i) ∧ (redu s idx).amt = (redu t idx).amt := by
  unfold redu
  have key : ∀ (idx : List Nat) (s t : RS) (A : Nat → Prop), (∀ i ∈ idx, A i) → (∀ i, A i → s.rest i = t.rest i) → s.amt = t.amt → (∀ i, A i → (idx.foldl rstp s).rest i = (idx.foldl rstp t).rest i) ∧ (idx.foldl rstp s).amt = (idx.foldl rstp t).amt := by
    intro idx
    induction idx with
    | nil => intro s t A _ h1 h2; exact ⟨h1, h2⟩
    | cons k idx ih =>
      intro s t A hA h1 h2
      rw [List.foldl_cons, List.foldl_cons]
      have hk := h1 k (hA k (List.mem_cons_self ..))
      refine ih _ _ A (fun i hi => hA i (List.mem_cons_of_mem _ hi)) (fun i hi => ?_) ?_
      · show (if i = k then s.rest k - minQ (s.rest k) s.amt else s.rest i) = (if i = k then t.rest k - minQ (t.rest k) t.amt else t.rest i)
        rw [hk, h2, h1 i hi]
      · show s.amt - minQ (s.rest k) s.amt = t.amt - minQ (t.rest k) t.amt
        rw [hk, h2]
  have := key idx s t (fun i => i ∈ idx) (fun _ h => h) h ha
  exact this
def oQ (l : List Ob) (i : Nat) : Rat := toQ (gO l i).amt
def totS (f : Nat → Rat) (idx : List Nat) : Rat := sumQ (idx.map f)
/-- What is set off between a and b. -/
def mQ (l : List Ob) (c s a b : Int) : Rat := minQ (totS (oQ l) (ordL l c s a b)) (totS (oQ l) (ordL l c s b a))
/-- What is left of an obligation. -/
def finQ (l : List Ob) (c s : Int) (i : Nat) : Rat := (redu ⟨oQ l, mQ l c s (gO l i).deb (gO l i).cre⟩ (ordL l c s (gO l i).deb (gO l i).cre)).rest i
theorem minQ_comm' (p q : Rat) : minQ p q = minQ q p := by unfold minQ; split <;> split <;> grind
theorem mQ_comm (l : List Ob) (c s a b : Int) : mQ l c s a b = mQ l c s b a := minQ_comm' _ _
theorem finQ_off {l : List Ob} {c s : Int} {i : Nat} (h : eligB (gO l i) c s = false) : finQ l c s i = oQ l i := by
  unfold finQ
  rw [redu_off]
  intro g
  have := (ordL_mem.1 g).2
  unfold goes at this
  rw [h] at this
  simp at this
theorem sumQ_cons (q : Rat) (l : List Rat) : sumQ (q :: l) = q + sumQ l := by
  have key : ∀ (l : List Rat) (a : Rat), l.foldl (· + ·) a = a + sumQ l := by
    intro l
    induction l with
    | nil => intro a; show a = a + 0; grind
    | cons x l ih =>
      intro a
      rw [List.foldl_cons, ih]
      unfold sumQ
      rw [List.foldl_cons, ih]
      grind
  show l.foldl (· + ·) (0 + q) = _
  rw [key]; grind
theorem sumQ_perm {l m : List Rat} (h : l.Perm m) : sumQ l = sumQ m := by
  induction h with
  | nil => rfl
  | cons x _ ih => rw [sumQ_cons, sumQ_cons, ih]
  | swap x y l => rw [sumQ_cons, sumQ_cons, sumQ_cons, sumQ_cons]; grind
  | trans _ _ ih1 ih2 => rw [ih1, ih2]
theorem sumQ_nonneg {l : List Rat} (h : ∀ q ∈ l, 0 ≤ q) : 0 ≤ sumQ l := by
  induction l with
  | nil => exact Rat.le_refl
  | cons q l ih =>
    rw [sumQ_cons]
    have h1 := ih fun x hx => h x (List.mem_cons_of_mem _ hx)
    have h2 := h q (List.mem_cons_self ..)
    grind
theorem redu_cons (s : RS) (i : Nat) (idx : List Nat) : redu s (i :: idx) = redu (rstp s i) idx := rfl
/-- What a reduction does: nothing falls below 0 or rises; what is taken off in all is the amount, or all that there is. -/
theorem redu_facts {idx : List Nat} (hnd : idx.Nodup) {s : RS} (h0 : ∀ i ∈ idx, 0 ≤ s.rest i) (ha : 0 ≤ s.amt) :
    (∀ i ∈ idx, 0 ≤ (redu s idx).rest i ∧ (redu s idx).rest i ≤ s.rest i) ∧ 0 ≤ (redu s idx).amt ∧ totS s.rest idx - totS (redu s idx).rest idx = s.amt - (redu s idx).amt ∧ (0 < (redu s idx).amt → ∀ i ∈ idx, (redu s idx).rest i = 0) := by
  induction idx generalizing s with
  | nil => refine ⟨fun i hi => (by cases hi), ha, ?_, fun _ i hi => (by cases hi)⟩
           show (0 : Rat) - 0 = s.amt - s.amt
           grind
  | cons k idx ih =>
    obtain ⟨hk, hnd'⟩ := List.nodup_cons.1 hnd
    have hk0 := h0 k (List.mem_cons_self ..)
    have e1 : ∀ i ∈ idx, (rstp s k).rest i = s.rest i := fun i hi => by
      show (if i = k then _ else _) = _
      rw [if_neg (fun g => hk (by rw [← g]; exact hi))]
    have ek : (rstp s k).rest k = s.rest k - minQ (s.rest k) s.amt := by
      show (if k = k then _ else _) = _
      rw [if_pos rfl]
    have ea : (rstp s k).amt = s.amt - minQ (s.rest k) s.amt := rfl
    have hm : minQ (s.rest k) s.amt ≤ s.rest k ∧ minQ (s.rest k) s.amt ≤ s.amt ∧ 0 ≤ minQ (s.rest k) s.amt ∧ (minQ (s.rest k) s.amt = s.rest k ∨ minQ (s.rest k) s.amt = s.amt) := by
      unfold minQ; split <;> grind
    obtain ⟨g1, g2, g3, g4⟩ := ih hnd' (s := rstp s k) (fun i hi => by rw [e1 i hi]; exact h0 i (List.mem_cons_of_mem _ hi)) (by rw [ea]; grind)
    rw [redu_cons]
    have ek2 : (redu (rstp s k) idx).rest k = s.rest k - minQ (s.rest k) s.amt := by rw [redu_off hk, ek]
    have et : totS (rstp s k).rest idx = totS s.rest idx := by
      unfold totS
      rw [List.map_congr_left e1]
    refine ⟨fun i hi => ?_, g2, ?_, fun hpos i hi => ?_⟩
    · rcases List.mem_cons.1 hi with rfl | hi
      · rw [ek2]; grind
      · have := g1 i hi
        rw [e1 i hi] at this
        exact this
    · unfold totS at g3 et ⊢
      rw [List.map_cons, List.map_cons, sumQ_cons, sumQ_cons, ek2]
      rw [et, ea] at g3
      grind
    · rcases List.mem_cons.1 hi with rfl | hi
      · rw [ek2]
        rcases hm.2.2.2 with e | e
        · rw [e]; grind
        · exfalso
          rw [ea, e] at g3
          have h1 := g3
          have h5 : totS (redu (rstp s i) idx).rest idx ≤ totS (rstp s i).rest idx := by
            unfold totS
            clear ih g2 g3 g4 h1
            have : ∀ (J : List Nat), (∀ j ∈ J, (redu (rstp s i) idx).rest j ≤ (rstp s i).rest j) → sumQ (J.map (redu (rstp s i) idx).rest) ≤ sumQ (J.map (rstp s i).rest) := by
              intro J
              induction J with
              | nil => intro _; exact Rat.le_refl
              | cons j J ih =>
                intro h
                rw [List.map_cons, List.map_cons, sumQ_cons, sumQ_cons]
                have h1 := ih fun x hx => h x (List.mem_cons_of_mem _ hx)
                have h2 := h j (List.mem_cons_self ..)
                grind
            exact this idx fun j hj => (g1 j hj).2
          grind
      · exact g4 hpos i hi
theorem L_sumQ' {l : List Rat} {K : Nat} (h : ∀ q ∈ l, L q ≤ K) (k : Nat) : L (sumQ (l.take k)) ≤ k * (K + 1) + 1 := by
  induction k with
  | zero => rw [List.take_zero]; show L 0 ≤ _; rw [L_zero]; omega
  | succ k ih =>
    by_cases hk : k < l.length
    · rw [take_succ' l k 0 hk, sumQ_snoc]
      have h1 := L_add (sumQ (l.take k)) (l.getD k 0)
      have h2 := h _ (getD_mem l k 0 hk)
      rw [Nat.add_mul]; omega
    · rw [List.take_of_length_le (by omega)]
      rw [List.take_of_length_le (by omega)] at ih
      rw [Nat.add_mul]; omega
end Go.Proofs.YtdafaibhiobpaaaGreatDoor
namespace Go.Proofs.YtdafaibhiobpaaaGreatDoor
open Go Go.RowKit Go.Sx
theorem isDay_ok (d : Int) (w : World) : Ret Tryz.prog 64 #[.int .i64 d] w fun v w' => v = .bool (isDay d) ∧ w' = w := by
  refine enter Tryz.func64 rfl Tryz.ntmps64 rfl ?_
  repeat (with_reducible first | refine c_seq ?_ | refine c_block ?_ | refine c_skip ?_ | refine x_then ?_ | refine x_block ?_)
  refine c_reg ?_
  refine l_pure rfl (s_asg  rfl ?_)
  refine l_nil ?_
  repeat (with_reducible first | refine c_seq ?_ | refine c_block ?_ | refine c_skip ?_ | refine x_then ?_ | refine x_block ?_)
  by_cases h : 0 ≤ d
  · repeat (with_reducible first | refine c_seq ?_ | refine c_block ?_ | refine c_skip ?_ | refine x_then ?_ | refine x_block ?_)
    refine c_reg ?_
    refine l_pure rfl (s_move  rfl ?_)
    refine l_pure rfl (s_geq  rfl rfl ?_)
    refine l_pure rfl (s_move  rfl ?_)
    refine l_pure (gd_yes 5 (by kernel_rfl) rfl (decide_eq_true h)) (s_move  rfl ?_)
    refine l_pure (gd_yes 5 (by kernel_rfl) rfl (decide_eq_true h)) (s_leq  rfl rfl ?_)
    refine l_pure rfl (s_pick (vb rfl (decide_eq_true h)) rfl ?_)
    refine l_pure rfl (s_asg  rfl ?_)
    refine l_nil ?_
    repeat (with_reducible first | refine c_seq ?_ | refine c_block ?_ | refine c_skip ?_ | refine x_then ?_ | refine x_block ?_)
    refine c_ret ?_
    repeat (with_reducible first | refine x_then_ret ?_ | refine x_block_ret ?_)
    refine r_one rfl rfl ?_
    exact ⟨vb rfl (by unfold isDay; simp [h]), rfl⟩
  · repeat (with_reducible first | refine c_seq ?_ | refine c_block ?_ | refine c_skip ?_ | refine x_then ?_ | refine x_block ?_)
    refine c_reg ?_
    refine l_pure rfl (s_move  rfl ?_)
    refine l_pure rfl (s_geq  rfl rfl ?_)
    refine l_pure rfl (s_move  rfl ?_)
    refine l_no (gno_yes 5 (by kernel_rfl) rfl (decide_eq_false h)) ?_
    refine l_no (gno_yes 5 (by kernel_rfl) rfl (decide_eq_false h)) ?_
    refine l_pure rfl (s_pick (vb rfl (decide_eq_false h)) rfl ?_)
    refine l_pure rfl (s_asg  rfl ?_)
    refine l_nil ?_
    repeat (with_reducible first | refine c_seq ?_ | refine c_block ?_ | refine c_skip ?_ | refine x_then ?_ | refine x_block ?_)
    refine c_ret ?_
    repeat (with_reducible first | refine x_then_ret ?_ | refine x_block_ret ?_)
    refine r_one rfl rfl ?_
    exact ⟨vb rfl (by unfold isDay; simp [h]), rfl⟩
theorem pair_ok (n a b : Int) (w : World) : Ret Tryz.prog 43 #[.int .i64 n, .int .i64 a, .int .i64 b] w fun v w' => v = .bool (pairB n a b) ∧ w' = w := by
  refine enter Tryz.func43 rfl Tryz.ntmps43 rfl ?_
  repeat (with_reducible first | refine c_seq ?_ | refine c_block ?_ | refine c_skip ?_ | refine x_then ?_ | refine x_block ?_)
  refine c_reg ?_
  refine l_pure rfl (s_asg  rfl ?_)
  refine l_nil ?_
  repeat (with_reducible first | refine c_seq ?_ | refine c_block ?_ | refine c_skip ?_ | refine x_then ?_ | refine x_block ?_)
  by_cases h1 : 0 ≤ a
  case neg =>
    repeat (with_reducible first | refine c_seq ?_ | refine c_block ?_ | refine c_skip ?_ | refine x_then ?_ | refine x_block ?_)
    refine c_reg ?_
    refine l_pure rfl (s_move  rfl ?_)
    refine l_pure rfl (s_geq  rfl rfl ?_)
    refine l_pure rfl (s_move  rfl ?_)
    refine l_no (gno_yes 9 (by kernel_rfl) rfl (decide_eq_false h1)) ?_
    refine l_no (gno_yes 9 (by kernel_rfl) rfl (decide_eq_false h1)) ?_
    refine l_no (gno_yes 9 (by kernel_rfl) rfl (decide_eq_false h1)) ?_
    refine l_pure rfl (s_pick (vb rfl (decide_eq_false h1)) rfl ?_)
    refine l_pure rfl (s_move  rfl ?_)
    refine l_no (gno_yes 14 (by kernel_rfl) rfl rfl) ?_
    refine l_no (gno_yes 14 (by kernel_rfl) rfl rfl) ?_
    refine l_pure rfl (s_pick (vb rfl rfl) rfl ?_)
    refine l_pure rfl (s_move  rfl ?_)
    refine l_no (gno_yes 18 (by kernel_rfl) rfl rfl) ?_
    refine l_no (gno_yes 18 (by kernel_rfl) rfl rfl) ?_
    refine l_no (gno_yes 18 (by kernel_rfl) rfl rfl) ?_
    refine l_pure rfl (s_pick (vb rfl rfl) rfl ?_)
    refine l_pure rfl (s_move  rfl ?_)
    refine l_no (gno_yes 23 (by kernel_rfl) rfl rfl) ?_
    refine l_no (gno_yes 23 (by kernel_rfl) rfl rfl) ?_
    refine l_no (gno_yes 23 (by kernel_rfl) rfl rfl) ?_
    refine l_pure rfl (s_pick (vb rfl rfl) rfl ?_)
    refine l_pure rfl (s_asg  rfl ?_)
    refine l_nil ?_
    repeat (with_reducible first | refine c_seq ?_ | refine c_block ?_ | refine c_skip ?_ | refine x_then ?_ | refine x_block ?_)
    refine c_ret ?_
    repeat (with_reducible first | refine x_then_ret ?_ | refine x_block_ret ?_)
    refine r_one rfl rfl ?_
    exact ⟨vb rfl (by unfold pairB; simp [h1]), rfl⟩
  by_cases h2 : a < n
  case neg =>
    repeat (with_reducible first | refine c_seq ?_ | refine c_block ?_ | refine c_skip ?_ | refine x_then ?_ | refine x_block ?_)
    refine c_reg ?_
    refine l_pure rfl (s_move  rfl ?_)
    refine l_pure rfl (s_geq  rfl rfl ?_)
    refine l_pure rfl (s_move  rfl ?_)
    refine l_pure (gd_yes 9 (by kernel_rfl) rfl (decide_eq_true h1)) (s_move  rfl ?_)
    refine l_pure (gd_yes 9 (by kernel_rfl) rfl (decide_eq_true h1)) (s_move  rfl ?_)
    refine l_pure (gd_yes 9 (by kernel_rfl) rfl (decide_eq_true h1)) (s_lss  rfl rfl ?_)
    refine l_pure rfl (s_pick (vb rfl (decide_eq_true h1)) rfl ?_)
    refine l_pure rfl (s_move  rfl ?_)
    refine l_no (gno_yes 14 (by kernel_rfl) rfl (decide_eq_false h2)) ?_
    refine l_no (gno_yes 14 (by kernel_rfl) rfl (decide_eq_false h2)) ?_
    refine l_pure rfl (s_pick (vb rfl (decide_eq_false h2)) rfl ?_)
    refine l_pure rfl (s_move  rfl ?_)
    refine l_no (gno_yes 18 (by kernel_rfl) rfl rfl) ?_
    refine l_no (gno_yes 18 (by kernel_rfl) rfl rfl) ?_
    refine l_no (gno_yes 18 (by kernel_rfl) rfl rfl) ?_
    refine l_pure rfl (s_pick (vb rfl rfl) rfl ?_)
    refine l_pure rfl (s_move  rfl ?_)
    refine l_no (gno_yes 23 (by kernel_rfl) rfl rfl) ?_
    refine l_no (gno_yes 23 (by kernel_rfl) rfl rfl) ?_
    refine l_no (gno_yes 23 (by kernel_rfl) rfl rfl) ?_
    refine l_pure rfl (s_pick (vb rfl rfl) rfl ?_)
    refine l_pure rfl (s_asg  rfl ?_)
    refine l_nil ?_
    repeat (with_reducible first | refine c_seq ?_ | refine c_block ?_ | refine c_skip ?_ | refine x_then ?_ | refine x_block ?_)
    refine c_ret ?_
    repeat (with_reducible first | refine x_then_ret ?_ | refine x_block_ret ?_)
    refine r_one rfl rfl ?_
    exact ⟨vb rfl (by unfold pairB; simp [h2]), rfl⟩
  by_cases h3 : 0 ≤ b
  case neg =>
    repeat (with_reducible first | refine c_seq ?_ | refine c_block ?_ | refine c_skip ?_ | refine x_then ?_ | refine x_block ?_)
    refine c_reg ?_
    refine l_pure rfl (s_move  rfl ?_)
    refine l_pure rfl (s_geq  rfl rfl ?_)
    refine l_pure rfl (s_move  rfl ?_)
    refine l_pure (gd_yes 9 (by kernel_rfl) rfl (decide_eq_true h1)) (s_move  rfl ?_)
    refine l_pure (gd_yes 9 (by kernel_rfl) rfl (decide_eq_true h1)) (s_move  rfl ?_)
    refine l_pure (gd_yes 9 (by kernel_rfl) rfl (decide_eq_true h1)) (s_lss  rfl rfl ?_)
    refine l_pure rfl (s_pick (vb rfl (decide_eq_true h1)) rfl ?_)
    refine l_pure rfl (s_move  rfl ?_)
    refine l_pure (gd_yes 14 (by kernel_rfl) rfl (decide_eq_true h2)) (s_move  rfl ?_)
    refine l_pure (gd_yes 14 (by kernel_rfl) rfl (decide_eq_true h2)) (s_geq  rfl rfl ?_)
    refine l_pure rfl (s_pick (vb rfl (decide_eq_true h2)) rfl ?_)
    refine l_pure rfl (s_move  rfl ?_)
    refine l_no (gno_yes 18 (by kernel_rfl) rfl (decide_eq_false h3)) ?_
    refine l_no (gno_yes 18 (by kernel_rfl) rfl (decide_eq_false h3)) ?_
    refine l_no (gno_yes 18 (by kernel_rfl) rfl (decide_eq_false h3)) ?_
    refine l_pure rfl (s_pick (vb rfl (decide_eq_false h3)) rfl ?_)
    refine l_pure rfl (s_move  rfl ?_)
    refine l_no (gno_yes 23 (by kernel_rfl) rfl rfl) ?_
    refine l_no (gno_yes 23 (by kernel_rfl) rfl rfl) ?_
    refine l_no (gno_yes 23 (by kernel_rfl) rfl rfl) ?_
    refine l_pure rfl (s_pick (vb rfl rfl) rfl ?_)
    refine l_pure rfl (s_asg  rfl ?_)
    refine l_nil ?_
    repeat (with_reducible first | refine c_seq ?_ | refine c_block ?_ | refine c_skip ?_ | refine x_then ?_ | refine x_block ?_)
    refine c_ret ?_
    repeat (with_reducible first | refine x_then_ret ?_ | refine x_block_ret ?_)
    refine r_one rfl rfl ?_
    exact ⟨vb rfl (by unfold pairB; simp [h3]), rfl⟩
  by_cases h4 : b < n
  case neg =>
    repeat (with_reducible first | refine c_seq ?_ | refine c_block ?_ | refine c_skip ?_ | refine x_then ?_ | refine x_block ?_)
    refine c_reg ?_
    refine l_pure rfl (s_move  rfl ?_)
    refine l_pure rfl (s_geq  rfl rfl ?_)
    refine l_pure rfl (s_move  rfl ?_)
    refine l_pure (gd_yes 9 (by kernel_rfl) rfl (decide_eq_true h1)) (s_move  rfl ?_)
    refine l_pure (gd_yes 9 (by kernel_rfl) rfl (decide_eq_true h1)) (s_move  rfl ?_)
    refine l_pure (gd_yes 9 (by kernel_rfl) rfl (decide_eq_true h1)) (s_lss  rfl rfl ?_)
    refine l_pure rfl (s_pick (vb rfl (decide_eq_true h1)) rfl ?_)
    refine l_pure rfl (s_move  rfl ?_)
    refine l_pure (gd_yes 14 (by kernel_rfl) rfl (decide_eq_true h2)) (s_move  rfl ?_)
    refine l_pure (gd_yes 14 (by kernel_rfl) rfl (decide_eq_true h2)) (s_geq  rfl rfl ?_)
    refine l_pure rfl (s_pick (vb rfl (decide_eq_true h2)) rfl ?_)
    refine l_pure rfl (s_move  rfl ?_)
    refine l_pure (gd_yes 18 (by kernel_rfl) rfl (decide_eq_true h3)) (s_move  rfl ?_)
    refine l_pure (gd_yes 18 (by kernel_rfl) rfl (decide_eq_true h3)) (s_move  rfl ?_)
    refine l_pure (gd_yes 18 (by kernel_rfl) rfl (decide_eq_true h3)) (s_lss  rfl rfl ?_)
    refine l_pure rfl (s_pick (vb rfl (decide_eq_true h3)) rfl ?_)
    refine l_pure rfl (s_move  rfl ?_)
    refine l_no (gno_yes 23 (by kernel_rfl) rfl (decide_eq_false h4)) ?_
    refine l_no (gno_yes 23 (by kernel_rfl) rfl (decide_eq_false h4)) ?_
    refine l_no (gno_yes 23 (by kernel_rfl) rfl (decide_eq_false h4)) ?_
    refine l_pure rfl (s_pick (vb rfl (decide_eq_false h4)) rfl ?_)
    refine l_pure rfl (s_asg  rfl ?_)
    refine l_nil ?_
    repeat (with_reducible first | refine c_seq ?_ | refine c_block ?_ | refine c_skip ?_ | refine x_then ?_ | refine x_block ?_)
    refine c_ret ?_
    repeat (with_reducible first | refine x_then_ret ?_ | refine x_block_ret ?_)
    refine r_one rfl rfl ?_
    exact ⟨vb rfl (by unfold pairB; simp [h4]), rfl⟩
  repeat (with_reducible first | refine c_seq ?_ | refine c_block ?_ | refine c_skip ?_ | refine x_then ?_ | refine x_block ?_)
  refine c_reg ?_
  refine l_pure rfl (s_move  rfl ?_)
  refine l_pure rfl (s_geq  rfl rfl ?_)
  refine l_pure rfl (s_move  rfl ?_)
  refine l_pure (gd_yes 9 (by kernel_rfl) rfl (decide_eq_true h1)) (s_move  rfl ?_)
  refine l_pure (gd_yes 9 (by kernel_rfl) rfl (decide_eq_true h1)) (s_move  rfl ?_)
  refine l_pure (gd_yes 9 (by kernel_rfl) rfl (decide_eq_true h1)) (s_lss  rfl rfl ?_)
  refine l_pure rfl (s_pick (vb rfl (decide_eq_true h1)) rfl ?_)
  refine l_pure rfl (s_move  rfl ?_)
  refine l_pure (gd_yes 14 (by kernel_rfl) rfl (decide_eq_true h2)) (s_move  rfl ?_)
  refine l_pure (gd_yes 14 (by kernel_rfl) rfl (decide_eq_true h2)) (s_geq  rfl rfl ?_)
  refine l_pure rfl (s_pick (vb rfl (decide_eq_true h2)) rfl ?_)
  refine l_pure rfl (s_move  rfl ?_)
  refine l_pure (gd_yes 18 (by kernel_rfl) rfl (decide_eq_true h3)) (s_move  rfl ?_)
  refine l_pure (gd_yes 18 (by kernel_rfl) rfl (decide_eq_true h3)) (s_move  rfl ?_)
  refine l_pure (gd_yes 18 (by kernel_rfl) rfl (decide_eq_true h3)) (s_lss  rfl rfl ?_)
  refine l_pure rfl (s_pick (vb rfl (decide_eq_true h3)) rfl ?_)
  refine l_pure rfl (s_move  rfl ?_)
  refine l_pure (gd_yes 23 (by kernel_rfl) rfl (decide_eq_true h4)) (s_move  rfl ?_)
  refine l_pure (gd_yes 23 (by kernel_rfl) rfl (decide_eq_true h4)) (s_move  rfl ?_)
  refine l_pure (gd_yes 23 (by kernel_rfl) rfl (decide_eq_true h4)) (s_neq  rfl rfl ?_)
  refine l_pure rfl (s_pick (vb rfl (decide_eq_true h4)) rfl ?_)
  refine l_pure rfl (s_asg  rfl ?_)
  refine l_nil ?_
  repeat (with_reducible first | refine c_seq ?_ | refine c_block ?_ | refine c_skip ?_ | refine x_then ?_ | refine x_block ?_)
  refine c_ret ?_
  repeat (with_reducible first | refine x_then_ret ?_ | refine x_block_ret ?_)
  refine r_one rfl rfl ?_
  exact ⟨vb rfl (by unfold pairB; simp [h1, h2, h3, h4]), rfl⟩
theorem isDay_b {d : Int} (h : isDay d = true) : 0 ≤ d ∧ d ≤ 1048576 := of_decide_eq_true h
set_option maxHeartbeats 1000000 in
theorem Eligible_ok (o : Ob) (c s : Int) (w : World) : Ret Tryz.prog 41 #[aggOb o, .int .i64 c, .int .i64 s] w fun v w' => v = .bool (eligB o c s) ∧ Below w.heap.size w w' := by
  have hS := St.init w
  refine enter Tryz.func41 rfl Tryz.ntmps41 rfl ?_
  repeat (with_reducible first | refine c_seq ?_ | refine c_block ?_ | refine c_skip ?_ | refine x_then ?_ | refine x_block ?_)
  refine c_reg ?_
  refine l_heavy rfl (s_box  rfl rfl hS ?_)
  intro b3 wz1 hS hBz1
  refine l_pure rfl (s_asg  rfl ?_)
  refine l_nil ?_
  repeat (with_reducible first | refine c_seq ?_ | refine c_block ?_ | refine c_skip ?_ | refine x_then ?_ | refine x_block ?_)
  replace hS : St w _ [(b3, 66, encOb o)] := hS
  cases h1 : isDay c with
  | false =>
    repeat (with_reducible first | refine c_seq ?_ | refine c_block ?_ | refine c_skip ?_ | refine x_then ?_ | refine x_block ?_)
    refine c_reg ?_
    refine l_pure rfl (s_move  rfl ?_)
    refine l_heavy rfl (s_call Tryz.call64 rfl (isDay_ok c _) ?_)
    rintro _ wq2 ⟨rfl, hq2⟩
    replace hq2 := hq2.symm
    subst hq2
    refine l_pure rfl (s_move  rfl ?_)
    refine l_no (gno_yes 9 (by kernel_rfl) rfl h1) ?_
    refine l_no (gno_yes 9 (by kernel_rfl) rfl h1) ?_
    refine l_pure rfl (s_pick (vb rfl h1) rfl ?_)
    refine l_pure rfl (s_move  rfl ?_)
    refine l_no (gno_yes 13 (by kernel_rfl) rfl rfl) ?_
    refine l_no (gno_yes 13 (by kernel_rfl) rfl rfl) ?_
    refine l_no (gno_yes 13 (by kernel_rfl) rfl rfl) ?_
    refine l_pure rfl (s_pick (vb rfl rfl) rfl ?_)
    refine l_pure rfl (s_move  rfl ?_)
    refine l_no (gno_yes 18 (by kernel_rfl) rfl rfl) ?_
    refine l_no (gno_yes 18 (by kernel_rfl) rfl rfl) ?_
    refine l_no (gno_yes 18 (by kernel_rfl) rfl rfl) ?_
    refine l_no (gno_yes 18 (by kernel_rfl) rfl rfl) ?_
    refine l_pure rfl (s_pick (vb rfl rfl) rfl ?_)
    refine l_pure rfl (s_move  rfl ?_)
    refine l_no (gno_yes 24 (by kernel_rfl) rfl rfl) ?_
    refine l_no (gno_yes 24 (by kernel_rfl) rfl rfl) ?_
    refine l_no (gno_yes 24 (by kernel_rfl) rfl rfl) ?_
    refine l_no (gno_yes 24 (by kernel_rfl) rfl rfl) ?_
    refine l_no (gno_yes 24 (by kernel_rfl) rfl rfl) ?_
    refine l_no (gno_yes 24 (by kernel_rfl) rfl rfl) ?_
    refine l_no (gno_un 30 (by kernel_rfl) rfl) ?_
    refine l_no (gno_un 30 (by kernel_rfl) rfl) ?_
    refine l_no (gno_un 30 (by kernel_rfl) rfl) ?_
    refine l_no (gno_un 30 (by kernel_rfl) rfl) ?_
    refine l_no (gno_un 30 (by kernel_rfl) rfl) ?_
    refine l_no (gno_un 30 (by kernel_rfl) rfl) ?_
    refine l_no (gno_yes 24 (by kernel_rfl) rfl rfl) ?_
    refine l_pure rfl (s_pick (vb rfl rfl) rfl ?_)
    refine l_pure rfl (s_asg  rfl ?_)
    refine l_nil ?_
    repeat (with_reducible first | refine c_seq ?_ | refine c_block ?_ | refine c_skip ?_ | refine x_then ?_ | refine x_block ?_)
    refine c_ret ?_
    repeat (with_reducible first | refine x_then_ret ?_ | refine x_block_ret ?_)
    refine r_one rfl rfl ?_
    exact ⟨vb rfl (by unfold eligB; simp [h1]), hS.below⟩
  | true =>
  cases h2 : isDay s with
  | false =>
    repeat (with_reducible first | refine c_seq ?_ | refine c_block ?_ | refine c_skip ?_ | refine x_then ?_ | refine x_block ?_)
    refine c_reg ?_
    refine l_pure rfl (s_move  rfl ?_)
    refine l_heavy rfl (s_call Tryz.call64 rfl (isDay_ok c _) ?_)
    rintro _ wq3 ⟨rfl, hq3⟩
    replace hq3 := hq3.symm
    subst hq3
    refine l_pure rfl (s_move  rfl ?_)
    refine l_pure (gd_yes 9 (by kernel_rfl) rfl h1) (s_move  rfl ?_)
    refine l_heavy (gd_yes 9 (by kernel_rfl) rfl h1) (s_call Tryz.call64 rfl (isDay_ok s _) ?_)
    rintro _ wq4 ⟨rfl, hq4⟩
    replace hq4 := hq4.symm
    subst hq4
    refine l_pure rfl (s_pick (vb rfl h1) rfl ?_)
    refine l_pure rfl (s_move  rfl ?_)
    refine l_no (gno_yes 13 (by kernel_rfl) rfl h2) ?_
    refine l_no (gno_yes 13 (by kernel_rfl) rfl h2) ?_
    refine l_no (gno_yes 13 (by kernel_rfl) rfl h2) ?_
    refine l_pure rfl (s_pick (vb rfl h2) rfl ?_)
    refine l_pure rfl (s_move  rfl ?_)
    refine l_no (gno_yes 18 (by kernel_rfl) rfl rfl) ?_
    refine l_no (gno_yes 18 (by kernel_rfl) rfl rfl) ?_
    refine l_no (gno_yes 18 (by kernel_rfl) rfl rfl) ?_
    refine l_no (gno_yes 18 (by kernel_rfl) rfl rfl) ?_
    refine l_pure rfl (s_pick (vb rfl rfl) rfl ?_)
    refine l_pure rfl (s_move  rfl ?_)
    refine l_no (gno_yes 24 (by kernel_rfl) rfl rfl) ?_
    refine l_no (gno_yes 24 (by kernel_rfl) rfl rfl) ?_
    refine l_no (gno_yes 24 (by kernel_rfl) rfl rfl) ?_
    refine l_no (gno_yes 24 (by kernel_rfl) rfl rfl) ?_
    refine l_no (gno_yes 24 (by kernel_rfl) rfl rfl) ?_
    refine l_no (gno_yes 24 (by kernel_rfl) rfl rfl) ?_
    refine l_no (gno_un 30 (by kernel_rfl) rfl) ?_
    refine l_no (gno_un 30 (by kernel_rfl) rfl) ?_
    refine l_no (gno_un 30 (by kernel_rfl) rfl) ?_
    refine l_no (gno_un 30 (by kernel_rfl) rfl) ?_
    refine l_no (gno_un 30 (by kernel_rfl) rfl) ?_
    refine l_no (gno_un 30 (by kernel_rfl) rfl) ?_
    refine l_no (gno_yes 24 (by kernel_rfl) rfl rfl) ?_
    refine l_pure rfl (s_pick (vb rfl rfl) rfl ?_)
    refine l_pure rfl (s_asg  rfl ?_)
    refine l_nil ?_
    repeat (with_reducible first | refine c_seq ?_ | refine c_block ?_ | refine c_skip ?_ | refine x_then ?_ | refine x_block ?_)
    refine c_ret ?_
    repeat (with_reducible first | refine x_then_ret ?_ | refine x_block_ret ?_)
    refine r_one rfl rfl ?_
    exact ⟨vb rfl (by unfold eligB; simp [h2]), hS.below⟩
  | true =>
  have c1 := isDay_b h1
  have s1 := isDay_b h2
  cases h3 : o.cont with
  | true =>
    have h3n : (!o.cont) = false := by rw [h3]; rfl
    repeat (with_reducible first | refine c_seq ?_ | refine c_block ?_ | refine c_skip ?_ | refine x_then ?_ | refine x_block ?_)
    refine c_reg ?_
    refine l_pure rfl (s_move  rfl ?_)
    refine l_heavy rfl (s_call Tryz.call64 rfl (isDay_ok c _) ?_)
    rintro _ wq5 ⟨rfl, hq5⟩
    replace hq5 := hq5.symm
    subst hq5
    refine l_pure rfl (s_move  rfl ?_)
    refine l_pure (gd_yes 9 (by kernel_rfl) rfl h1) (s_move  rfl ?_)
    refine l_heavy (gd_yes 9 (by kernel_rfl) rfl h1) (s_call Tryz.call64 rfl (isDay_ok s _) ?_)
    rintro _ wq6 ⟨rfl, hq6⟩
    replace hq6 := hq6.symm
    subst hq6
    refine l_pure rfl (s_pick (vb rfl h1) rfl ?_)
    refine l_pure rfl (s_move  rfl ?_)
    refine l_pure (gd_yes 13 (by kernel_rfl) rfl h2) (s_fld  rfl fo_66_5 ?_)
    refine l_read (gd_yes 13 (by kernel_rfl) rfl h2) (s_ldo (k := 0)  rfl vi_4 hS rfl rfl rfl (.inr rfl) ?_)
    refine l_pure (gd_yes 13 (by kernel_rfl) rfl h2) (s_not  rfl ?_)
    refine l_pure rfl (s_pick (vb rfl h2) rfl ?_)
    refine l_pure rfl (s_move  rfl ?_)
    refine l_no (gno_yes 18 (by kernel_rfl) rfl h3n) ?_
    refine l_no (gno_yes 18 (by kernel_rfl) rfl h3n) ?_
    refine l_no (gno_yes 18 (by kernel_rfl) rfl h3n) ?_
    refine l_no (gno_yes 18 (by kernel_rfl) rfl h3n) ?_
    refine l_pure rfl (s_pick (vb rfl h3n) rfl ?_)
    refine l_pure rfl (s_move  rfl ?_)
    refine l_no (gno_yes 24 (by kernel_rfl) rfl rfl) ?_
    refine l_no (gno_yes 24 (by kernel_rfl) rfl rfl) ?_
    refine l_no (gno_yes 24 (by kernel_rfl) rfl rfl) ?_
    refine l_no (gno_yes 24 (by kernel_rfl) rfl rfl) ?_
    refine l_no (gno_yes 24 (by kernel_rfl) rfl rfl) ?_
    refine l_no (gno_yes 24 (by kernel_rfl) rfl rfl) ?_
    refine l_no (gno_un 30 (by kernel_rfl) rfl) ?_
    refine l_no (gno_un 30 (by kernel_rfl) rfl) ?_
    refine l_no (gno_un 30 (by kernel_rfl) rfl) ?_
    refine l_no (gno_un 30 (by kernel_rfl) rfl) ?_
    refine l_no (gno_un 30 (by kernel_rfl) rfl) ?_
    refine l_no (gno_un 30 (by kernel_rfl) rfl) ?_
    refine l_no (gno_yes 24 (by kernel_rfl) rfl rfl) ?_
    refine l_pure rfl (s_pick (vb rfl rfl) rfl ?_)
    refine l_pure rfl (s_asg  rfl ?_)
    refine l_nil ?_
    repeat (with_reducible first | refine c_seq ?_ | refine c_block ?_ | refine c_skip ?_ | refine x_then ?_ | refine x_block ?_)
    refine c_ret ?_
    repeat (with_reducible first | refine x_then_ret ?_ | refine x_block_ret ?_)
    refine r_one rfl rfl ?_
    exact ⟨vb rfl (by unfold eligB; simp [h3]), hS.below⟩
  | false =>
  have h3y : (!o.cont) = true := by rw [h3]; rfl
  by_cases h4 : o.inc ≤ c
  case neg =>
    repeat (with_reducible first | refine c_seq ?_ | refine c_block ?_ | refine c_skip ?_ | refine x_then ?_ | refine x_block ?_)
    refine c_reg ?_
    refine l_pure rfl (s_move  rfl ?_)
    refine l_heavy rfl (s_call Tryz.call64 rfl (isDay_ok c _) ?_)
    rintro _ wq7 ⟨rfl, hq7⟩
    replace hq7 := hq7.symm
    subst hq7
    refine l_pure rfl (s_move  rfl ?_)
    refine l_pure (gd_yes 9 (by kernel_rfl) rfl h1) (s_move  rfl ?_)
    refine l_heavy (gd_yes 9 (by kernel_rfl) rfl h1) (s_call Tryz.call64 rfl (isDay_ok s _) ?_)
    rintro _ wq8 ⟨rfl, hq8⟩
    replace hq8 := hq8.symm
    subst hq8
    refine l_pure rfl (s_pick (vb rfl h1) rfl ?_)
    refine l_pure rfl (s_move  rfl ?_)
    refine l_pure (gd_yes 13 (by kernel_rfl) rfl h2) (s_fld  rfl fo_66_5 ?_)
    refine l_read (gd_yes 13 (by kernel_rfl) rfl h2) (s_ldo (k := 0)  rfl vi_4 hS rfl rfl rfl (.inr rfl) ?_)
    refine l_pure (gd_yes 13 (by kernel_rfl) rfl h2) (s_not  rfl ?_)
    refine l_pure rfl (s_pick (vb rfl h2) rfl ?_)
    refine l_pure rfl (s_move  rfl ?_)
    refine l_pure (gd_yes 18 (by kernel_rfl) rfl h3y) (s_fld  rfl fo_66_3 ?_)
    refine l_read (gd_yes 18 (by kernel_rfl) rfl h3y) (s_ldo (k := 0)  rfl vi_3 hS rfl rfl rfl (.inr rfl) ?_)
    refine l_pure (gd_yes 18 (by kernel_rfl) rfl h3y) (s_move  rfl ?_)
    refine l_pure (gd_yes 18 (by kernel_rfl) rfl h3y) (s_leq  rfl rfl ?_)
    refine l_pure rfl (s_pick (vb rfl h3y) rfl ?_)
    refine l_pure rfl (s_move  rfl ?_)
    refine l_no (gno_yes 24 (by kernel_rfl) rfl (decide_eq_false h4)) ?_
    refine l_no (gno_yes 24 (by kernel_rfl) rfl (decide_eq_false h4)) ?_
    refine l_no (gno_yes 24 (by kernel_rfl) rfl (decide_eq_false h4)) ?_
    refine l_no (gno_yes 24 (by kernel_rfl) rfl (decide_eq_false h4)) ?_
    refine l_no (gno_yes 24 (by kernel_rfl) rfl (decide_eq_false h4)) ?_
    refine l_no (gno_yes 24 (by kernel_rfl) rfl (decide_eq_false h4)) ?_
    refine l_no (gno_un 30 (by kernel_rfl) rfl) ?_
    refine l_no (gno_un 30 (by kernel_rfl) rfl) ?_
    refine l_no (gno_un 30 (by kernel_rfl) rfl) ?_
    refine l_no (gno_un 30 (by kernel_rfl) rfl) ?_
    refine l_no (gno_un 30 (by kernel_rfl) rfl) ?_
    refine l_no (gno_un 30 (by kernel_rfl) rfl) ?_
    refine l_no (gno_yes 24 (by kernel_rfl) rfl (decide_eq_false h4)) ?_
    refine l_pure rfl (s_pick (vb rfl (decide_eq_false h4)) rfl ?_)
    refine l_pure rfl (s_asg  rfl ?_)
    refine l_nil ?_
    repeat (with_reducible first | refine c_seq ?_ | refine c_block ?_ | refine c_skip ?_ | refine x_then ?_ | refine x_block ?_)
    refine c_ret ?_
    repeat (with_reducible first | refine x_then_ret ?_ | refine x_block_ret ?_)
    refine r_one rfl rfl ?_
    exact ⟨vb rfl (by unfold eligB; simp [h4]), hS.below⟩
  by_cases h5 : o.acq = o.inc
  · repeat (with_reducible first | refine c_seq ?_ | refine c_block ?_ | refine c_skip ?_ | refine x_then ?_ | refine x_block ?_)
    refine c_reg ?_
    refine l_pure rfl (s_move  rfl ?_)
    refine l_heavy rfl (s_call Tryz.call64 rfl (isDay_ok c _) ?_)
    rintro _ wq9 ⟨rfl, hq9⟩
    replace hq9 := hq9.symm
    subst hq9
    refine l_pure rfl (s_move  rfl ?_)
    refine l_pure (gd_yes 9 (by kernel_rfl) rfl h1) (s_move  rfl ?_)
    refine l_heavy (gd_yes 9 (by kernel_rfl) rfl h1) (s_call Tryz.call64 rfl (isDay_ok s _) ?_)
    rintro _ wq10 ⟨rfl, hq10⟩
    replace hq10 := hq10.symm
    subst hq10
    refine l_pure rfl (s_pick (vb rfl h1) rfl ?_)
    refine l_pure rfl (s_move  rfl ?_)
    refine l_pure (gd_yes 13 (by kernel_rfl) rfl h2) (s_fld  rfl fo_66_5 ?_)
    refine l_read (gd_yes 13 (by kernel_rfl) rfl h2) (s_ldo (k := 0)  rfl vi_4 hS rfl rfl rfl (.inr rfl) ?_)
    refine l_pure (gd_yes 13 (by kernel_rfl) rfl h2) (s_not  rfl ?_)
    refine l_pure rfl (s_pick (vb rfl h2) rfl ?_)
    refine l_pure rfl (s_move  rfl ?_)
    refine l_pure (gd_yes 18 (by kernel_rfl) rfl h3y) (s_fld  rfl fo_66_3 ?_)
    refine l_read (gd_yes 18 (by kernel_rfl) rfl h3y) (s_ldo (k := 0)  rfl vi_3 hS rfl rfl rfl (.inr rfl) ?_)
    refine l_pure (gd_yes 18 (by kernel_rfl) rfl h3y) (s_move  rfl ?_)
    refine l_pure (gd_yes 18 (by kernel_rfl) rfl h3y) (s_leq  rfl rfl ?_)
    refine l_pure rfl (s_pick (vb rfl h3y) rfl ?_)
    refine l_pure rfl (s_move  rfl ?_)
    refine l_pure (gd_yes 24 (by kernel_rfl) rfl (decide_eq_true h4)) (s_fld  rfl fo_66_4 ?_)
    refine l_read (gd_yes 24 (by kernel_rfl) rfl (decide_eq_true h4)) (s_ldo (k := 0)  rfl vi_3 hS rfl rfl rfl (.inr rfl) ?_)
    refine l_pure (gd_yes 24 (by kernel_rfl) rfl (decide_eq_true h4)) (s_fld  rfl fo_66_3 ?_)
    refine l_read (gd_yes 24 (by kernel_rfl) rfl (decide_eq_true h4)) (s_ldo (k := 0)  rfl vi_3 hS rfl rfl rfl (.inr rfl) ?_)
    refine l_pure (gd_yes 24 (by kernel_rfl) rfl (decide_eq_true h4)) (s_eql  rfl rfl ?_)
    refine l_pure (gd_yes 24 (by kernel_rfl) rfl (decide_eq_true h4)) (s_move  rfl ?_)
    refine l_no (gno_yes 30 (by kernel_rfl) rfl (decide_eq_true h5)) ?_
    refine l_no (gno_yes 30 (by kernel_rfl) rfl (decide_eq_true h5)) ?_
    refine l_no (gno_yes 30 (by kernel_rfl) rfl (decide_eq_true h5)) ?_
    refine l_no (gno_yes 30 (by kernel_rfl) rfl (decide_eq_true h5)) ?_
    refine l_no (gno_yes 30 (by kernel_rfl) rfl (decide_eq_true h5)) ?_
    refine l_no (gno_yes 30 (by kernel_rfl) rfl (decide_eq_true h5)) ?_
    refine l_pure (gd_yes 24 (by kernel_rfl) rfl (decide_eq_true h4)) (s_pick (vb rfl (decide_eq_true h5)) rfl ?_)
    refine l_pure rfl (s_pick (vb rfl (decide_eq_true h4)) rfl ?_)
    refine l_pure rfl (s_asg  rfl ?_)
    refine l_nil ?_
    repeat (with_reducible first | refine c_seq ?_ | refine c_block ?_ | refine c_skip ?_ | refine x_then ?_ | refine x_block ?_)
    refine c_ret ?_
    repeat (with_reducible first | refine x_then_ret ?_ | refine x_block_ret ?_)
    refine r_one rfl rfl ?_
    exact ⟨vb rfl (by unfold eligB; simp [h1, h2, h3, h4, h5]), hS.below⟩
  · repeat (with_reducible first | refine c_seq ?_ | refine c_block ?_ | refine c_skip ?_ | refine x_then ?_ | refine x_block ?_)
    refine c_reg ?_
    refine l_pure rfl (s_move  rfl ?_)
    refine l_heavy rfl (s_call Tryz.call64 rfl (isDay_ok c _) ?_)
    rintro _ wq11 ⟨rfl, hq11⟩
    replace hq11 := hq11.symm
    subst hq11
    refine l_pure rfl (s_move  rfl ?_)
    refine l_pure (gd_yes 9 (by kernel_rfl) rfl h1) (s_move  rfl ?_)
    refine l_heavy (gd_yes 9 (by kernel_rfl) rfl h1) (s_call Tryz.call64 rfl (isDay_ok s _) ?_)
    rintro _ wq12 ⟨rfl, hq12⟩
    replace hq12 := hq12.symm
    subst hq12
    refine l_pure rfl (s_pick (vb rfl h1) rfl ?_)
    refine l_pure rfl (s_move  rfl ?_)
    refine l_pure (gd_yes 13 (by kernel_rfl) rfl h2) (s_fld  rfl fo_66_5 ?_)
    refine l_read (gd_yes 13 (by kernel_rfl) rfl h2) (s_ldo (k := 0)  rfl vi_4 hS rfl rfl rfl (.inr rfl) ?_)
    refine l_pure (gd_yes 13 (by kernel_rfl) rfl h2) (s_not  rfl ?_)
    refine l_pure rfl (s_pick (vb rfl h2) rfl ?_)
    refine l_pure rfl (s_move  rfl ?_)
    refine l_pure (gd_yes 18 (by kernel_rfl) rfl h3y) (s_fld  rfl fo_66_3 ?_)
    refine l_read (gd_yes 18 (by kernel_rfl) rfl h3y) (s_ldo (k := 0)  rfl vi_3 hS rfl rfl rfl (.inr rfl) ?_)
    refine l_pure (gd_yes 18 (by kernel_rfl) rfl h3y) (s_move  rfl ?_)
    refine l_pure (gd_yes 18 (by kernel_rfl) rfl h3y) (s_leq  rfl rfl ?_)
    refine l_pure rfl (s_pick (vb rfl h3y) rfl ?_)
    refine l_pure rfl (s_move  rfl ?_)
    refine l_pure (gd_yes 24 (by kernel_rfl) rfl (decide_eq_true h4)) (s_fld  rfl fo_66_4 ?_)
    refine l_read (gd_yes 24 (by kernel_rfl) rfl (decide_eq_true h4)) (s_ldo (k := 0)  rfl vi_3 hS rfl rfl rfl (.inr rfl) ?_)
    refine l_pure (gd_yes 24 (by kernel_rfl) rfl (decide_eq_true h4)) (s_fld  rfl fo_66_3 ?_)
    refine l_read (gd_yes 24 (by kernel_rfl) rfl (decide_eq_true h4)) (s_ldo (k := 0)  rfl vi_3 hS rfl rfl rfl (.inr rfl) ?_)
    refine l_pure (gd_yes 24 (by kernel_rfl) rfl (decide_eq_true h4)) (s_eql  rfl rfl ?_)
    refine l_pure (gd_yes 24 (by kernel_rfl) rfl (decide_eq_true h4)) (s_move  rfl ?_)
    refine l_pure (gd_yes 30 (by kernel_rfl) rfl (decide_eq_false h5)) (s_fld  rfl fo_66_4 ?_)
    refine l_read (gd_yes 30 (by kernel_rfl) rfl (decide_eq_false h5)) (s_ldo (k := 0)  rfl vi_3 hS rfl rfl rfl (.inr rfl) ?_)
    refine l_pure (gd_yes 30 (by kernel_rfl) rfl (decide_eq_false h5)) (s_move  rfl ?_)
    refine l_pure (gd_yes 30 (by kernel_rfl) rfl (decide_eq_false h5)) (s_move  rfl ?_)
    refine l_pure (gd_yes 30 (by kernel_rfl) rfl (decide_eq_false h5)) (s_sub  rfl rfl (IntWalk.i64_in _ (by omega)) ?_)
    refine l_pure (gd_yes 30 (by kernel_rfl) rfl (decide_eq_false h5)) (s_lss  rfl rfl ?_)
    refine l_pure (gd_yes 24 (by kernel_rfl) rfl (decide_eq_true h4)) (s_pick (vb rfl (decide_eq_false h5)) rfl ?_)
    refine l_pure rfl (s_pick (vb rfl (decide_eq_true h4)) rfl ?_)
    refine l_pure rfl (s_asg  rfl ?_)
    refine l_nil ?_
    repeat (with_reducible first | refine c_seq ?_ | refine c_block ?_ | refine c_skip ?_ | refine x_then ?_ | refine x_block ?_)
    refine c_ret ?_
    repeat (with_reducible first | refine x_then_ret ?_ | refine x_block_ret ?_)
    refine r_one rfl rfl ?_
    exact ⟨vb rfl (by unfold eligB; simp [h1, h2, h3, h4, h5]), hS.below⟩
set_option maxHeartbeats 1000000 in
theorem OCheck_ok (n : Int) (vl : Value) (l : List Ob) (w : World) (hl : Sl encOb 8 w vl l) (hB : ObB MX l) :
    Ret Tryz.prog 63 #[.int .i64 n, vl] w fun v w' => v = .int .i64 (obsE n l) ∧ Below w.heap.size w w' := by
  have hmax := hl.maxLen
  have hS := St.init w
  refine enter Tryz.func63 rfl Tryz.ntmps63 rfl ?_
  repeat (with_reducible first | refine c_seq ?_ | refine c_block ?_ | refine c_skip ?_ | refine x_then ?_ | refine x_block ?_)
  refine c_reg ?_
  refine l_pure rfl (s_asg  rfl ?_)
  refine l_nil ?_
  repeat (with_reducible first | refine c_seq ?_ | refine c_skip ?_ | refine x_then ?_ | refine x_block ?_)
  refine c_cut1 (fun ρ w' => ρ 0 = .int .i64 n ∧ ρ 1 = vl ∧ w' = w ∧ ¬ (n < 0 ∨ 32 < n) ∧ ¬ 64 < l.length) ?_ ?_
  · repeat (with_reducible first | refine c_seq ?_ | refine c_block ?_ | refine c_skip ?_ | refine x_then ?_ | refine x_block ?_)
    refine c_cut1 (fun ρ w' => ρ 0 = .int .i64 n ∧ ρ 1 = vl ∧ ρ 7 = .bool (decide (n < 0 ∨ 32 < n)) ∧ w' = w) ?_ ?_
    · by_cases h1 : n < 0
      · repeat (with_reducible first | refine c_seq ?_ | refine c_block ?_ | refine c_skip ?_ | refine x_then ?_ | refine x_block ?_)
        refine c_reg ?_
        refine l_pure rfl (s_move  rfl ?_)
        refine l_pure rfl (s_lss  rfl rfl ?_)
        refine l_pure rfl (s_move  rfl ?_)
        refine l_no (gno_yes 10 (by kernel_rfl) rfl (decide_eq_true h1)) ?_
        refine l_no (gno_yes 10 (by kernel_rfl) rfl (decide_eq_true h1)) ?_
        refine l_pure rfl (s_pick (vb rfl (decide_eq_true h1)) rfl ?_)
        refine l_pure rfl (s_asg  rfl ?_)
        refine l_nil ?_
        repeat (with_reducible first | refine c_seq ?_ | refine c_block ?_ | refine c_skip ?_ | refine x_then ?_ | refine x_block ?_)
        exact ⟨_, rfl, rfl, rfl, vb rfl (by simp [h1]), rfl⟩
      · repeat (with_reducible first | refine c_seq ?_ | refine c_block ?_ | refine c_skip ?_ | refine x_then ?_ | refine x_block ?_)
        refine c_reg ?_
        refine l_pure rfl (s_move  rfl ?_)
        refine l_pure rfl (s_lss  rfl rfl ?_)
        refine l_pure rfl (s_move  rfl ?_)
        refine l_pure (gd_yes 10 (by kernel_rfl) rfl (decide_eq_false h1)) (s_move  rfl ?_)
        refine l_pure (gd_yes 10 (by kernel_rfl) rfl (decide_eq_false h1)) (s_gtr  rfl rfl ?_)
        refine l_pure rfl (s_pick (vb rfl (decide_eq_false h1)) rfl ?_)
        refine l_pure rfl (s_asg  rfl ?_)
        refine l_nil ?_
        repeat (with_reducible first | refine c_seq ?_ | refine c_block ?_ | refine c_skip ?_ | refine x_then ?_ | refine x_block ?_)
        exact ⟨_, rfl, rfl, rfl, vb rfl (by simp [h1]), rfl⟩
    rintro ρ w2 ⟨h0, h1, h7, rfl⟩
    repeat (with_reducible first | refine c_seq ?_ | refine c_block ?_ | refine c_skip ?_ | refine x_then ?_ | refine x_block ?_)
    by_cases hr : n < 0 ∨ 32 < n
    · refine c_yes h7 (decide_eq_true hr) ?_
      repeat (with_reducible first | refine c_seq ?_ | refine c_block ?_ | refine c_skip ?_ | refine x_then ?_ | refine x_block ?_)
      refine c_reg ?_
      refine l_pure rfl (s_asg  rfl ?_)
      refine l_nil ?_
      repeat (with_reducible first | refine c_seq ?_ | refine c_block ?_ | refine c_skip ?_ | refine x_then ?_ | refine x_block ?_)
      refine c_ret ?_
      repeat (with_reducible first | refine x_then_ret ?_ | refine x_block_ret ?_)
      refine r_one rfl rfl ?_
      exact ⟨vi rfl (by unfold obsE; rw [if_pos hr]), hS.below⟩
    · refine c_no h7 (decide_eq_false hr) ?_
      repeat (with_reducible first | refine c_seq ?_ | refine c_block ?_ | refine c_skip ?_ | refine x_then ?_ | refine x_block ?_)
      refine c_reg ?_
      refine l_pure rfl (s_move  h1 ?_)
      refine l_pure rfl (s_lenr  rfl (hl.below hS.below) ⟨_, Tryz.underlying23⟩ ?_)
      refine l_pure rfl (s_gtr  rfl rfl ?_)
      refine l_pure rfl (s_asg  rfl ?_)
      refine l_nil ?_
      repeat (with_reducible first | refine c_seq ?_ | refine c_block ?_ | refine c_skip ?_ | refine x_then ?_ | refine x_block ?_)
      by_cases h64 : 64 < l.length
      · refine c_yes rfl (decide_eq_true (by omega)) ?_
        repeat (with_reducible first | refine c_seq ?_ | refine c_block ?_ | refine c_skip ?_ | refine x_then ?_ | refine x_block ?_)
        refine c_reg ?_
        refine l_pure rfl (s_asg  rfl ?_)
        refine l_nil ?_
        repeat (with_reducible first | refine c_seq ?_ | refine c_block ?_ | refine c_skip ?_ | refine x_then ?_ | refine x_block ?_)
        refine c_ret ?_
        repeat (with_reducible first | refine x_then_ret ?_ | refine x_block_ret ?_)
        refine r_one rfl rfl ?_
        exact ⟨vi rfl (by unfold obsE; rw [if_neg hr, if_pos h64]), hS.below⟩
      · refine c_no rfl (decide_eq_false (by omega)) ?_
        repeat (with_reducible first | refine c_seq ?_ | refine c_block ?_ | refine c_skip ?_ | refine x_then ?_ | refine x_block ?_)
        exact ⟨_, rfl, by assumption, by assumption, rfl, hr, h64⟩
  rintro ρ w2 ⟨h0, h1, rfl, hr, h64⟩
  have hfin : obsE n l = firstE (obErr n) l := by unfold obsE; rw [if_neg hr, if_neg h64]
  rw [hfin]
  repeat (with_reducible first | refine c_seq ?_ | refine c_block ?_ | refine c_skip ?_ | refine x_then ?_ | refine x_block ?_)
  refine c_reg ?_
  refine l_pure rfl (s_move  h1 ?_)
  refine l_pure rfl (s_lenr  rfl (hl.below hS.below) ⟨_, Tryz.underlying23⟩ ?_)
  refine l_pure rfl (s_move  rfl ?_)
  refine l_nil ?_
  repeat (with_reducible first | refine c_seq ?_ | refine c_block ?_ | refine c_skip ?_ | refine x_then ?_ | refine x_block ?_)
  refine c_loop (σ := Nat) (fun i ρ w' => i ≤ l.length ∧ firstE (obErr n) (l.take i) = 0 ∧ ρ 0 = .int .i64 n ∧ ρ 18 = vl ∧ ρ 19 = .int .i64 l.length ∧ ρ 20 = .int .i64 i ∧ St w2 w' []) (fun i => l.length - i) 0
    ⟨Nat.zero_le _, rfl, h0, rfl, rfl, rfl, hS⟩ ?_
  clear hS h0 h1
  rintro i ρ w3 ⟨hi, hok, h0, h18, h19, h20, hS⟩
  repeat (with_reducible first | refine c_seq ?_ | refine c_block ?_ | refine c_skip ?_ | refine x_then ?_ | refine x_block ?_)
  refine c_reg ?_
  refine l_pure rfl (s_lss  h20 h19 ?_)
  refine l_nil ?_
  repeat (with_reducible first | refine c_seq ?_ | refine c_block ?_ | refine c_skip ?_ | refine x_then ?_ | refine x_block ?_)
  by_cases hlt : i < l.length
  · refine c_yes rfl (decide_eq_true (by omega)) ?_
    repeat (with_reducible first | refine c_seq ?_ | refine c_block ?_ | refine c_skip ?_ | refine x_then ?_ | refine x_block ?_)
    obtain ⟨o, ho⟩ : ∃ o, o = l.getD i zOb := ⟨_, rfl⟩
    obtain ⟨f1, f2⟩ := firstE_step (obErr n) l zOb hlt hok
    have hoB : Lr o.amt ≤ MX := by rw [ho]; exact hB _ (getD_mem l i zOb hlt)
    rw [← ho] at f1 f2
    repeat (with_reducible first | refine c_seq ?_ | refine c_block ?_ | refine c_skip ?_ | refine x_then ?_ | refine x_block ?_)
    refine c_reg ?_
    refine l_pure rfl (s_ixr (i := i)  h18 h20 (hl.below hS.below) (by omega) (by first | omega | (simp; done) | (simp; omega)) si_23 ?_)
    refine l_read rfl (s_lde (i := i) zOb  rfl vi_66 (hl.below hS.below) (by first | omega | (simp; done) | (simp; omega)) rfl rfl (.inl rfl) ?_)
    refine l_heavy rfl (s_alloc  vi_66 hS ?_)
    intro b6 wz1 hS hBz1
    refine l_heavy rfl (s_sta (k := 0)  rfl rfl vi_66 hS rfl rfl rfl (Nat.le_of_ble_eq_true rfl) rfl ?_)
    intro wz2 hS
    refine l_nil ?_
    repeat (with_reducible first | refine c_seq ?_ | refine c_block ?_ | refine c_skip ?_ | refine x_then ?_ | refine x_block ?_)
    replace hS : St w2 _ [(b6, 66, encOb (l.getD i zOb))] := hS
    rw [← ho] at hS
    repeat (with_reducible first | refine c_seq ?_ | refine c_block ?_ | refine c_skip ?_ | refine x_then ?_ | refine x_block ?_)
    refine c_forget (fun ρ' => ρ' 0 = .int .i64 n ∧ ρ' 6 = .pointer (some ⟨b6, 0, none⟩) ∧ ρ' 18 = vl ∧ ρ' 19 = .int .i64 l.length ∧ ρ' 20 = .int .i64 i ∧ True) ⟨h0, rfl, h18, h19, h20, trivial⟩ ?_
    rintro ρk3 ⟨hk3_0, hk3_6, hk3_18, hk3_19, hk3_20, -⟩
    repeat (with_reducible first | refine c_seq ?_ | refine c_block ?_ | refine c_skip ?_ | refine x_then ?_ | refine x_block ?_)
    refine c_reg ?_
    refine l_pure rfl (s_move  hk3_0 ?_)
    refine l_pure rfl (s_fld  hk3_6 fo_66_0 ?_)
    refine l_read rfl (s_ldo (k := 0)  rfl vi_3 hS rfl rfl rfl (.inr rfl) ?_)
    refine l_pure rfl (s_fld  hk3_6 fo_66_1 ?_)
    refine l_read rfl (s_ldo (k := 0)  rfl vi_3 hS rfl rfl rfl (.inr rfl) ?_)
    refine l_heavy rfl (s_call Tryz.call43 rfl (pair_ok n o.deb o.cre _) ?_)
    rintro _ wq4 ⟨rfl, hq4⟩
    replace hq4 := hq4.symm
    subst hq4
    refine l_pure rfl (s_not  rfl ?_)
    refine l_pure rfl (s_asg  rfl ?_)
    refine l_nil ?_
    repeat (with_reducible first | refine c_seq ?_ | refine c_block ?_ | refine c_skip ?_ | refine x_then ?_ | refine x_block ?_)
    cases hp : pairB n o.deb o.cre with
    | false =>
      refine c_yes rfl (rfl) ?_
      repeat (with_reducible first | refine c_seq ?_ | refine c_block ?_ | refine c_skip ?_ | refine x_then ?_ | refine x_block ?_)
      have he : obErr n o = 14 := by unfold obErr; rw [if_pos hp]
      repeat (with_reducible first | refine c_seq ?_ | refine c_block ?_ | refine c_skip ?_ | refine x_then ?_ | refine x_block ?_)
      refine c_reg ?_
      refine l_pure rfl (s_asg  rfl ?_)
      refine l_nil ?_
      repeat (with_reducible first | refine c_seq ?_ | refine c_block ?_ | refine c_skip ?_ | refine x_then ?_ | refine x_block ?_)
      refine c_ret ?_
      repeat (with_reducible first | refine x_then_ret ?_ | refine x_block_ret ?_)
      refine r_one rfl rfl ?_
      exact ⟨vi rfl (by rw [f2 (by rw [he]; decide), he]), hS.below⟩
    | true =>
    have hp' : ¬ pairB n o.deb o.cre = false := by simp [hp]
    refine c_no rfl (rfl) ?_
    repeat (with_reducible first | refine c_seq ?_ | refine c_block ?_ | refine c_skip ?_ | refine x_then ?_ | refine x_block ?_)
    refine c_reg ?_
    refine l_pure rfl (s_fld  hk3_6 fo_66_2 ?_)
    refine l_read rfl (s_ldo (k := 0)  rfl vi_36 hS rfl rfl rfl (.inl rfl) ?_)
    refine l_heavy rfl (s_call Tryz.call25 rfl (Sign_ok o.amt _ hoB) ?_)
    rintro _ wc5 ⟨rfl, hBc5⟩
    replace hS := hS.grow hBc5
    refine l_pure rfl (s_lss  rfl rfl ?_)
    refine l_pure rfl (s_asg  rfl ?_)
    refine l_nil ?_
    repeat (with_reducible first | refine c_seq ?_ | refine c_block ?_ | refine c_skip ?_ | refine x_then ?_ | refine x_block ?_)
    by_cases hneg : toQ o.amt < 0
    · refine c_yes rfl (decide_eq_true (sgnQ_neg.2 hneg)) ?_
      repeat (with_reducible first | refine c_seq ?_ | refine c_block ?_ | refine c_skip ?_ | refine x_then ?_ | refine x_block ?_)
      have he : obErr n o = 7 := by unfold obErr; rw [if_neg hp', if_pos hneg]
      repeat (with_reducible first | refine c_seq ?_ | refine c_block ?_ | refine c_skip ?_ | refine x_then ?_ | refine x_block ?_)
      refine c_reg ?_
      refine l_pure rfl (s_asg  rfl ?_)
      refine l_nil ?_
      repeat (with_reducible first | refine c_seq ?_ | refine c_block ?_ | refine c_skip ?_ | refine x_then ?_ | refine x_block ?_)
      refine c_ret ?_
      repeat (with_reducible first | refine x_then_ret ?_ | refine x_block_ret ?_)
      refine r_one rfl rfl ?_
      exact ⟨vi rfl (by rw [f2 (by rw [he]; decide), he]), hS.below⟩
    refine c_no rfl (decide_eq_false (fun g => hneg (sgnQ_neg.1 g))) ?_
    repeat (with_reducible first | refine c_seq ?_ | refine c_block ?_ | refine c_skip ?_ | refine x_then ?_ | refine x_block ?_)
    refine c_cut1 (fun ρ w' => ρ 0 = .int .i64 n ∧ ρ 6 = .pointer (some ⟨b6, 0, none⟩) ∧ ρ 18 = vl ∧ ρ 19 = .int .i64 l.length ∧ ρ 20 = .int .i64 i ∧ ρ 37 = .bool (decide (isDay o.inc = false ∨ isDay o.acq = false)) ∧ St w2 w' [(b6, 66, encOb o)]) ?_ ?_
    · repeat (with_reducible first | refine c_seq ?_ | refine c_block ?_ | refine c_skip ?_ | refine x_then ?_ | refine x_block ?_)
      cases hd : isDay o.inc with
      | false =>
        have hdn : (!isDay o.inc) = true := by rw [hd]; rfl
        repeat (with_reducible first | refine c_seq ?_ | refine c_block ?_ | refine c_skip ?_ | refine x_then ?_ | refine x_block ?_)
        refine c_reg ?_
        refine l_pure rfl (s_fld  hk3_6 fo_66_3 ?_)
        refine l_read rfl (s_ldo (k := 0)  rfl vi_3 hS rfl rfl rfl (.inr rfl) ?_)
        refine l_heavy rfl (s_call Tryz.call64 rfl (isDay_ok o.inc _) ?_)
        rintro _ wq6 ⟨rfl, hq6⟩
        replace hq6 := hq6.symm
        subst hq6
        refine l_pure rfl (s_not  rfl ?_)
        refine l_pure rfl (s_move  rfl ?_)
        refine l_no (gno_yes 42 (by kernel_rfl) rfl hdn) ?_
        refine l_no (gno_yes 42 (by kernel_rfl) rfl hdn) ?_
        refine l_no (gno_yes 42 (by kernel_rfl) rfl hdn) ?_
        refine l_no (gno_yes 42 (by kernel_rfl) rfl hdn) ?_
        refine l_pure rfl (s_pick (vb rfl hdn) rfl ?_)
        refine l_pure rfl (s_asg  rfl ?_)
        refine l_nil ?_
        repeat (with_reducible first | refine c_seq ?_ | refine c_block ?_ | refine c_skip ?_ | refine x_then ?_ | refine x_block ?_)
        exact ⟨_, rfl, by assumption, by assumption, by assumption, by assumption, by assumption, vb rfl (by simp), hS⟩
      | true =>
        have hdy : (!isDay o.inc) = false := by rw [hd]; rfl
        repeat (with_reducible first | refine c_seq ?_ | refine c_block ?_ | refine c_skip ?_ | refine x_then ?_ | refine x_block ?_)
        refine c_reg ?_
        refine l_pure rfl (s_fld  hk3_6 fo_66_3 ?_)
        refine l_read rfl (s_ldo (k := 0)  rfl vi_3 hS rfl rfl rfl (.inr rfl) ?_)
        refine l_heavy rfl (s_call Tryz.call64 rfl (isDay_ok o.inc _) ?_)
        rintro _ wq7 ⟨rfl, hq7⟩
        replace hq7 := hq7.symm
        subst hq7
        refine l_pure rfl (s_not  rfl ?_)
        refine l_pure rfl (s_move  rfl ?_)
        refine l_pure (gd_yes 42 (by kernel_rfl) rfl hdy) (s_fld  hk3_6 fo_66_4 ?_)
        refine l_read (gd_yes 42 (by kernel_rfl) rfl hdy) (s_ldo (k := 0)  rfl vi_3 hS rfl rfl rfl (.inr rfl) ?_)
        refine l_heavy (gd_yes 42 (by kernel_rfl) rfl hdy) (s_call Tryz.call64 rfl (isDay_ok o.acq _) ?_)
        rintro _ wq8 ⟨rfl, hq8⟩
        replace hq8 := hq8.symm
        subst hq8
        refine l_pure (gd_yes 42 (by kernel_rfl) rfl hdy) (s_not  rfl ?_)
        refine l_pure rfl (s_pick (vb rfl hdy) rfl ?_)
        refine l_pure rfl (s_asg  rfl ?_)
        refine l_nil ?_
        repeat (with_reducible first | refine c_seq ?_ | refine c_block ?_ | refine c_skip ?_ | refine x_then ?_ | refine x_block ?_)
        exact ⟨_, rfl, by assumption, by assumption, by assumption, by assumption, by assumption, vb rfl (by cases isDay o.acq <;> simp), hS⟩
    clear hS
    rintro ρ w4 ⟨h0, h6, h18, h19, h20, h37, hS⟩
    repeat (with_reducible first | refine c_seq ?_ | refine c_block ?_ | refine c_skip ?_ | refine x_then ?_ | refine x_block ?_)
    by_cases hday : isDay o.inc = false ∨ isDay o.acq = false
    · refine c_yes h37 (decide_eq_true hday) ?_
      repeat (with_reducible first | refine c_seq ?_ | refine c_block ?_ | refine c_skip ?_ | refine x_then ?_ | refine x_block ?_)
      have he : obErr n o = 1 := by unfold obErr; rw [if_neg hp', if_neg hneg, if_pos hday]
      repeat (with_reducible first | refine c_seq ?_ | refine c_block ?_ | refine c_skip ?_ | refine x_then ?_ | refine x_block ?_)
      refine c_reg ?_
      refine l_pure rfl (s_asg  rfl ?_)
      refine l_nil ?_
      repeat (with_reducible first | refine c_seq ?_ | refine c_block ?_ | refine c_skip ?_ | refine x_then ?_ | refine x_block ?_)
      refine c_ret ?_
      repeat (with_reducible first | refine x_then_ret ?_ | refine x_block_ret ?_)
      refine r_one rfl rfl ?_
      exact ⟨vi rfl (by rw [f2 (by rw [he]; decide), he]), hS.below⟩
    refine c_no h37 (decide_eq_false hday) ?_
    repeat (with_reducible first | refine c_seq ?_ | refine c_block ?_ | refine c_skip ?_ | refine x_then ?_ | refine x_block ?_)
    refine c_reg ?_
    refine l_pure rfl (s_fld  h6 fo_66_4 ?_)
    refine l_read rfl (s_ldo (k := 0)  rfl vi_3 hS rfl rfl rfl (.inr rfl) ?_)
    refine l_pure rfl (s_fld  h6 fo_66_3 ?_)
    refine l_read rfl (s_ldo (k := 0)  rfl vi_3 hS rfl rfl rfl (.inr rfl) ?_)
    refine l_pure rfl (s_lss  rfl rfl ?_)
    refine l_pure rfl (s_asg  rfl ?_)
    refine l_nil ?_
    repeat (with_reducible first | refine c_seq ?_ | refine c_block ?_ | refine c_skip ?_ | refine x_then ?_ | refine x_block ?_)
    by_cases hord : o.acq < o.inc
    · refine c_yes rfl (decide_eq_true hord) ?_
      repeat (with_reducible first | refine c_seq ?_ | refine c_block ?_ | refine c_skip ?_ | refine x_then ?_ | refine x_block ?_)
      have he : obErr n o = 15 := by unfold obErr; rw [if_neg hp', if_neg hneg, if_neg hday, if_pos hord]
      repeat (with_reducible first | refine c_seq ?_ | refine c_block ?_ | refine c_skip ?_ | refine x_then ?_ | refine x_block ?_)
      refine c_reg ?_
      refine l_pure rfl (s_asg  rfl ?_)
      refine l_nil ?_
      repeat (with_reducible first | refine c_seq ?_ | refine c_block ?_ | refine c_skip ?_ | refine x_then ?_ | refine x_block ?_)
      refine c_ret ?_
      repeat (with_reducible first | refine x_then_ret ?_ | refine x_block_ret ?_)
      refine r_one rfl rfl ?_
      exact ⟨vi rfl (by rw [f2 (by rw [he]; decide), he]), hS.below⟩
    · refine c_no rfl (decide_eq_false hord) ?_
      repeat (with_reducible first | refine c_seq ?_ | refine c_block ?_ | refine c_skip ?_ | refine x_then ?_ | refine x_block ?_)
      have he : obErr n o = 0 := by unfold obErr; rw [if_neg hp', if_neg hneg, if_neg hday, if_neg hord]
      repeat (with_reducible first | refine c_seq ?_ | refine c_block ?_ | refine c_skip ?_ | refine x_then ?_ | refine x_block ?_)
      refine c_reg ?_
      refine l_pure rfl (s_add  h20 rfl (IntWalk.i64_in _ (by omega)) ?_)
      refine l_pure rfl (s_move  rfl ?_)
      refine l_nil ?_
      repeat (with_reducible first | refine c_seq ?_ | refine c_block ?_ | refine c_skip ?_ | refine x_then ?_ | refine x_block ?_)
      exact ⟨i + 1, _, rfl, ⟨hlt, f1 he, by assumption, by assumption, by assumption, vi rfl (by omega), hS.drop (List.sublist_cons_self _ _)⟩, by omega⟩
  · refine c_no rfl (decide_eq_false (by omega)) ?_
    repeat (with_reducible first | refine c_seq ?_ | refine c_block ?_ | refine c_skip ?_ | refine x_then ?_ | refine x_block ?_)
    refine c_exit ?_
    repeat (with_reducible first | refine x_then_exit ?_ | refine x_block_exit ?_ | refine x_block_pass rfl ?_)
    repeat (with_reducible first | refine c_seq ?_ | refine c_block ?_ | refine c_skip ?_ | refine x_then ?_ | refine x_block ?_)
    have e : l.take i = l := List.take_of_length_le (by omega)
    rw [e] at hok
    repeat (with_reducible first | refine c_seq ?_ | refine c_block ?_ | refine c_skip ?_ | refine x_then ?_ | refine x_block ?_)
    refine c_reg ?_
    refine l_pure rfl (s_asg  rfl ?_)
    refine l_nil ?_
    repeat (with_reducible first | refine c_seq ?_ | refine c_block ?_ | refine c_skip ?_ | refine x_then ?_ | refine x_block ?_)
    refine c_ret ?_
    repeat (with_reducible first | refine x_then_ret ?_ | refine x_block_ret ?_)
    refine r_one rfl rfl ?_
    exact ⟨vi rfl hok.symm, hS.below⟩
theorem ochk_ok (n c s : Int) (vl : Value) (l : List Ob) (w : World) (hl : Sl encOb 8 w vl l) (hB : ObB MX l) :
    Ret Tryz.prog 28 #[.int .i64 n, vl, .int .i64 c, .int .i64 s] w fun v w' => v = .int .i64 (chkE n l c s) ∧ Below w.heap.size w w' := by
  have hS := St.init w
  refine enter Tryz.func28 rfl Tryz.ntmps28 rfl ?_
  repeat (with_reducible first | refine c_seq ?_ | refine c_block ?_ | refine c_skip ?_ | refine x_then ?_ | refine x_block ?_)
  refine c_reg ?_
  refine l_pure rfl (s_asg  rfl ?_)
  refine l_nil ?_
  repeat (with_reducible first | refine c_seq ?_ | refine c_block ?_ | refine c_skip ?_ | refine x_then ?_ | refine x_block ?_)
  refine c_reg ?_
  refine l_pure rfl (s_move  rfl ?_)
  refine l_pure rfl (s_move  rfl ?_)
  refine l_heavy rfl (s_call Tryz.call63 rfl (OCheck_ok n vl l _ hl hB) ?_)
  rintro _ wc1 ⟨rfl, hBc1⟩
  replace hS := hS.grow hBc1
  refine l_pure rfl (s_asg  rfl ?_)
  refine l_nil ?_
  repeat (with_reducible first | refine c_seq ?_ | refine c_block ?_ | refine c_skip ?_ | refine x_then ?_ | refine x_block ?_)
  refine c_reg ?_
  refine l_pure rfl (s_move  rfl ?_)
  refine l_pure rfl (s_neq  rfl rfl ?_)
  refine l_nil ?_
  repeat (with_reducible first | refine c_seq ?_ | refine c_block ?_ | refine c_skip ?_ | refine x_then ?_ | refine x_block ?_)
  by_cases he : obsE n l = 0
  case neg =>
    refine c_yes rfl (decide_eq_true he) ?_
    repeat (with_reducible first | refine c_seq ?_ | refine c_block ?_ | refine c_skip ?_ | refine x_then ?_ | refine x_block ?_)
    refine c_reg ?_
    refine l_pure rfl (s_move  rfl ?_)
    refine l_pure rfl (s_asg  rfl ?_)
    refine l_nil ?_
    repeat (with_reducible first | refine c_seq ?_ | refine c_block ?_ | refine c_skip ?_ | refine x_then ?_ | refine x_block ?_)
    refine c_ret ?_
    repeat (with_reducible first | refine x_then_ret ?_ | refine x_block_ret ?_)
    refine r_one rfl rfl ?_
    exact ⟨vi rfl (by unfold chkE; rw [if_pos he]), hS.below⟩
  refine c_no rfl (decide_eq_false (fun g => g he)) ?_
  repeat (with_reducible first | refine c_seq ?_ | refine c_block ?_ | refine c_skip ?_ | refine x_then ?_ | refine x_block ?_)
  refine c_cut1 (fun ρ w' => ρ 23 = .bool (decide (isDay c = false ∨ isDay s = false)) ∧ St w w' []) ?_ ?_
  · repeat (with_reducible first | refine c_seq ?_ | refine c_block ?_ | refine c_skip ?_ | refine x_then ?_ | refine x_block ?_)
    cases hd : isDay c with
    | false =>
      have hdn : (!isDay c) = true := by rw [hd]; rfl
      repeat (with_reducible first | refine c_seq ?_ | refine c_block ?_ | refine c_skip ?_ | refine x_then ?_ | refine x_block ?_)
      refine c_reg ?_
      refine l_pure rfl (s_move  rfl ?_)
      refine l_heavy rfl (s_call Tryz.call64 rfl (isDay_ok c _) ?_)
      rintro _ wq2 ⟨rfl, hq2⟩
      replace hq2 := hq2.symm
      subst hq2
      refine l_pure rfl (s_not  rfl ?_)
      refine l_pure rfl (s_move  rfl ?_)
      refine l_no (gno_yes 19 (by kernel_rfl) rfl hdn) ?_
      refine l_no (gno_yes 19 (by kernel_rfl) rfl hdn) ?_
      refine l_no (gno_yes 19 (by kernel_rfl) rfl hdn) ?_
      refine l_pure rfl (s_pick (vb rfl hdn) rfl ?_)
      refine l_nil ?_
      repeat (with_reducible first | refine c_seq ?_ | refine c_block ?_ | refine c_skip ?_ | refine x_then ?_ | refine x_block ?_)
      exact ⟨_, rfl, vb rfl (by simp), hS⟩
    | true =>
      have hdy : (!isDay c) = false := by rw [hd]; rfl
      repeat (with_reducible first | refine c_seq ?_ | refine c_block ?_ | refine c_skip ?_ | refine x_then ?_ | refine x_block ?_)
      refine c_reg ?_
      refine l_pure rfl (s_move  rfl ?_)
      refine l_heavy rfl (s_call Tryz.call64 rfl (isDay_ok c _) ?_)
      rintro _ wq3 ⟨rfl, hq3⟩
      replace hq3 := hq3.symm
      subst hq3
      refine l_pure rfl (s_not  rfl ?_)
      refine l_pure rfl (s_move  rfl ?_)
      refine l_pure (gd_yes 19 (by kernel_rfl) rfl hdy) (s_move  rfl ?_)
      refine l_heavy (gd_yes 19 (by kernel_rfl) rfl hdy) (s_call Tryz.call64 rfl (isDay_ok s _) ?_)
      rintro _ wq4 ⟨rfl, hq4⟩
      replace hq4 := hq4.symm
      subst hq4
      refine l_pure (gd_yes 19 (by kernel_rfl) rfl hdy) (s_not  rfl ?_)
      refine l_pure rfl (s_pick (vb rfl hdy) rfl ?_)
      refine l_nil ?_
      repeat (with_reducible first | refine c_seq ?_ | refine c_block ?_ | refine c_skip ?_ | refine x_then ?_ | refine x_block ?_)
      exact ⟨_, rfl, vb rfl (by cases isDay s <;> simp), hS⟩
  clear hS
  rintro ρ w4 ⟨h23, hS⟩
  repeat (with_reducible first | refine c_seq ?_ | refine c_block ?_ | refine c_skip ?_ | refine x_then ?_ | refine x_block ?_)
  by_cases hday : isDay c = false ∨ isDay s = false
  · refine c_yes h23 (decide_eq_true hday) ?_
    repeat (with_reducible first | refine c_seq ?_ | refine c_block ?_ | refine c_skip ?_ | refine x_then ?_ | refine x_block ?_)
    refine c_reg ?_
    refine l_pure rfl (s_asg  rfl ?_)
    refine l_nil ?_
    repeat (with_reducible first | refine c_seq ?_ | refine c_block ?_ | refine c_skip ?_ | refine x_then ?_ | refine x_block ?_)
    refine c_ret ?_
    repeat (with_reducible first | refine x_then_ret ?_ | refine x_block_ret ?_)
    refine r_one rfl rfl ?_
    exact ⟨vi rfl (by unfold chkE; rw [if_neg (fun g => g he), if_pos hday]), hS.below⟩
  refine c_no h23 (decide_eq_false hday) ?_
  repeat (with_reducible first | refine c_seq ?_ | refine c_block ?_ | refine c_skip ?_ | refine x_then ?_ | refine x_block ?_)
  refine c_reg ?_
  refine l_pure rfl (s_asg  rfl ?_)
  refine l_nil ?_
  repeat (with_reducible first | refine c_seq ?_ | refine c_block ?_ | refine c_skip ?_ | refine x_then ?_ | refine x_block ?_)
  refine c_ret ?_
  repeat (with_reducible first | refine x_then_ret ?_ | refine x_block_ret ?_)
  refine r_one rfl rfl ?_
  exact ⟨vi rfl (by unfold chkE; rw [if_neg (fun g => g he), if_neg hday]), hS.below⟩
end Go.Proofs.YtdafaibhiobpaaaGreatDoor
namespace Go.Proofs.YtdafaibhiobpaaaGreatDoor
open Go Go.RowKit Go.Sx
def zI (L : List Nat) : List Int := L.map fun i : Nat => (i : Int)
theorem zI_len (L : List Nat) : (zI L).length = L.length := List.length_map _
theorem zI_get (L : List Nat) {k : Nat} (h : k < L.length) : (zI L).getD k 0 = ((L.getD k 0 : Nat) : Int) := by
  unfold zI
  rw [List.getD_eq_getElem?_getD, List.getElem?_map, List.getD_eq_getElem?_getD, List.getElem?_eq_getElem h]; rfl
def cmpO (l : List Ob) (x y : Int) : Int := (gO l x.toNat).inc - (gO l y.toNat).inc
theorem ltC_cmpO (l : List Ob) (i k : Nat) : ltC (cmpO l) (i : Int) (k : Int) = older l i k := by
  unfold ltC cmpO older
  rw [decide_eq_decide, Int.toNat_natCast, Int.toNat_natCast]
  omega
theorem sort_zI (l : List Ob) (L : List Nat) : isort (ltC (cmpO l)) (zI L) = zI (isort (older l) L) := isort_map (f := fun i : Nat => (i : Int)) (fun i k => ltC_cmpO l i k) L
/-- All days are days. -/
def Days (l : List Ob) : Prop := ∀ o ∈ l, 0 ≤ o.inc ∧ o.inc ≤ 1048576
theorem eligible1_ok (p i k : Nat) (vl : Value) (l : List Ob) (w : World) (hp : At w ⟨p, 0, none⟩ [vl]) (hl : Sl encOb 8 w vl l) (hd : Days l) (hi : i < l.length) (hk : k < l.length) :
    Ret Tryz.prog 67 #[.int .i64 i, .int .i64 k, .pointer (some ⟨p, 0, none⟩)] w fun v w' => v = .int .i64 ((gO l i).inc - (gO l k).inc) ∧ Below w.heap.size w w' := by
  have hS := St.init w
  have d1 := hd _ (getD_mem l i zOb hi)
  have d2 := hd _ (getD_mem l k zOb hk)
  refine enter Tryz.func67 rfl Tryz.ntmps67 rfl ?_
  repeat (with_reducible first | refine c_seq ?_ | refine c_block ?_ | refine c_skip ?_ | refine x_then ?_ | refine x_block ?_)
  refine c_reg ?_
  refine l_pure rfl (s_asg  rfl ?_)
  refine l_nil ?_
  repeat (with_reducible first | refine c_seq ?_ | refine c_block ?_ | refine c_skip ?_ | refine x_then ?_ | refine x_block ?_)
  refine c_draw [(0, .read), (1, .pure), (2, .pure), (3, .pure), (4, .read), (5, .read), (6, .pure), (7, .pure), (8, .pure), (9, .read), (10, .pure), (11, .pure)] (by kernel_rfl) (by kernel_rfl) hS ?_
  intro wz1 hS hBz1
  refine w_read rfl rfl (s_ld (cs := [vl])  rfl vi_23 (hp.below hS.below) rfl rfl (.inr rfl) ?_)
  refine w_pure rfl rfl (s_move  rfl ?_)
  refine w_pure rfl rfl (s_ixr (i := i)  rfl rfl (hl.below hS.below) (by omega) (by first | omega | (simp; done) | (simp; omega)) si_23 ?_)
  refine w_pure rfl rfl (s_fldr  rfl (spot_el (hl.below hS.below) (fun _ => rfl) (by decide) (by first | omega | (simp; done) | (simp; omega))) fo_66_3 ?_)
  refine w_read rfl rfl (s_ldfe (i := i) (off := 5) zOb  rfl vi_3 (hl.below hS.below) (fun _ => rfl) (by decide) (by first | omega | (simp; done) | (simp; omega)) rfl rfl (.inr rfl) ?_)
  refine w_read rfl rfl (s_ld (cs := [vl])  rfl vi_23 (hp.below hS.below) rfl rfl (.inr rfl) ?_)
  refine w_pure rfl rfl (s_move  rfl ?_)
  refine w_pure rfl rfl (s_ixr (i := k)  rfl rfl (hl.below hS.below) (by omega) (by first | omega | (simp; done) | (simp; omega)) si_23 ?_)
  refine w_pure rfl rfl (s_fldr  rfl (spot_el (hl.below hS.below) (fun _ => rfl) (by decide) (by first | omega | (simp; done) | (simp; omega))) fo_66_3 ?_)
  refine w_read rfl rfl (s_ldfe (i := k) (off := 5) zOb  rfl vi_3 (hl.below hS.below) (fun _ => rfl) (by decide) (by first | omega | (simp; done) | (simp; omega)) rfl rfl (.inr rfl) ?_)
  refine w_pure rfl rfl (s_sub  rfl rfl (IntWalk.i64_in _ (by omega)) ?_)
  refine w_pure rfl rfl (s_asg  rfl ?_)
  refine w_end ?_
  repeat (with_reducible first | refine c_seq ?_ | refine c_block ?_ | refine c_skip ?_ | refine x_then ?_ | refine x_block ?_)
  refine c_ret ?_
  repeat (with_reducible first | refine x_then_ret ?_ | refine x_block_ret ?_)
  refine r_one rfl rfl ?_
  exact ⟨rfl, hS.below⟩
set_option maxHeartbeats 1000000 in
theorem eligible_ok (vl : Value) (l : List Ob) (c s a b : Int) (w : World) (hl : Sl encOb 8 w vl l) (hd : Days l) (h20 : l.length ≤ 20) :
    Ret Tryz.prog 30 #[vl, .int .i64 c, .int .i64 s, .int .i64 a, .int .i64 b] w fun r w' => ∃ LO, Gl enI 3 1 r (zI (ordL l c s a b)) LO ∧ St w w' ([] ++ LO) := by
  have hS := St.init w
  have hcell : vl.cells.toList = [vl] := by obtain ⟨aa, cc, rfl, _⟩ := hl.form; rfl
  refine enter Tryz.func30 rfl Tryz.ntmps30 rfl ?_
  repeat (with_reducible first | refine c_seq ?_ | refine c_block ?_ | refine c_skip ?_ | refine x_then ?_ | refine x_block ?_)
  refine c_reg ?_
  refine l_heavy rfl (s_box  rfl rfl hS ?_)
  intro b5 wz1 hS hBz1
  refine l_pure rfl (s_asg  rfl ?_)
  refine l_nil ?_
  repeat (with_reducible first | refine c_seq ?_ | refine c_block ?_ | refine c_skip ?_ | refine x_then ?_ | refine x_block ?_)
  replace hS : St w _ [(b5, 23, vl.cells.toList)] := hS
  rw [hcell] at hS
  repeat (with_reducible first | refine c_seq ?_ | refine c_block ?_ | refine c_skip ?_ | refine x_then ?_ | refine x_block ?_)
  refine c_reg ?_
  refine l_pure rfl (s_asg  rfl ?_)
  refine l_nil ?_
  repeat (with_reducible first | refine c_seq ?_ | refine c_block ?_ | refine c_skip ?_ | refine x_then ?_ | refine x_block ?_)
  refine c_reg ?_
  refine l_read rfl (s_ldo (k := 0)  rfl vi_23 hS rfl rfl rfl (.inr rfl) ?_)
  refine l_pure rfl (s_lenr  rfl (hl.below hS.below) ⟨_, Tryz.underlying23⟩ ?_)
  refine l_pure rfl (s_move  rfl ?_)
  refine l_nil ?_
  repeat (with_reducible first | refine c_seq ?_ | refine c_skip ?_ | refine x_then ?_ | refine x_block ?_)
  refine c_cut1 (fun ρ w' => ρ 5 = .pointer (some ⟨b5, 0, none⟩) ∧ ∃ sO LO, ρ 11 = sO ∧ Gl enI 3 1 sO (zI (selL l c s a b l.length)) LO ∧ St w w' ([(b5, 23, [vl])] ++ LO)) ?_ ?_
  · repeat (with_reducible first | refine c_seq ?_ | refine c_block ?_ | refine c_skip ?_ | refine x_then ?_ | refine x_block ?_)
    refine c_loop (σ := Nat) (fun i ρ w' => i ≤ l.length ∧ ρ 1 = .int .i64 c ∧ ρ 2 = .int .i64 s ∧ ρ 3 = .int .i64 a ∧ ρ 4 = .int .i64 b ∧ ρ 5 = .pointer (some ⟨b5, 0, none⟩) ∧ ρ 14 = vl ∧ ρ 15 = .int .i64 l.length ∧ ρ 16 = .int .i64 i ∧
        ∃ sO LO, ρ 11 = sO ∧ Gl enI 3 1 sO (zI (selL l c s a b i)) LO ∧ St w w' ([(b5, 23, [vl])] ++ LO)) (fun i => l.length - i) 0
      ⟨Nat.zero_le _, rfl, rfl, rfl, rfl, rfl, rfl, rfl, rfl, ⟨_, [], rfl, Gl.nil _ _ _, hS⟩⟩ ?_
    clear hS
    rintro i ρ w2 ⟨hi, h1, h2, h3, h4, h5, h14, h15, h16, sO, LO, h11, hG, hS⟩
    have hsl := selL_len l c s a b i
    have hzl := zI_len (selL l c s a b i)
    have hsu := selL_succ l c s a b i
    repeat (with_reducible first | refine c_seq ?_ | refine c_block ?_ | refine c_skip ?_ | refine x_then ?_ | refine x_block ?_)
    refine c_reg ?_
    refine l_pure rfl (s_lss  h16 h15 ?_)
    refine l_nil ?_
    repeat (with_reducible first | refine c_seq ?_ | refine c_block ?_ | refine c_skip ?_ | refine x_then ?_ | refine x_block ?_)
    by_cases hlt : i < l.length
    · refine c_yes rfl (decide_eq_true (by omega)) ?_
      repeat (with_reducible first | refine c_seq ?_ | refine c_block ?_ | refine c_skip ?_ | refine x_then ?_ | refine x_block ?_)
      obtain ⟨o, ho⟩ : ∃ o, o = gO l i := ⟨_, rfl⟩
      repeat (with_reducible first | refine c_seq ?_ | refine c_block ?_ | refine c_skip ?_ | refine x_then ?_ | refine x_block ?_)
      refine c_reg ?_
      refine l_pure rfl (s_move  h16 ?_)
      refine l_pure rfl (s_ixr (i := i)  h14 h16 (hl.below hS.below) (by omega) (by first | omega | (simp; done) | (simp; omega)) si_23 ?_)
      refine l_read rfl (s_lde (i := i) zOb  rfl vi_66 (hl.below hS.below) (by first | omega | (simp; done) | (simp; omega)) rfl rfl (.inl rfl) ?_)
      refine l_heavy rfl (s_alloc  vi_66 hS ?_)
      intro b13 wz2 hS hBz2
      refine l_pure rfl (s_asg  rfl ?_)
      refine l_heavy rfl (s_sta (k := 0)  rfl rfl vi_66 hS rfl rfl rfl (Nat.le_of_ble_eq_true rfl) rfl ?_)
      intro wz3 hS
      refine l_nil ?_
      repeat (with_reducible first | refine c_seq ?_ | refine c_block ?_ | refine c_skip ?_ | refine x_then ?_ | refine x_block ?_)
      replace hS : St w _ ([(b13, 66, encOb (gO l i)), (b5, 23, [vl])] ++ LO) := hS
      rw [← ho] at hS
      repeat (with_reducible first | refine c_seq ?_ | refine c_block ?_ | refine c_skip ?_ | refine x_then ?_ | refine x_block ?_)
      refine c_forget (fun ρ' => ρ' 1 = .int .i64 c ∧ ρ' 2 = .int .i64 s ∧ ρ' 3 = .int .i64 a ∧ ρ' 4 = .int .i64 b ∧ ρ' 5 = .pointer (some ⟨b5, 0, none⟩) ∧ ρ' 14 = vl ∧ ρ' 15 = .int .i64 l.length ∧ ρ' 16 = .int .i64 i ∧ ρ' 11 = sO ∧ ρ' 12 = .int .i64 i ∧ ρ' 13 = .pointer (some ⟨b13, 0, none⟩) ∧ True) ⟨h1, h2, h3, h4, h5, h14, h15, h16, h11, rfl, rfl, trivial⟩ ?_
      rintro ρk4 ⟨hk4_1, hk4_2, hk4_3, hk4_4, hk4_5, hk4_14, hk4_15, hk4_16, hk4_11, hk4_12, hk4_13, -⟩
      refine c_cut1 (fun ρ w' => ρ 1 = .int .i64 c ∧ ρ 2 = .int .i64 s ∧ ρ 3 = .int .i64 a ∧ ρ 4 = .int .i64 b ∧ ρ 5 = .pointer (some ⟨b5, 0, none⟩) ∧ ρ 14 = vl ∧ ρ 15 = .int .i64 l.length ∧ ρ 16 = .int .i64 i ∧ ρ 11 = sO ∧ ρ 12 = .int .i64 i ∧ ρ 36 = .bool (goes l c s a b i) ∧ St w w' ([(b13, 66, encOb o), (b5, 23, [vl])] ++ LO)) ?_ ?_
      · have hgo : goes l c s a b i = (decide (o.deb = a) && decide (o.cre = b) && eligB o c s) := by rw [ho]; rfl
        rw [hgo]
        by_cases g1 : o.deb = a
        case neg =>
          repeat (with_reducible first | refine c_seq ?_ | refine c_block ?_ | refine c_skip ?_ | refine x_then ?_ | refine x_block ?_)
          refine c_reg ?_
          refine l_pure rfl (s_fld  hk4_13 fo_66_0 ?_)
          refine l_read rfl (s_ldo (k := 0)  rfl vi_3 hS rfl rfl rfl (.inr rfl) ?_)
          refine l_pure rfl (s_move  hk4_3 ?_)
          refine l_pure rfl (s_eql  rfl rfl ?_)
          refine l_pure rfl (s_move  rfl ?_)
          refine l_no (gno_yes 25 (by kernel_rfl) rfl (decide_eq_false g1)) ?_
          refine l_no (gno_yes 25 (by kernel_rfl) rfl (decide_eq_false g1)) ?_
          refine l_no (gno_yes 25 (by kernel_rfl) rfl (decide_eq_false g1)) ?_
          refine l_no (gno_yes 25 (by kernel_rfl) rfl (decide_eq_false g1)) ?_
          refine l_pure rfl (s_pick (vb rfl (decide_eq_false g1)) rfl ?_)
          refine l_pure rfl (s_move  rfl ?_)
          refine l_no (gno_yes 31 (by kernel_rfl) rfl rfl) ?_
          refine l_no (gno_yes 31 (by kernel_rfl) rfl rfl) ?_
          refine l_no (gno_yes 31 (by kernel_rfl) rfl rfl) ?_
          refine l_no (gno_yes 31 (by kernel_rfl) rfl rfl) ?_
          refine l_pure rfl (s_pick (vb rfl rfl) rfl ?_)
          refine l_nil ?_
          repeat (with_reducible first | refine c_seq ?_ | refine c_block ?_ | refine c_skip ?_ | refine x_then ?_ | refine x_block ?_)
          exact ⟨_, rfl, by assumption, by assumption, by assumption, by assumption, by assumption, by assumption, by assumption, by assumption, by assumption, by assumption, vb rfl (by simp [g1]), hS⟩
        by_cases g2 : o.cre = b
        case neg =>
          repeat (with_reducible first | refine c_seq ?_ | refine c_block ?_ | refine c_skip ?_ | refine x_then ?_ | refine x_block ?_)
          refine c_reg ?_
          refine l_pure rfl (s_fld  hk4_13 fo_66_0 ?_)
          refine l_read rfl (s_ldo (k := 0)  rfl vi_3 hS rfl rfl rfl (.inr rfl) ?_)
          refine l_pure rfl (s_move  hk4_3 ?_)
          refine l_pure rfl (s_eql  rfl rfl ?_)
          refine l_pure rfl (s_move  rfl ?_)
          refine l_pure (gd_yes 25 (by kernel_rfl) rfl (decide_eq_true g1)) (s_fld  hk4_13 fo_66_1 ?_)
          refine l_read (gd_yes 25 (by kernel_rfl) rfl (decide_eq_true g1)) (s_ldo (k := 0)  rfl vi_3 hS rfl rfl rfl (.inr rfl) ?_)
          refine l_pure (gd_yes 25 (by kernel_rfl) rfl (decide_eq_true g1)) (s_move  hk4_4 ?_)
          refine l_pure (gd_yes 25 (by kernel_rfl) rfl (decide_eq_true g1)) (s_eql  rfl rfl ?_)
          refine l_pure rfl (s_pick (vb rfl (decide_eq_true g1)) rfl ?_)
          refine l_pure rfl (s_move  rfl ?_)
          refine l_no (gno_yes 31 (by kernel_rfl) rfl (decide_eq_false g2)) ?_
          refine l_no (gno_yes 31 (by kernel_rfl) rfl (decide_eq_false g2)) ?_
          refine l_no (gno_yes 31 (by kernel_rfl) rfl (decide_eq_false g2)) ?_
          refine l_no (gno_yes 31 (by kernel_rfl) rfl (decide_eq_false g2)) ?_
          refine l_pure rfl (s_pick (vb rfl (decide_eq_false g2)) rfl ?_)
          refine l_nil ?_
          repeat (with_reducible first | refine c_seq ?_ | refine c_block ?_ | refine c_skip ?_ | refine x_then ?_ | refine x_block ?_)
          exact ⟨_, rfl, by assumption, by assumption, by assumption, by assumption, by assumption, by assumption, by assumption, by assumption, by assumption, by assumption, vb rfl (by simp [g2]), hS⟩
        repeat (with_reducible first | refine c_seq ?_ | refine c_block ?_ | refine c_skip ?_ | refine x_then ?_ | refine x_block ?_)
        refine c_reg ?_
        refine l_pure rfl (s_fld  hk4_13 fo_66_0 ?_)
        refine l_read rfl (s_ldo (k := 0)  rfl vi_3 hS rfl rfl rfl (.inr rfl) ?_)
        refine l_pure rfl (s_move  hk4_3 ?_)
        refine l_pure rfl (s_eql  rfl rfl ?_)
        refine l_pure rfl (s_move  rfl ?_)
        refine l_pure (gd_yes 25 (by kernel_rfl) rfl (decide_eq_true g1)) (s_fld  hk4_13 fo_66_1 ?_)
        refine l_read (gd_yes 25 (by kernel_rfl) rfl (decide_eq_true g1)) (s_ldo (k := 0)  rfl vi_3 hS rfl rfl rfl (.inr rfl) ?_)
        refine l_pure (gd_yes 25 (by kernel_rfl) rfl (decide_eq_true g1)) (s_move  hk4_4 ?_)
        refine l_pure (gd_yes 25 (by kernel_rfl) rfl (decide_eq_true g1)) (s_eql  rfl rfl ?_)
        refine l_pure rfl (s_pick (vb rfl (decide_eq_true g1)) rfl ?_)
        refine l_pure rfl (s_move  rfl ?_)
        refine l_read (gd_yes 31 (by kernel_rfl) rfl (decide_eq_true g2)) (s_ldo (k := 0)  hk4_13 vi_66 hS rfl rfl rfl (.inl rfl) ?_)
        refine l_pure (gd_yes 31 (by kernel_rfl) rfl (decide_eq_true g2)) (s_move  hk4_1 ?_)
        refine l_pure (gd_yes 31 (by kernel_rfl) rfl (decide_eq_true g2)) (s_move  hk4_2 ?_)
        refine l_heavy (gd_yes 31 (by kernel_rfl) rfl (decide_eq_true g2)) (s_call Tryz.call41 rfl (Eligible_ok o c s _) ?_)
        rintro _ wc5 ⟨rfl, hBc5⟩
        replace hS := hS.grow hBc5
        refine l_pure rfl (s_pick (vb rfl (decide_eq_true g2)) rfl ?_)
        refine l_nil ?_
        repeat (with_reducible first | refine c_seq ?_ | refine c_block ?_ | refine c_skip ?_ | refine x_then ?_ | refine x_block ?_)
        exact ⟨_, rfl, by assumption, by assumption, by assumption, by assumption, by assumption, by assumption, by assumption, by assumption, by assumption, by assumption, vb rfl (by simp [g1, g2]), hS⟩
      clear hS h1 h2 h3 h4 h5 h14 h15 h16 h11
      rintro ρ w4 ⟨h1, h2, h3, h4, h5, h14, h15, h16, h11, h12, h36, hS⟩
      repeat (with_reducible first | refine c_seq ?_ | refine c_block ?_ | refine c_skip ?_ | refine x_then ?_ | refine x_block ?_)
      replace hS : St w w4 ([(b5, 23, [vl])] ++ LO) := hS.drop (List.sublist_cons_self _ _)
      cases hgo : goes l c s a b i with
      | true =>
        refine c_yes h36 hgo ?_
        repeat (with_reducible first | refine c_seq ?_ | refine c_block ?_ | refine c_skip ?_ | refine x_then ?_ | refine x_block ?_)
        rw [if_pos hgo] at hsu
        have e2 : zI (selL l c s a b i) ++ [(i : Int)] = zI (selL l c s a b (i + 1)) := by rw [hsu]; unfold zI; rw [List.map_append]; rfl
        repeat (with_reducible first | refine c_seq ?_ | refine c_block ?_ | refine c_skip ?_ | refine x_then ?_ | refine x_block ?_)
        refine c_reg ?_
        refine l_pure rfl (s_move  h11 ?_)
        refine l_pure rfl (s_move  h12 ?_)
        refine l_heavy rfl (s_bsl (vs := [.int .i64 (i : Int)])  rfl si_67 rfl (by decide) (by decide) (by decide) (by simp [Value.cells]) rfl hS ?_)
        intro bx wz6 hS hBz6
        refine l_heavy rfl (s_appl [(i : Int)]  rfl rfl si_67 (by decide) hG hS rfl rfl enI_len (enI_one [(i : Int)]) (by first | omega | (simp only [List.length_cons, List.length_nil]; omega)) (by first | omega | (simp only [List.length_cons, List.length_nil]; omega)) ?_)
        intro va7 La7 wa7 hG hS hga7
        refine l_pure rfl (s_asg  rfl ?_)
        refine l_nil ?_
        repeat (with_reducible first | refine c_seq ?_ | refine c_block ?_ | refine c_skip ?_ | refine x_then ?_ | refine x_block ?_)
        rw [e2] at hG
        repeat (with_reducible first | refine c_seq ?_ | refine c_block ?_ | refine c_skip ?_ | refine x_then ?_ | refine x_block ?_)
        refine c_reg ?_
        refine l_pure rfl (s_add  h16 rfl (IntWalk.i64_in _ (by omega)) ?_)
        refine l_pure rfl (s_move  rfl ?_)
        refine l_nil ?_
        repeat (with_reducible first | refine c_seq ?_ | refine c_block ?_ | refine c_skip ?_ | refine x_then ?_ | refine x_block ?_)
        exact ⟨i + 1, _, rfl, ⟨hlt, by assumption, by assumption, by assumption, by assumption, by assumption, by assumption, by assumption, vi rfl (by omega), ⟨_, _, rfl, hG, hS⟩⟩, by omega⟩
      | false =>
        refine c_no h36 hgo ?_
        repeat (with_reducible first | refine c_seq ?_ | refine c_block ?_ | refine c_skip ?_ | refine x_then ?_ | refine x_block ?_)
        rw [if_neg (by rw [hgo]; decide)] at hsu
        rw [← hsu] at hG
        repeat (with_reducible first | refine c_seq ?_ | refine c_block ?_ | refine c_skip ?_ | refine x_then ?_ | refine x_block ?_)
        refine c_reg ?_
        refine l_pure rfl (s_add  h16 rfl (IntWalk.i64_in _ (by omega)) ?_)
        refine l_pure rfl (s_move  rfl ?_)
        refine l_nil ?_
        repeat (with_reducible first | refine c_seq ?_ | refine c_block ?_ | refine c_skip ?_ | refine x_then ?_ | refine x_block ?_)
        exact ⟨i + 1, _, rfl, ⟨hlt, by assumption, by assumption, by assumption, by assumption, by assumption, by assumption, by assumption, vi rfl (by omega), ⟨_, _, h11, hG, hS⟩⟩, by omega⟩
    · refine c_no rfl (decide_eq_false (by omega)) ?_
      repeat (with_reducible first | refine c_seq ?_ | refine c_block ?_ | refine c_skip ?_ | refine x_then ?_ | refine x_block ?_)
      refine c_exit ?_
      repeat (with_reducible first | refine x_then_exit ?_ | refine x_block_exit ?_ | refine x_block_pass rfl ?_)
      repeat (with_reducible first | refine c_seq ?_ | refine c_block ?_ | refine c_skip ?_ | refine x_then ?_ | refine x_block ?_)
      obtain rfl : i = l.length := by omega
      exact ⟨_, rfl, h5, ⟨_, _, h11, hG, hS⟩⟩
  clear hS
  rintro ρ w2 ⟨h5, sO, LO, h11, hG, hS⟩
  repeat (with_reducible first | refine c_seq ?_ | refine c_block ?_ | refine c_skip ?_ | refine x_then ?_ | refine x_block ?_)
  have hsl := selL_len l c s a b l.length
  have hc : ∀ b', CmpOk 67 [.pointer (some ⟨b5, 0, none⟩)] (cmpO l) (zI (selL l c s a b l.length)) w b' 3 [(b5, 23, [vl])] := fun b' => by
    refine ⟨Tryz.call67, fun cs x y w' hS' hx hy => ?_⟩
    obtain ⟨i, hi, rfl⟩ := List.mem_map.1 hx
    obtain ⟨k, hk, rfl⟩ := List.mem_map.1 hy
    have h5' := hS'.at (k := 1) rfl 0 1
    have := eligible1_ok b5 i k vl l w' h5' (hl.below hS'.below) hd (selL_mem.1 hi).1 (selL_mem.1 hk).1
    unfold cmpO
    rw [Int.toNat_natCast, Int.toNat_natCast]
    exact this
  have hsort : Ret Tryz.prog 66 #[sO, .func (.func 67) #[] #[.pointer (some ⟨b5, 0, none⟩)]] w2 _ := SortStable_gl hc hG (by rw [zI_len]; omega) w2 hS
  repeat (with_reducible first | refine c_seq ?_ | refine c_block ?_ | refine c_skip ?_ | refine x_then ?_ | refine x_block ?_)
  refine c_reg ?_
  refine l_pure rfl (s_move  h11 ?_)
  refine l_pure rfl (s_mkf1  h5 ?_)
  refine l_heavy rfl (s_call Tryz.call66 rfl (hsort) ?_)
  rintro r w3 ⟨rfl, LB, hG2, hS2⟩
  rw [sort_zI] at hG2
  refine l_nil ?_
  repeat (with_reducible first | refine c_seq ?_ | refine c_block ?_ | refine c_skip ?_ | refine x_then ?_ | refine x_block ?_)
  refine c_reg ?_
  refine l_pure rfl (s_move  h11 ?_)
  refine l_pure rfl (s_asg  rfl ?_)
  refine l_nil ?_
  repeat (with_reducible first | refine c_seq ?_ | refine c_block ?_ | refine c_skip ?_ | refine x_then ?_ | refine x_block ?_)
  refine c_ret ?_
  repeat (with_reducible first | refine x_then_ret ?_ | refine x_block_ret ?_)
  refine r_one rfl rfl ?_
  exact ⟨LB, hG2, hS2.drop (List.sublist_append_right _ _)⟩
theorem total_ok (vr vi_ : Value) (q : Nat → Rat) (n K : Nat) (J : List Nat) (w : World) (hr : Sl encR 3 w vr (tab n fun i => ofQ (q i))) (hJ : Sl enI 1 w vi_ (zI J)) (hJn : ∀ i ∈ J, i < n) (hq : ∀ i, i < n → L (q i) ≤ K) (hK : J.length * (K + 1) + K + 1 ≤ MX) :
    Ret Tryz.prog 32 #[vr, vi_] w fun r w' => r = aggR (ofQ (totS q J)) ∧ Below w.heap.size w w' := by
  have hmax := hJ.maxLen
  have hzl := zI_len J
  have hS := St.init w
  refine enter Tryz.func32 rfl Tryz.ntmps32 rfl ?_
  repeat (with_reducible first | refine c_seq ?_ | refine c_block ?_ | refine c_skip ?_ | refine x_then ?_ | refine x_block ?_)
  refine c_reg ?_
  refine l_heavy rfl (s_alloc  vi_36 hS ?_)
  intro b4 wz1 hS hBz1
  refine l_nil ?_
  repeat (with_reducible first | refine c_seq ?_ | refine c_block ?_ | refine c_skip ?_ | refine x_then ?_ | refine x_block ?_)
  refine c_reg ?_
  refine l_pure rfl (s_build  rfl bz_36 ?_)
  refine l_heavy rfl (s_alloc  vi_36 hS ?_)
  intro b5 wz2 hS hBz2
  refine l_heavy rfl (s_sta (k := 0)  rfl rfl vi_36 hS rfl rfl rfl (Nat.le_of_ble_eq_true rfl) rfl ?_)
  intro wz3 hS
  refine l_nil ?_
  repeat (with_reducible first | refine c_seq ?_ | refine c_block ?_ | refine c_skip ?_ | refine x_then ?_ | refine x_block ?_)
  replace hS : St w _ [(b5, 36, encR zRR), (b4, 36, encR zRR)] := hS
  rw [encR_zero] at hS
  repeat (with_reducible first | refine c_seq ?_ | refine c_block ?_ | refine c_skip ?_ | refine x_then ?_ | refine x_block ?_)
  refine c_reg ?_
  refine l_pure rfl (s_move  rfl ?_)
  refine l_pure rfl (s_lenr  rfl (hJ.below hS.below) ⟨_, Tryz.underlying67⟩ ?_)
  refine l_pure rfl (s_move  rfl ?_)
  refine l_nil ?_
  repeat (with_reducible first | refine c_seq ?_ | refine c_block ?_ | refine c_skip ?_ | refine x_then ?_ | refine x_block ?_)
  refine c_loop (σ := Nat) (fun k ρ w' => k ≤ J.length ∧ ρ 0 = vr ∧ ρ 9 = vi_ ∧ ρ 10 = .int .i64 J.length ∧ ρ 11 = .int .i64 k ∧ ρ 4 = .pointer (some ⟨b4, 0, none⟩) ∧ ρ 5 = .pointer (some ⟨b5, 0, none⟩) ∧
      St w w' [(b5, 36, encR (ofQ (totS q (J.take k)))), (b4, 36, encR (ofQ 0))]) (fun k => J.length - k) 0
    ⟨Nat.zero_le _, rfl, rfl, vi rfl (by rw [hzl]), rfl, rfl, rfl, hS⟩ ?_
  clear hS
  rintro k ρ w2 ⟨hk, h0, h9, h10, h11, h4, h5, hS⟩
  repeat (with_reducible first | refine c_seq ?_ | refine c_block ?_ | refine c_skip ?_ | refine x_then ?_ | refine x_block ?_)
  refine c_reg ?_
  refine l_pure rfl (s_lss  h11 h10 ?_)
  refine l_nil ?_
  repeat (with_reducible first | refine c_seq ?_ | refine c_block ?_ | refine c_skip ?_ | refine x_then ?_ | refine x_block ?_)
  by_cases hlt : k < J.length
  · refine c_yes rfl (decide_eq_true (by omega)) ?_
    repeat (with_reducible first | refine c_seq ?_ | refine c_block ?_ | refine c_skip ?_ | refine x_then ?_ | refine x_block ?_)
    have hzg := zI_get J hlt
    obtain ⟨i, hi⟩ : ∃ i, i = J.getD k 0 := ⟨_, rfl⟩
    have hin : i < n := hJn i (by rw [hi]; exact getD_mem J k 0 hlt)
    rw [← hi] at hzg
    have e1 : (tab n fun i => ofQ (q i)).getD i zRR = ofQ (q i) := tab_get _ _ hin
    have htl : (tab n fun i => ofQ (q i)).length = n := tab_len _ _
    have e2 : totS q (J.take (k + 1)) = totS q (J.take k) + q i := by
      unfold totS
      rw [take_succ' J k 0 hlt, List.map_append, List.map_cons, List.map_nil, sumQ_snoc, ← hi]
    have l1 : L (totS q (J.take k)) ≤ k * (K + 1) + 1 := by
      have h := L_sumQ' (l := J.map q) (K := K) (fun x hx => by obtain ⟨j, hj, rfl⟩ := List.mem_map.1 hx; exact hq j (hJn j hj)) k
      rwa [← List.map_take] at h
    have l2 : k * (K + 1) ≤ J.length * (K + 1) := Nat.mul_le_mul_right _ (by omega)
    have l3 := hq i hin
    repeat (with_reducible first | refine c_seq ?_ | refine c_block ?_ | refine c_skip ?_ | refine x_then ?_ | refine x_block ?_)
    refine c_reg ?_
    refine l_pure rfl (s_ixr (i := k)  h9 h11 (hJ.below hS.below) (by omega) (by first | omega | (simp; done) | (simp; omega)) si_67 ?_)
    refine l_read rfl (s_lde (i := k) 0  rfl vi_3 (hJ.below hS.below) (by first | omega | (simp; done) | (simp; omega)) rfl rfl (.inr rfl) ?_)
    refine l_pure rfl (s_asg  rfl ?_)
    refine l_nil ?_
    repeat (with_reducible first | refine c_seq ?_ | refine c_block ?_ | refine c_skip ?_ | refine x_then ?_ | refine x_block ?_)
    rw [hzg]
    repeat (with_reducible first | refine c_seq ?_ | refine c_block ?_ | refine c_skip ?_ | refine x_then ?_ | refine x_block ?_)
    refine c_draw [(0, .read), (1, .pure), (2, .pure), (3, .pure), (4, .read), (5, .grow), (6, .free)] (by kernel_rfl) (by kernel_rfl) hS ?_
    intro wz4 hS hBz4
    refine w_read rfl rfl (s_ldo (k := 0)  h5 vi_36 hS rfl rfl rfl (.inl rfl) ?_)
    refine w_pure rfl rfl (s_move  h0 ?_)
    refine w_pure rfl rfl (s_move  rfl ?_)
    refine w_pure rfl rfl (s_ixr (i := i)  rfl rfl (hr.below hS.below) (by omega) (by first | omega | (simp; done) | (simp; omega)) si_25 ?_)
    refine w_read rfl rfl (s_lde (i := i) zRR  rfl vi_36 (hr.below hS.below) (by first | omega | (simp; done) | (simp; omega)) rfl rfl (.inl rfl) ?_)
    rw [e1]
    refine w_grow rfl rfl (s_call Tryz.call65 rfl (QAdd_ok (ofQ (totS q (J.take k))) (ofQ (q i)) _ (by rw [Lr_ofQ, Lr_ofQ]; omega)) ?_)
    rintro r w3 ⟨rfl, hB3⟩
    refine ⟨hB3, ?_⟩
    rw [toQ_ofQ, toQ_ofQ, ← e2]
    replace hS := hS.grow hB3
    refine w_free rfl rfl (s_sta (k := 0)  h5 rfl vi_36 hS rfl rfl rfl (Nat.le_of_ble_eq_true rfl) rfl ?_)
    intro wz5 hS
    refine w_end ?_
    repeat (with_reducible first | refine c_seq ?_ | refine c_block ?_ | refine c_skip ?_ | refine x_then ?_ | refine x_block ?_)
    refine c_reg ?_
    refine l_pure rfl (s_add  h11 rfl (IntWalk.i64_in _ (by omega)) ?_)
    refine l_pure rfl (s_move  rfl ?_)
    refine l_nil ?_
    repeat (with_reducible first | refine c_seq ?_ | refine c_block ?_ | refine c_skip ?_ | refine x_then ?_ | refine x_block ?_)
    exact ⟨k + 1, _, rfl, ⟨hlt, h0, h9, h10, vi rfl (by omega), h4, h5, hS⟩, by omega⟩
  · refine c_no rfl (decide_eq_false (by omega)) ?_
    repeat (with_reducible first | refine c_seq ?_ | refine c_block ?_ | refine c_skip ?_ | refine x_then ?_ | refine x_block ?_)
    refine c_exit ?_
    repeat (with_reducible first | refine x_then_exit ?_ | refine x_block_exit ?_ | refine x_block_pass rfl ?_)
    repeat (with_reducible first | refine c_seq ?_ | refine c_block ?_ | refine c_skip ?_ | refine x_then ?_ | refine x_block ?_)
    have e : J.take k = J := List.take_of_length_le (by omega)
    rw [e] at hS
    repeat (with_reducible first | refine c_seq ?_ | refine c_block ?_ | refine c_skip ?_ | refine x_then ?_ | refine x_block ?_)
    refine c_reg ?_
    refine l_read rfl (s_ldo (k := 0)  h5 vi_36 hS rfl rfl rfl (.inl rfl) ?_)
    refine l_heavy rfl (s_sta (k := 1)  h4 rfl vi_36 hS rfl rfl rfl (Nat.le_of_ble_eq_true rfl) rfl ?_)
    intro wz6 hS
    refine l_nil ?_
    repeat (with_reducible first | refine c_seq ?_ | refine c_block ?_ | refine c_skip ?_ | refine x_then ?_ | refine x_block ?_)
    refine c_ret ?_
    repeat (with_reducible first | refine x_then_ret ?_ | refine x_block_ret ?_)
    refine r_cell (k := 1) rfl h4 vi_36 hS rfl rfl ?_
    exact ⟨rfl, hS.below⟩
theorem amounts_ok (vl : Value) (l : List Ob) (K : Nat) (w : World) (hl : Sl encOb 8 w vl l) (hB : ObB K l) (hK : K + 1 ≤ MX) (hn : l.length ≤ 1000000) :
    Ret Tryz.prog 29 #[vl] w fun r w' => ∃ b, r = .slice (some ⟨b, 0, none⟩) l.length l.length ∧ St w w' [(b, 36, (tab l.length fun i => ofQ (oQ l i)).flatMap encR)] := by
  have hmax := hl.maxLen
  have hS := St.init w
  refine enter Tryz.func29 rfl Tryz.ntmps29 rfl ?_
  repeat (with_reducible first | refine c_seq ?_ | refine c_block ?_ | refine c_skip ?_ | refine x_then ?_ | refine x_block ?_)
  refine c_reg ?_
  refine l_pure rfl (s_asg  rfl ?_)
  refine l_nil ?_
  repeat (with_reducible first | refine c_seq ?_ | refine c_block ?_ | refine c_skip ?_ | refine x_then ?_ | refine x_block ?_)
  refine c_reg ?_
  refine l_pure rfl (s_move  rfl ?_)
  refine l_pure rfl (s_lenr  rfl (hl.below hS.below) ⟨_, Tryz.underlying23⟩ ?_)
  refine l_heavy rfl (s_makeE (enc := encR) (n := l.length) zRR  rfl rfl si_25 rfl (by omega) (by omega) (by omega) (by omega) hS ?_)
  intro b3 wz1 hS hBz1
  refine l_pure rfl (s_asg  rfl ?_)
  refine l_nil ?_
  repeat (with_reducible first | refine c_seq ?_ | refine c_block ?_ | refine c_skip ?_ | refine x_then ?_ | refine x_block ?_)
  rw [tab_rep] at hS
  repeat (with_reducible first | refine c_seq ?_ | refine c_block ?_ | refine c_skip ?_ | refine x_then ?_ | refine x_block ?_)
  refine c_reg ?_
  refine l_pure rfl (s_move  rfl ?_)
  refine l_pure rfl (s_lenr  rfl (hl.below hS.below) ⟨_, Tryz.underlying23⟩ ?_)
  refine l_pure rfl (s_move  rfl ?_)
  refine l_nil ?_
  repeat (with_reducible first | refine c_seq ?_ | refine c_block ?_ | refine c_skip ?_ | refine x_then ?_ | refine x_block ?_)
  refine c_loop (σ := Nat) (fun i ρ w' => i ≤ l.length ∧ ρ 3 = .slice (some ⟨b3, 0, none⟩) l.length l.length ∧ ρ 9 = vl ∧ ρ 10 = .int .i64 l.length ∧ ρ 11 = .int .i64 i ∧
      St w w' [(b3, 36, (tab l.length fun j => if j < i then ofQ (oQ l j) else zRR).flatMap encR)]) (fun i => l.length - i) 0
    ⟨Nat.zero_le _, rfl, rfl, rfl, rfl, hS⟩ ?_
  clear hS
  rintro i ρ w2 ⟨hi, h3, h9, h10, h11, hS⟩
  repeat (with_reducible first | refine c_seq ?_ | refine c_block ?_ | refine c_skip ?_ | refine x_then ?_ | refine x_block ?_)
  refine c_reg ?_
  refine l_pure rfl (s_lss  h11 h10 ?_)
  refine l_nil ?_
  repeat (with_reducible first | refine c_seq ?_ | refine c_block ?_ | refine c_skip ?_ | refine x_then ?_ | refine x_block ?_)
  by_cases hlt : i < l.length
  · refine c_yes rfl (decide_eq_true (by omega)) ?_
    repeat (with_reducible first | refine c_seq ?_ | refine c_block ?_ | refine c_skip ?_ | refine x_then ?_ | refine x_block ?_)
    have htl : (tab l.length fun j => if j < i then ofQ (oQ l j) else zRR).length = l.length := tab_len _ _
    obtain ⟨o, ho⟩ : ∃ o, o = l.getD i zOb := ⟨_, rfl⟩
    have hoB : Lr o.amt ≤ K := by rw [ho]; exact hB _ (getD_mem l i zOb hlt)
    have hset : (tab l.length fun j => if j < i then ofQ (oQ l j) else zRR).set i (ofQ (oQ l i)) = tab l.length fun j => if j < i + 1 then ofQ (oQ l j) else zRR := by
      rw [tab_set]
      refine tab_congr fun j _ => ?_
      by_cases e : j = i
      · subst e; rw [if_pos rfl, if_pos (by omega)]
      · rw [if_neg e]
        by_cases e2 : j < i
        · rw [if_pos e2, if_pos (by omega)]
        · rw [if_neg e2, if_neg (by omega)]
    repeat (with_reducible first | refine c_seq ?_ | refine c_block ?_ | refine c_skip ?_ | refine x_then ?_ | refine x_block ?_)
    refine c_reg ?_
    refine l_pure rfl (s_move  h11 ?_)
    refine l_pure rfl (s_ixr (i := i)  h9 h11 (hl.below hS.below) (by omega) (by first | omega | (simp; done) | (simp; omega)) si_23 ?_)
    refine l_read rfl (s_lde (i := i) zOb  rfl vi_66 (hl.below hS.below) (by first | omega | (simp; done) | (simp; omega)) rfl rfl (.inl rfl) ?_)
    refine l_heavy rfl (s_alloc  vi_66 hS ?_)
    intro b5 wz2 hS hBz2
    refine l_pure rfl (s_asg  rfl ?_)
    refine l_heavy rfl (s_sta (k := 0)  rfl rfl vi_66 hS rfl rfl rfl (Nat.le_of_ble_eq_true rfl) rfl ?_)
    intro wz3 hS
    refine l_nil ?_
    repeat (with_reducible first | refine c_seq ?_ | refine c_block ?_ | refine c_skip ?_ | refine x_then ?_ | refine x_block ?_)
    replace hS : St w _ [(b5, 66, encOb (l.getD i zOb)), (b3, 36, (tab l.length fun j => if j < i then ofQ (oQ l j) else zRR).flatMap encR)] := hS
    rw [← ho] at hS
    have hL0 : Lr zRR = 1 := Lr_zRR
    repeat (with_reducible first | refine c_seq ?_ | refine c_block ?_ | refine c_skip ?_ | refine x_then ?_ | refine x_block ?_)
    refine c_reg ?_
    refine l_pure rfl (s_move  h3 ?_)
    refine l_pure rfl (s_move  rfl ?_)
    refine l_pure rfl (s_fld  rfl fo_66_2 ?_)
    refine l_read rfl (s_ldo (k := 0)  rfl vi_36 hS rfl rfl rfl (.inl rfl) ?_)
    refine l_pure rfl (s_build  rfl bz_36 ?_)
    refine l_heavy rfl (s_call Tryz.call65 rfl (QAdd_ok o.amt zRR _ (by omega)) ?_)
    rintro r w3 ⟨rfl, hB3⟩
    rw [toQ_zRR, show toQ o.amt + 0 = oQ l i by unfold oQ gO; rw [← ho]; grind]
    replace hS := hS.grow hB3
    refine l_pure rfl (s_ixo (i := i)  rfl rfl (by omega) (by first | omega | (simp; done) | (simp; omega)) si_25 ?_)
    refine l_heavy rfl (s_stE (k := 1) (i := i) (enc := encR) (ofQ (oQ l i)) (fun _ => rfl)  rfl rfl vi_36 hS rfl (by first | omega | simp) (by first | omega | (simp; done) | (simp; omega)) rfl rfl ?_)
    intro wz4 hS
    refine l_nil ?_
    repeat (with_reducible first | refine c_seq ?_ | refine c_block ?_ | refine c_skip ?_ | refine x_then ?_ | refine x_block ?_)
    replace hS : St w _ [(b5, 66, encOb o), (b3, 36, ((tab l.length fun j => if j < i then ofQ (oQ l j) else zRR).set i (ofQ (oQ l i))).flatMap encR)] := hS
    rw [hset] at hS
    repeat (with_reducible first | refine c_seq ?_ | refine c_block ?_ | refine c_skip ?_ | refine x_then ?_ | refine x_block ?_)
    refine c_reg ?_
    refine l_pure rfl (s_add  h11 rfl (IntWalk.i64_in _ (by omega)) ?_)
    refine l_pure rfl (s_move  rfl ?_)
    refine l_nil ?_
    repeat (with_reducible first | refine c_seq ?_ | refine c_block ?_ | refine c_skip ?_ | refine x_then ?_ | refine x_block ?_)
    exact ⟨i + 1, _, rfl, ⟨hlt, h3, h9, h10, vi rfl (by omega), hS.drop (List.sublist_cons_self _ _)⟩, by omega⟩
  · refine c_no rfl (decide_eq_false (by omega)) ?_
    repeat (with_reducible first | refine c_seq ?_ | refine c_block ?_ | refine c_skip ?_ | refine x_then ?_ | refine x_block ?_)
    refine c_exit ?_
    repeat (with_reducible first | refine x_then_exit ?_ | refine x_block_exit ?_ | refine x_block_pass rfl ?_)
    repeat (with_reducible first | refine c_seq ?_ | refine c_block ?_ | refine c_skip ?_ | refine x_then ?_ | refine x_block ?_)
    obtain rfl : i = l.length := by omega
    rw [tab_congr (g := fun i => ofQ (oQ l i)) (fun j hj => if_pos hj)] at hS
    repeat (with_reducible first | refine c_seq ?_ | refine c_block ?_ | refine c_skip ?_ | refine x_then ?_ | refine x_block ?_)
    refine c_reg ?_
    refine l_pure rfl (s_move  h3 ?_)
    refine l_pure rfl (s_asg  rfl ?_)
    refine l_nil ?_
    repeat (with_reducible first | refine c_seq ?_ | refine c_block ?_ | refine c_skip ?_ | refine x_then ?_ | refine x_block ?_)
    refine c_ret ?_
    repeat (with_reducible first | refine x_then_ret ?_ | refine x_block_ret ?_)
    refine r_one rfl rfl ?_
    exact ⟨b3, rfl, hS⟩
set_option maxHeartbeats 1000000 in
theorem reduce_ok (b n K : Nat) (vi_ : Value) (s : RS) (J : List Nat) (w0 w : World) (H : List Blk) (hS : St w0 w ((b, 36, (tab n fun i => ofQ (s.rest i)).flatMap encR) :: H))
    (hJ : ∀ cs w', St w0 w' ((b, 36, cs) :: H) → Sl enI 1 w' vi_ (zI J)) (hJn : ∀ i ∈ J, i < n) (hL : ∀ k, (∀ i, i < n → L ((redu s (J.take k)).rest i) ≤ K) ∧ L (redu s (J.take k)).amt ≤ K) (hK : 2 * K ≤ MX) :
    Ret Tryz.prog 33 #[.slice (some ⟨b, 0, none⟩) n n, vi_, aggR (ofQ s.amt)] w fun r w' => r = .tuple #[] ∧ St w0 w' ((b, 36, (tab n fun i => ofQ ((redu s J).rest i)).flatMap encR) :: H) := by
  have hzl := zI_len J
  have hmax := (hJ _ _ hS).maxLen
  have hJ2 : ∀ (x : Blk) cs w', St w0 w' (x :: (b, 36, cs) :: H) → Sl enI 1 w' vi_ (zI J) := fun x cs w' h => hJ cs w' (h.drop (List.sublist_cons_self _ _))
  refine enter Tryz.func33 rfl Tryz.ntmps33 rfl ?_
  repeat (with_reducible first | refine c_seq ?_ | refine c_block ?_ | refine c_skip ?_ | refine x_then ?_ | refine x_block ?_)
  refine c_reg ?_
  refine l_heavy rfl (s_box  rfl rfl hS ?_)
  intro b5 wz1 hS hBz1
  refine l_nil ?_
  repeat (with_reducible first | refine c_seq ?_ | refine c_block ?_ | refine c_skip ?_ | refine x_then ?_ | refine x_block ?_)
  replace hS : St w0 _ ((b5, 36, encR (ofQ s.amt)) :: (b, 36, (tab n fun i => ofQ (s.rest i)).flatMap encR) :: H) := hS
  repeat (with_reducible first | refine c_seq ?_ | refine c_block ?_ | refine c_skip ?_ | refine x_then ?_ | refine x_block ?_)
  refine c_reg ?_
  refine l_pure rfl (s_move  rfl ?_)
  refine l_pure rfl (s_lenr  rfl (hJ2 _ _ _ hS) ⟨_, Tryz.underlying67⟩ ?_)
  refine l_pure rfl (s_move  rfl ?_)
  refine l_nil ?_
  repeat (with_reducible first | refine c_seq ?_ | refine c_block ?_ | refine c_skip ?_ | refine x_then ?_ | refine x_block ?_)
  refine c_loop (σ := Nat) (fun k ρ w' => k ≤ J.length ∧ ρ 0 = .slice (some ⟨b, 0, none⟩) n n ∧ ρ 9 = vi_ ∧ ρ 10 = .int .i64 J.length ∧ ρ 11 = .int .i64 k ∧ ρ 5 = .pointer (some ⟨b5, 0, none⟩) ∧
      St w0 w' ((b5, 36, encR (ofQ (redu s (J.take k)).amt)) :: (b, 36, (tab n fun i => ofQ ((redu s (J.take k)).rest i)).flatMap encR) :: H)) (fun k => J.length - k) 0
    ⟨Nat.zero_le _, rfl, rfl, vi rfl (by rw [hzl]), rfl, rfl, hS⟩ ?_
  clear hS
  rintro k ρ w2 ⟨hk, h0, h9, h10, h11, h5, hS⟩
  repeat (with_reducible first | refine c_seq ?_ | refine c_block ?_ | refine c_skip ?_ | refine x_then ?_ | refine x_block ?_)
  refine c_reg ?_
  refine l_pure rfl (s_lss  h11 h10 ?_)
  refine l_nil ?_
  repeat (with_reducible first | refine c_seq ?_ | refine c_block ?_ | refine c_skip ?_ | refine x_then ?_ | refine x_block ?_)
  by_cases hlt : k < J.length
  · refine c_yes rfl (decide_eq_true (by omega)) ?_
    repeat (with_reducible first | refine c_seq ?_ | refine c_block ?_ | refine c_skip ?_ | refine x_then ?_ | refine x_block ?_)
    have hzg := zI_get J hlt
    obtain ⟨i, hi⟩ : ∃ i, i = J.getD k 0 := ⟨_, rfl⟩
    have hin : i < n := hJn i (by rw [hi]; exact getD_mem J k 0 hlt)
    rw [← hi] at hzg
    obtain ⟨hL1, hL2⟩ := hL k
    obtain ⟨hL3, hL4⟩ := hL (k + 1)
    have e2 : redu s (J.take (k + 1)) = rstp (redu s (J.take k)) i := by rw [take_succ' J k 0 hlt, redu_snoc, ← hi]
    rw [e2] at hL3 hL4
    obtain ⟨S, hSe⟩ : ∃ S, S = redu s (J.take k) := ⟨_, rfl⟩
    rw [← hSe] at hS e2 hL1 hL2 hL3 hL4
    have e1 : (tab n fun i => ofQ (S.rest i)).getD i zRR = ofQ (S.rest i) := tab_get _ _ hin
    have htl : (tab n fun i => ofQ (S.rest i)).length = n := tab_len _ _
    have l1 := hL1 i hin
    obtain ⟨p, hp⟩ : ∃ p, p = minQ (S.rest i) S.amt := ⟨_, rfl⟩
    have lp : L p ≤ K := by
      have := L_min (S.rest i) S.amt
      rw [hp]; omega
    have hset : (tab n fun i => ofQ (S.rest i)).set i (ofQ (S.rest i - p)) = tab n fun j => ofQ ((rstp S i).rest j) := by
      rw [tab_set]
      refine tab_congr fun j _ => ?_
      show _ = ofQ (if j = i then S.rest i - minQ (S.rest i) S.amt else S.rest j)
      rw [← hp]
      split <;> rfl
    have hamt : (rstp S i).amt = S.amt - p := by rw [hp]; rfl
    repeat (with_reducible first | refine c_seq ?_ | refine c_block ?_ | refine c_skip ?_ | refine x_then ?_ | refine x_block ?_)
    refine c_reg ?_
    refine l_pure rfl (s_ixr (i := k)  h9 h11 (hJ2 _ _ _ hS) (by omega) (by first | omega | (simp; done) | (simp; omega)) si_67 ?_)
    refine l_read rfl (s_lde (i := k) 0  rfl vi_3 (hJ2 _ _ _ hS) (by first | omega | (simp; done) | (simp; omega)) rfl rfl (.inr rfl) ?_)
    refine l_pure rfl (s_asg  rfl ?_)
    refine l_nil ?_
    repeat (with_reducible first | refine c_seq ?_ | refine c_block ?_ | refine c_skip ?_ | refine x_then ?_ | refine x_block ?_)
    rw [hzg]
    repeat (with_reducible first | refine c_seq ?_ | refine c_block ?_ | refine c_skip ?_ | refine x_then ?_ | refine x_block ?_)
    refine c_forget (fun ρ' => ρ' 0 = .slice (some ⟨b, 0, none⟩) n n ∧ ρ' 9 = vi_ ∧ ρ' 10 = .int .i64 J.length ∧ ρ' 11 = .int .i64 k ∧ ρ' 5 = .pointer (some ⟨b5, 0, none⟩) ∧ ρ' 7 = .int .i64 i ∧ True) ⟨h0, h9, h10, h11, h5, rfl, trivial⟩ ?_
    rintro ρk2 ⟨hk2_0, hk2_9, hk2_10, hk2_11, hk2_5, hk2_7, -⟩
    refine c_cut1 (fun ρ w' => ρ 0 = .slice (some ⟨b, 0, none⟩) n n ∧ ρ 9 = vi_ ∧ ρ 10 = .int .i64 J.length ∧ ρ 11 = .int .i64 k ∧ ρ 5 = .pointer (some ⟨b5, 0, none⟩) ∧ ρ 7 = .int .i64 i ∧ ∃ b8, ρ 8 = .pointer (some ⟨b8, 0, none⟩) ∧
        St w0 w' ((b8, 36, encR (ofQ p)) :: (b5, 36, encR (ofQ S.amt)) :: (b, 36, (tab n fun i => ofQ (S.rest i)).flatMap encR) :: H)) ?_ ?_
    · repeat (with_reducible first | refine c_seq ?_ | refine c_block ?_ | refine c_skip ?_ | refine x_then ?_ | refine x_block ?_)
      refine c_float 6 [(0, .pure), (1, .pure), (2, .pure), (3, .read), (4, .read), (5, .grow), (7, .free)] (by kernel_rfl) (by kernel_rfl) hS ?_
      intro wz3 hS hBz3
      refine wx_pure (by kernel_rfl) rfl rfl (s_move  hk2_0 ?_)
      refine wx_pure (by kernel_rfl) rfl rfl (s_move  hk2_7 ?_)
      refine wx_pure (by kernel_rfl) rfl rfl (s_ixo (i := i)  rfl rfl (by omega) (by first | omega | (simp; done) | (simp; omega)) si_25 ?_)
      refine wx_read (by kernel_rfl) rfl rfl (s_ldE (k := 1) (i := i) (enc := encR) zRR (fun _ => rfl)  rfl vi_36 hS rfl (by first | omega | simp) (by first | omega | (simp; done) | (simp; omega)) rfl (.inl rfl) ?_)
      refine wx_read (by kernel_rfl) rfl rfl (s_ldo (k := 0)  hk2_5 vi_36 hS rfl rfl rfl (.inl rfl) ?_)
      rw [e1]
      refine wx_fork rfl rfl ?_ ?_
      · refine w_grow rfl rfl (s_alloc  vi_36 hS ?_)
        intro b8 wz4 hS hBz4
        refine ⟨hBz4, ?_⟩
        refine w_grow rfl rfl (s_call Tryz.call31 rfl (QMin_ok (ofQ (S.rest i)) (ofQ S.amt) _ (by rw [Lr_ofQ, Lr_ofQ]; omega)) ?_)
        rintro r w6 ⟨rfl, hB6⟩
        refine ⟨hB6, ?_⟩
        rw [toQ_ofQ, toQ_ofQ, ← hp]
        replace hS := hS.grow hB6
        refine w_free rfl rfl (s_sta (k := 0)  rfl rfl vi_36 hS rfl rfl rfl (Nat.le_of_ble_eq_true rfl) rfl ?_)
        intro wz5 hS
        refine w_end ?_
        repeat (with_reducible first | refine c_seq ?_ | refine c_block ?_ | refine c_skip ?_ | refine x_then ?_ | refine x_block ?_)
        exact ⟨_, rfl, by assumption, by assumption, by assumption, by assumption, by assumption, by assumption, b8, rfl, hS⟩
      · refine s_call Tryz.call31 rfl (QMin_ok (ofQ (S.rest i)) (ofQ S.amt) _ (by rw [Lr_ofQ, Lr_ofQ]; omega)) ?_
        rintro r w6 ⟨rfl, hB6⟩
        refine ⟨hB6, ?_⟩
        rw [toQ_ofQ, toQ_ofQ, ← hp]
        replace hS := hS.grow hB6
        refine wx_now (by kernel_rfl) ?_
        refine w_grow rfl rfl (s_alloc  vi_36 hS ?_)
        intro b8 wz6 hS hBz6
        refine ⟨hBz6, ?_⟩
        refine w_free rfl rfl (s_sta (k := 0)  rfl rfl vi_36 hS rfl rfl rfl (Nat.le_of_ble_eq_true rfl) rfl ?_)
        intro wz7 hS
        refine w_end ?_
        repeat (with_reducible first | refine c_seq ?_ | refine c_block ?_ | refine c_skip ?_ | refine x_then ?_ | refine x_block ?_)
        exact ⟨_, rfl, by assumption, by assumption, by assumption, by assumption, by assumption, by assumption, b8, rfl, hS⟩
    clear hS h0 h9 h10 h11 h5
    rintro ρ w3 ⟨h0, h9, h10, h11, h5, h7, b8, h8, hS⟩
    repeat (with_reducible first | refine c_seq ?_ | refine c_block ?_ | refine c_skip ?_ | refine x_then ?_ | refine x_block ?_)
    refine c_draw [(0, .pure), (1, .pure), (2, .pure), (3, .pure), (4, .pure), (5, .read), (6, .read), (7, .grow), (8, .pure), (9, .free)] (by kernel_rfl) (by kernel_rfl) hS ?_
    intro wz8 hS hBz8
    refine w_pure rfl rfl (s_move  h0 ?_)
    refine w_pure rfl rfl (s_move  h7 ?_)
    refine w_pure rfl rfl (s_move  h0 ?_)
    refine w_pure rfl rfl (s_move  h7 ?_)
    refine w_pure rfl rfl (s_ixo (i := i)  rfl rfl (by omega) (by first | omega | (simp; done) | (simp; omega)) si_25 ?_)
    refine w_read rfl rfl (s_ldE (k := 2) (i := i) (enc := encR) zRR (fun _ => rfl)  rfl vi_36 hS rfl (by first | omega | simp) (by first | omega | (simp; done) | (simp; omega)) rfl (.inl rfl) ?_)
    refine w_read rfl rfl (s_ldo (k := 0)  h8 vi_36 hS rfl rfl rfl (.inl rfl) ?_)
    rw [e1]
    refine w_grow rfl rfl (s_call Tryz.call47 rfl (QSubtract_ok (ofQ (S.rest i)) (ofQ p) _ (by rw [Lr_ofQ, Lr_ofQ]; omega)) ?_)
    rintro r w4 ⟨rfl, hB4⟩
    refine ⟨hB4, ?_⟩
    rw [toQ_ofQ, toQ_ofQ]
    replace hS := hS.grow hB4
    refine w_pure rfl rfl (s_ixo (i := i)  rfl rfl (by omega) (by first | omega | (simp; done) | (simp; omega)) si_25 ?_)
    refine w_free rfl rfl (s_stE (k := 2) (i := i) (enc := encR) (ofQ (S.rest i - p)) (fun _ => rfl)  rfl rfl vi_36 hS rfl (by first | omega | simp) (by first | omega | (simp; done) | (simp; omega)) rfl rfl ?_)
    intro wz9 hS
    refine w_end ?_
    repeat (with_reducible first | refine c_seq ?_ | refine c_block ?_ | refine c_skip ?_ | refine x_then ?_ | refine x_block ?_)
    replace hS : St w0 _ ((b8, 36, encR (ofQ p)) :: (b5, 36, encR (ofQ S.amt)) :: (b, 36, ((tab n fun i => ofQ (S.rest i)).set i (ofQ (S.rest i - p))).flatMap encR) :: H) := hS
    rw [hset] at hS
    repeat (with_reducible first | refine c_seq ?_ | refine c_block ?_ | refine c_skip ?_ | refine x_then ?_ | refine x_block ?_)
    refine c_reg ?_
    refine l_read rfl (s_ldo (k := 1)  h5 vi_36 hS rfl rfl rfl (.inl rfl) ?_)
    refine l_read rfl (s_ldo (k := 0)  h8 vi_36 hS rfl rfl rfl (.inl rfl) ?_)
    refine l_heavy rfl (s_call Tryz.call47 rfl (QSubtract_ok (ofQ S.amt) (ofQ p) _ (by rw [Lr_ofQ, Lr_ofQ]; omega)) ?_)
    rintro r w5 ⟨rfl, hB5⟩
    rw [toQ_ofQ, toQ_ofQ, ← hamt]
    replace hS := hS.grow hB5
    refine l_heavy rfl (s_sta (k := 1)  h5 rfl vi_36 hS rfl rfl rfl (Nat.le_of_ble_eq_true rfl) rfl ?_)
    intro wz10 hS
    refine l_nil ?_
    repeat (with_reducible first | refine c_seq ?_ | refine c_block ?_ | refine c_skip ?_ | refine x_then ?_ | refine x_block ?_)
    replace hS : St w0 _ ((b8, 36, encR (ofQ p)) :: (b5, 36, encR (ofQ (rstp S i).amt)) :: (b, 36, (tab n fun j => ofQ ((rstp S i).rest j)).flatMap encR) :: H) := hS
    repeat (with_reducible first | refine c_seq ?_ | refine c_block ?_ | refine c_skip ?_ | refine x_then ?_ | refine x_block ?_)
    refine c_reg ?_
    refine l_pure rfl (s_add  h11 rfl (IntWalk.i64_in _ (by omega)) ?_)
    refine l_pure rfl (s_move  rfl ?_)
    refine l_nil ?_
    repeat (with_reducible first | refine c_seq ?_ | refine c_block ?_ | refine c_skip ?_ | refine x_then ?_ | refine x_block ?_)
    exact ⟨k + 1, _, rfl, ⟨hlt, by assumption, by assumption, by assumption, vi rfl (by omega), by assumption, by rw [e2]; exact hS.drop (List.sublist_cons_self _ _)⟩, by omega⟩
  · refine c_no rfl (decide_eq_false (by omega)) ?_
    repeat (with_reducible first | refine c_seq ?_ | refine c_block ?_ | refine c_skip ?_ | refine x_then ?_ | refine x_block ?_)
    refine c_exit ?_
    repeat (with_reducible first | refine x_then_exit ?_ | refine x_block_exit ?_ | refine x_block_pass rfl ?_)
    repeat (with_reducible first | refine c_seq ?_ | refine c_block ?_ | refine c_skip ?_ | refine x_then ?_ | refine x_block ?_)
    have e : J.take k = J := List.take_of_length_le (by omega)
    rw [e] at hS
    exact r_none rfl ⟨rfl, hS.drop (List.sublist_cons_self _ _)⟩
end Go.Proofs.YtdafaibhiobpaaaGreatDoor
namespace Go.Proofs.YtdafaibhiobpaaaGreatDoor
open Go Go.RowKit Go.Sx
theorem obsE_zero {n : Int} {l : List Ob} (h : obsE n l = 0) : 0 ≤ n ∧ n ≤ 32 ∧ l.length ≤ 64 ∧ ∀ o ∈ l, obErr n o = 0 := by
  unfold obsE at h
  split at h
  · cases h
  · split at h
    · cases h
    · exact ⟨by omega, by omega, by omega, firstE_zero h⟩
theorem obErr_zero {n : Int} {o : Ob} (h : obErr n o = 0) : pairB n o.deb o.cre = true ∧ 0 ≤ toQ o.amt ∧ isDay o.inc = true ∧ isDay o.acq = true ∧ o.inc ≤ o.acq := by
  unfold obErr at h
  split at h
  · cases h
  · next h1 =>
    split at h
    · cases h
    · next h2 =>
      split at h
      · cases h
      · next h3 =>
        split at h
        · cases h
        · next h4 =>
          refine ⟨by cases hp : pairB n o.deb o.cre <;> simp_all, Rat.not_lt.1 h2, ?_, ?_, by omega⟩
          · cases hd : isDay o.inc <;> simp_all
          · cases hd : isDay o.acq <;> simp_all
theorem chkE_zero {n c s : Int} {l : List Ob} (h : chkE n l c s = 0) : obsE n l = 0 ∧ isDay c = true ∧ isDay s = true := by
  unfold chkE at h
  split at h
  · next h1 => exact absurd h h1
  · next h1 =>
    split at h
    · cases h
    · next h2 =>
      refine ⟨Decidable.not_not.1 h1, ?_, ?_⟩
      · cases hd : isDay c <;> simp_all
      · cases hd : isDay s <;> simp_all
theorem days_of {n : Int} {l : List Ob} (h : obsE n l = 0) : Days l := fun o ho => isDay_b (obErr_zero ((obsE_zero h).2.2.2 o ho)).2.2.1
theorem goO {l : List Ob} {i : Nat} (h : i < l.length) : gO l i ∈ l := getD_mem l i zOb h
theorem oQ_nonneg {n : Int} {l : List Ob} (h : obsE n l = 0) {i : Nat} (hi : i < l.length) : 0 ≤ oQ l i := (obErr_zero ((obsE_zero h).2.2.2 _ (goO hi))).2.1
theorem L_oQ {K : Nat} {l : List Ob} (h : ObB K l) {i : Nat} (hi : i < l.length) : L (oQ l i) ≤ K := Nat.le_trans (L_toQ _) (h _ (goO hi))
theorem ordL_len (l : List Ob) (c s a b : Int) : (ordL l c s a b).length ≤ l.length := by
  unfold ordL; rw [isort_len]; exact selL_len l c s a b l.length
theorem L_totS {q : Nat → Rat} {J : List Nat} {K : Nat} (h : ∀ i ∈ J, L (q i) ≤ K) : L (totS q J) ≤ J.length * (K + 1) + 1 := by
  have h1 := L_sumQ' (l := J.map q) (K := K) (fun x hx => by obtain ⟨j, hj, rfl⟩ := List.mem_map.1 hx; exact h j hj) J.length
  rw [List.take_of_length_le (by simp)] at h1
  exact h1
theorem L_tot {K : Nat} {l : List Ob} (h : ObB K l) (h20 : l.length ≤ 20) (c s a b : Int) : L (totS (oQ l) (ordL l c s a b)) ≤ 20 * (K + 1) + 1 := by
  have h1 := L_totS (q := oQ l) (J := ordL l c s a b) (K := K) fun i hi => L_oQ h (ordL_mem.1 hi).1
  have h2 := ordL_len l c s a b
  have h3 : (ordL l c s a b).length * (K + 1) ≤ 20 * (K + 1) := Nat.mul_le_mul_right _ (by omega)
  omega
theorem L_mQ {K : Nat} {l : List Ob} (h : ObB K l) (h20 : l.length ≤ 20) (c s a b : Int) : L (mQ l c s a b) ≤ 20 * (K + 1) + 1 := by
  have h1 := L_tot h h20 c s a b
  have h2 := L_tot h h20 c s b a
  have h3 := L_min (totS (oQ l) (ordL l c s a b)) (totS (oQ l) (ordL l c s b a))
  unfold mQ; omega
/-- How long numbers become by a reduction. -/
theorem redu_L {J : List Nat} (hnd : J.Nodup) {s : RS} {K M : Nat} (hK : ∀ i ∈ J, L (s.rest i) ≤ K) (hM : L s.amt ≤ M) (k : Nat) (hk : k ≤ J.length) :
    L (redu s (J.take k)).amt ≤ M + k * (K + 1) ∧ ∀ i ∈ J, L ((redu s (J.take k)).rest i) ≤ K + M + k * (K + 1) + 1 := by
  induction k with
  | zero =>
    refine ⟨by rw [List.take_zero]; show L s.amt ≤ _; omega, fun i hi => ?_⟩
    rw [List.take_zero]
    have := hK i hi
    show L (s.rest i) ≤ _
    omega
  | succ k ih =>
    obtain ⟨h1, h2⟩ := ih (by omega)
    have hlt : k < J.length := by omega
    obtain ⟨i, hi⟩ : ∃ i, i = J.getD k 0 := ⟨_, rfl⟩
    have hiJ : i ∈ J := by rw [hi]; exact getD_mem J k 0 hlt
    rw [take_succ' J k 0 hlt, redu_snoc, ← hi]
    have hnot : i ∉ J.take k := by
      intro g
      obtain ⟨j, hj, e⟩ := List.mem_iff_getElem.1 g
      rw [List.length_take] at hj
      rw [List.getElem_take] at e
      rw [hi, List.getD_eq_getElem?_getD, List.getElem?_eq_getElem hlt] at e
      have := (List.getElem_inj hnd).1 e
      omega
    have hr : (redu s (J.take k)).rest i = s.rest i := redu_off hnot s
    have hri := hK i hiJ
    obtain ⟨S, hS⟩ : ∃ S, S = redu s (J.take k) := ⟨_, rfl⟩
    rw [← hS] at h1 h2 hr ⊢
    have hz : L 0 = 1 := L_zero
    have hM1 := L_pos s.amt
    rw [Nat.add_mul]
    have hm : minQ (S.rest i) S.amt = S.rest i ∨ minQ (S.rest i) S.amt = S.amt := by unfold minQ; split <;> simp
    refine ⟨?_, fun j hj => ?_⟩
    · show L (S.amt - minQ (S.rest i) S.amt) ≤ _
      rcases hm with e | e
      · rw [e, hr]
        have := L_sub S.amt (s.rest i)
        omega
      · rw [e, Rat.sub_self, hz]; omega
    · show L (if j = i then S.rest i - minQ (S.rest i) S.amt else S.rest j) ≤ _
      split
      · rcases hm with e | e
        · rw [e, Rat.sub_self, hz]; omega
        · rw [e, hr]
          have := L_sub (s.rest i) S.amt
          omega
      · have := h2 j hj
        omega
theorem L_finQ {K : Nat} {l : List Ob} (h : ObB K l) (h20 : l.length ≤ 20) (c s : Int) {i : Nat} (hi : i < l.length) : L (finQ l c s i) ≤ 41 * K + 43 := by
  cases he : eligB (gO l i) c s with
  | false =>
    rw [finQ_off he]
    have := L_oQ h hi
    omega
  | true =>
    have hm : i ∈ ordL l c s (gO l i).deb (gO l i).cre := ordL_mem.2 ⟨hi, by unfold goes; rw [he]; simp⟩
    have h1 := redu_L (ordL_nodup l c s (gO l i).deb (gO l i).cre) (s := ⟨oQ l, mQ l c s (gO l i).deb (gO l i).cre⟩) (K := K) (M := 20 * (K + 1) + 1) (fun j hj => L_oQ h (ordL_mem.1 hj).1) (L_mQ h h20 c s _ _) _ (Nat.le_refl _)
    rw [List.take_length] at h1
    have h2 := h1.2 i hm
    have h3 := ordL_len l c s (gO l i).deb (gO l i).cre
    have h4 : (ordL l c s (gO l i).deb (gO l i).cre).length * (K + 1) ≤ 20 * (K + 1) := Nat.mul_le_mul_right _ (by omega)
    unfold finQ
    omega
/-- Has the pair of an obligation's parties had its turn? -/
def doneB (l : List Ob) (a b : Int) (i : Nat) : Bool := decide ((gO l i).deb < a ∧ (gO l i).cre < a ∨ (gO l i).deb = a ∧ (gO l i).cre < b ∨ (gO l i).cre = a ∧ (gO l i).deb < b)
def stQ (l : List Ob) (c s a b : Int) (i : Nat) : Rat := if doneB l a b i = true then finQ l c s i else oQ l i
theorem stQ_start (l : List Ob) (c s : Int) (n : Int) (hn : obsE n l = 0) {i : Nat} (hi : i < l.length) : stQ l c s 0 0 i = oQ l i := by
  have hp := (obErr_zero ((obsE_zero hn).2.2.2 _ (goO hi))).1
  have hp' : _ := of_decide_eq_true hp
  unfold stQ
  rw [if_neg]
  intro g
  have := of_decide_eq_true g
  omega
theorem stQ_end (l : List Ob) (c s : Int) (n : Int) (hn : obsE n l = 0) {i : Nat} (hi : i < l.length) : stQ l c s n 0 i = finQ l c s i := by
  have hp := (obErr_zero ((obsE_zero hn).2.2.2 _ (goO hi))).1
  have hp' : _ := of_decide_eq_true hp
  unfold stQ
  rw [if_pos]
  exact decide_eq_true (by omega)
/-- A new a: nothing changes. -/
theorem stQ_next (l : List Ob) (c s a : Int) (n : Int) (hn : obsE n l = 0) {i : Nat} (hi : i < l.length) : stQ l c s a a i = stQ l c s (a + 1) 0 i := by
  have hp := (obErr_zero ((obsE_zero hn).2.2.2 _ (goO hi))).1
  have hp' : _ := of_decide_eq_true hp
  have : doneB l a a i = doneB l (a + 1) 0 i := by
    unfold doneB
    rw [decide_eq_decide]
    omega
  unfold stQ
  rw [this]
theorem stQ_own {l : List Ob} {c s a b : Int} (hab : b < a) {i : Nat} (hi : i ∈ ordL l c s a b ∨ i ∈ ordL l c s b a) : stQ l c s a b i = oQ l i := by
  unfold stQ
  rw [if_neg]
  intro g
  have g' := of_decide_eq_true g
  rcases hi with hi | hi <;>
  · have := (ordL_mem.1 hi).2
    unfold goes at this
    simp only [Bool.and_eq_true, decide_eq_true_eq] at this
    omega
theorem stQ_step {l : List Ob} {c s a b : Int} (hab : b < a) (i : Nat) :
    (redu ⟨(redu ⟨stQ l c s a b, mQ l c s a b⟩ (ordL l c s a b)).rest, mQ l c s a b⟩ (ordL l c s b a)).rest i = stQ l c s a (b + 1) i := by
  have hdis : ∀ i, i ∈ ordL l c s a b → i ∉ ordL l c s b a := fun i h1 h2 => by
    have h1 := (ordL_mem.1 h1).2
    have h2 := (ordL_mem.1 h2).2
    unfold goes at h1 h2
    simp only [Bool.and_eq_true, decide_eq_true_eq] at h1 h2
    omega
  by_cases h1 : i ∈ ordL l c s a b
  · have hg := (ordL_mem.1 h1).2
    unfold goes at hg
    simp only [Bool.and_eq_true, decide_eq_true_eq] at hg
    rw [redu_off (hdis i h1)]
    show (redu ⟨stQ l c s a b, mQ l c s a b⟩ (ordL l c s a b)).rest i = _
    have h2 := (redu_congr (s := ⟨stQ l c s a b, mQ l c s a b⟩) (t := ⟨oQ l, mQ l c s a b⟩) (idx := ordL l c s a b) (fun j hj => stQ_own hab (.inl hj)) rfl).1 i h1
    rw [h2]
    unfold stQ
    rw [if_pos (show doneB l a (b + 1) i = true from decide_eq_true (by omega))]
    unfold finQ
    rw [hg.1.1, hg.1.2]
  · by_cases h2 : i ∈ ordL l c s b a
    · have hg := (ordL_mem.1 h2).2
      unfold goes at hg
      simp only [Bool.and_eq_true, decide_eq_true_eq] at hg
      have h3 := (redu_congr (s := ⟨(redu ⟨stQ l c s a b, mQ l c s a b⟩ (ordL l c s a b)).rest, mQ l c s a b⟩) (t := ⟨oQ l, mQ l c s b a⟩) (idx := ordL l c s b a) (fun j hj => by
        show (redu ⟨stQ l c s a b, mQ l c s a b⟩ (ordL l c s a b)).rest j = oQ l j
        rw [redu_off (fun g => hdis j g hj)]
        exact stQ_own hab (.inr hj)) (mQ_comm l c s a b)).1 i h2
      rw [h3]
      unfold stQ
      rw [if_pos (show doneB l a (b + 1) i = true from decide_eq_true (by omega))]
      unfold finQ
      rw [hg.1.1, hg.1.2]
    · rw [redu_off h2]
      show (redu ⟨stQ l c s a b, mQ l c s a b⟩ (ordL l c s a b)).rest i = _
      rw [redu_off h1]
      show stQ l c s a b i = _
      by_cases hil : i < l.length
      · by_cases hpr : ((gO l i).deb = a ∧ (gO l i).cre = b) ∨ ((gO l i).deb = b ∧ (gO l i).cre = a)
        · have hne : eligB (gO l i) c s = false := by
            cases he : eligB (gO l i) c s with
            | false => rfl
            | true =>
              rcases hpr with ⟨e1, e2⟩ | ⟨e1, e2⟩
              · exact absurd (ordL_mem.2 ⟨hil, by unfold goes; simp [e1, e2, he]⟩) h1
              · exact absurd (ordL_mem.2 ⟨hil, by unfold goes; simp [e1, e2, he]⟩) h2
          unfold stQ
          rw [finQ_off hne]
          split <;> split <;> rfl
        · have : doneB l a b i = doneB l a (b + 1) i := by
            unfold doneB
            rw [decide_eq_decide]
            omega
          unfold stQ
          rw [this]
      · have e : gO l i = zOb := by unfold gO; rw [List.getD_eq_getElem?_getD, List.getElem?_eq_none (by omega)]; rfl
        have hne : i ∉ ordL l c s (gO l i).deb (gO l i).cre := fun g => hil (ordL_mem.1 g).1
        have hf : finQ l c s i = oQ l i := by unfold finQ; rw [redu_off hne]
        unfold stQ
        rw [hf]
        split <;> split <;> rfl
theorem L_stQ {K : Nat} {l : List Ob} (h : ObB K l) (h20 : l.length ≤ 20) (c s a b : Int) {i : Nat} (hi : i < l.length) : L (stQ l c s a b i) ≤ 41 * K + 43 := by
  unfold stQ
  split
  · exact L_finQ h h20 c s hi
  · have := L_oQ h hi
    omega
def amtE (n : Int) (l : List Ob) (c s a b : Int) : Int := if chkE n l c s ≠ 0 then chkE n l c s else if pairB n a b = false then 14 else 0
def amtR2 (n : Int) (l : List Ob) (c s a b : Int) : RR := if amtE n l c s a b = 0 then ofQ (mQ l c s a b) else zRR
def appL (n : Int) (l : List Ob) (c s : Int) : List RR := if chkE n l c s = 0 then tab l.length fun i => ofQ (finQ l c s i) else []
set_option maxHeartbeats 1000000 in
theorem OAmount_ok (n c s a b : Int) (vl : Value) (l : List Ob) (K : Nat) (w : World) (hl : Sl encOb 8 w vl l) (hB : ObB K l) (hK : 100 * K + 100 ≤ MX) (h20 : l.length ≤ 20) :
    Ret Tryz.prog 13 #[.int .i64 n, vl, .int .i64 c, .int .i64 s, .int .i64 a, .int .i64 b] w fun r w' => r = .tuple #[aggR (amtR2 n l c s a b), .int .i64 (amtE n l c s a b)] ∧ Below w.heap.size w w' := by
  have hBX : ObB MX l := fun o ho => Nat.le_trans (hB o ho) (by omega)
  have hS := St.init w
  refine enter Tryz.func13 rfl Tryz.ntmps13 rfl ?_
  repeat (with_reducible first | refine c_seq ?_ | refine c_block ?_ | refine c_skip ?_ | refine x_then ?_ | refine x_block ?_)
  refine c_reg ?_
  refine l_heavy rfl (s_alloc  vi_36 hS ?_)
  intro b12 wz1 hS hBz1
  refine l_pure rfl (s_asg  rfl ?_)
  refine l_nil ?_
  repeat (with_reducible first | refine c_seq ?_ | refine c_block ?_ | refine c_skip ?_ | refine x_then ?_ | refine x_block ?_)
  refine c_reg ?_
  refine l_pure rfl (s_move  rfl ?_)
  refine l_pure rfl (s_move  rfl ?_)
  refine l_pure rfl (s_move  rfl ?_)
  refine l_pure rfl (s_move  rfl ?_)
  refine l_heavy rfl (s_call Tryz.call28 rfl (ochk_ok n c s vl l _ (hl.below hS.below) hBX) ?_)
  rintro _ wc2 ⟨rfl, hBc2⟩
  replace hS := hS.grow hBc2
  refine l_pure rfl (s_asg  rfl ?_)
  refine l_nil ?_
  repeat (with_reducible first | refine c_seq ?_ | refine c_block ?_ | refine c_skip ?_ | refine x_then ?_ | refine x_block ?_)
  replace hS : St w _ [(b12, 36, encR zRR)] := hS
  repeat (with_reducible first | refine c_seq ?_ | refine c_block ?_ | refine c_skip ?_ | refine x_then ?_ | refine x_block ?_)
  refine c_reg ?_
  refine l_pure rfl (s_move  rfl ?_)
  refine l_pure rfl (s_neq  rfl rfl ?_)
  refine l_nil ?_
  repeat (with_reducible first | refine c_seq ?_ | refine c_block ?_ | refine c_skip ?_ | refine x_then ?_ | refine x_block ?_)
  by_cases he : chkE n l c s = 0
  case neg =>
    refine c_yes rfl (decide_eq_true he) ?_
    repeat (with_reducible first | refine c_seq ?_ | refine c_block ?_ | refine c_skip ?_ | refine x_then ?_ | refine x_block ?_)
    have e1 : amtE n l c s a b = chkE n l c s := if_pos he
    have e2 : amtR2 n l c s a b = zRR := if_neg (by rw [e1]; exact he)
    repeat (with_reducible first | refine c_seq ?_ | refine c_block ?_ | refine c_skip ?_ | refine x_then ?_ | refine x_block ?_)
    refine c_reg ?_
    refine l_pure rfl (s_build  rfl bz_36 ?_)
    refine l_pure rfl (s_move  rfl ?_)
    refine l_heavy rfl (s_sta (k := 0)  rfl rfl vi_36 hS rfl rfl rfl (Nat.le_of_ble_eq_true rfl) rfl ?_)
    intro wz3 hS
    refine l_pure rfl (s_asg  rfl ?_)
    refine l_nil ?_
    repeat (with_reducible first | refine c_seq ?_ | refine c_block ?_ | refine c_skip ?_ | refine x_then ?_ | refine x_block ?_)
    refine c_ret ?_
    repeat (with_reducible first | refine x_then_ret ?_ | refine x_block_ret ?_)
    refine r_cell_tmp (k := 0) rfl rfl rfl vi_36 hS rfl rfl ?_
    exact ⟨by rw [e1, e2]; rfl, hS.below⟩
  refine c_no rfl (decide_eq_false (fun g => g he)) ?_
  repeat (with_reducible first | refine c_seq ?_ | refine c_block ?_ | refine c_skip ?_ | refine x_then ?_ | refine x_block ?_)
  refine c_reg ?_
  refine l_pure rfl (s_move  rfl ?_)
  refine l_pure rfl (s_move  rfl ?_)
  refine l_pure rfl (s_move  rfl ?_)
  refine l_heavy rfl (s_call Tryz.call43 rfl (pair_ok n a b _) ?_)
  rintro _ wq4 ⟨rfl, hq4⟩
  replace hq4 := hq4.symm
  subst hq4
  refine l_pure rfl (s_not  rfl ?_)
  refine l_nil ?_
  repeat (with_reducible first | refine c_seq ?_ | refine c_block ?_ | refine c_skip ?_ | refine x_then ?_ | refine x_block ?_)
  cases hp : pairB n a b with
  | false =>
    have e1 : amtE n l c s a b = 14 := by unfold amtE; rw [if_neg (fun g => g he), if_pos hp]
    have e2 : amtR2 n l c s a b = zRR := if_neg (by rw [e1]; decide)
    refine c_yes rfl (rfl) ?_
    repeat (with_reducible first | refine c_seq ?_ | refine c_block ?_ | refine c_skip ?_ | refine x_then ?_ | refine x_block ?_)
    refine c_reg ?_
    refine l_pure rfl (s_build  rfl bz_36 ?_)
    refine l_heavy rfl (s_sta (k := 0)  rfl rfl vi_36 hS rfl rfl rfl (Nat.le_of_ble_eq_true rfl) rfl ?_)
    intro wz5 hS
    refine l_pure rfl (s_asg  rfl ?_)
    refine l_nil ?_
    repeat (with_reducible first | refine c_seq ?_ | refine c_block ?_ | refine c_skip ?_ | refine x_then ?_ | refine x_block ?_)
    refine c_ret ?_
    repeat (with_reducible first | refine x_then_ret ?_ | refine x_block_ret ?_)
    refine r_cell_tmp (k := 0) rfl rfl rfl vi_36 hS rfl rfl ?_
    exact ⟨by rw [e1, e2]; rfl, hS.below⟩
  | true =>
  have e1 : amtE n l c s a b = 0 := by unfold amtE; rw [if_neg (fun g => g he), if_neg (by rw [hp]; decide)]
  have e2 : amtR2 n l c s a b = ofQ (mQ l c s a b) := if_pos e1
  obtain ⟨hob, hc1, hs1⟩ := chkE_zero he
  have hd := days_of hob
  have hLo := ordL_len l c s a b
  have hLo2 := ordL_len l c s b a
  have l1 : (ordL l c s a b).length * (K + 1) ≤ 20 * (K + 1) := Nat.mul_le_mul_right _ (by omega)
  have l2 : (ordL l c s b a).length * (K + 1) ≤ 20 * (K + 1) := Nat.mul_le_mul_right _ (by omega)
  have l3 := L_tot hB h20 c s a b
  have l4 := L_tot hB h20 c s b a
  have hLq : ∀ i, i < l.length → L (oQ l i) ≤ K := fun i hi => L_oQ hB hi
  refine c_no rfl (rfl) ?_
  repeat (with_reducible first | refine c_seq ?_ | refine c_block ?_ | refine c_skip ?_ | refine x_then ?_ | refine x_block ?_)
  refine c_reg ?_
  refine l_pure rfl (s_move  rfl ?_)
  refine l_heavy rfl (s_call Tryz.call29 rfl (amounts_ok vl l K _ (hl.below hS.below) hB (by omega) (by omega)) ?_)
  rintro r w3 ⟨b15, rfl, hS3⟩
  replace hS : St w w3 ([(b15, 36, (tab l.length fun i => ofQ (oQ l i)).flatMap encR)] ++ [(b12, 36, encR zRR)]) := hS.join hS3
  refine l_pure rfl (s_asg  rfl ?_)
  refine l_nil ?_
  repeat (with_reducible first | refine c_seq ?_ | refine c_block ?_ | refine c_skip ?_ | refine x_then ?_ | refine x_block ?_)
  refine c_forget (fun ρ' => ρ' 1 = vl ∧ ρ' 2 = .int .i64 c ∧ ρ' 3 = .int .i64 s ∧ ρ' 4 = .int .i64 a ∧ ρ' 5 = .int .i64 b ∧ ρ' 12 = .pointer (some ⟨b12, 0, none⟩) ∧ ρ' 15 = .slice (some ⟨b15, 0, none⟩) l.length l.length ∧ True) ⟨rfl, rfl, rfl, rfl, rfl, rfl, rfl, trivial⟩ ?_
  rintro ρk6 ⟨hk6_1, hk6_2, hk6_3, hk6_4, hk6_5, hk6_12, hk6_15, -⟩
  have hsl : ∀ (w' : World) (X : List Blk), St w w' ((b15, 36, (tab l.length fun i => ofQ (oQ l i)).flatMap encR) :: X) → Sl encR 3 w' (.slice (some ⟨b15, 0, none⟩) l.length l.length) (tab l.length fun i => ofQ (oQ l i)) := fun w' X h => by
    have h1 := h.sle (k := 0) (L := tab l.length fun i => ofQ (oQ l i)) (n := l.length) (cap := l.length) rfl encR_len (by rw [tab_len]; exact Nat.le_refl _) (Nat.le_refl _) (by omega)
    rwa [List.take_of_length_le (by rw [tab_len]; exact Nat.le_refl _)] at h1
  repeat (with_reducible first | refine c_seq ?_ | refine c_block ?_ | refine c_skip ?_ | refine x_then ?_ | refine x_block ?_)
  refine c_reg ?_
  refine l_pure rfl (s_move  hk6_15 ?_)
  refine l_pure rfl (s_move  hk6_1 ?_)
  refine l_pure rfl (s_move  hk6_2 ?_)
  refine l_pure rfl (s_move  hk6_3 ?_)
  refine l_pure rfl (s_move  hk6_4 ?_)
  refine l_pure rfl (s_move  hk6_5 ?_)
  refine l_heavy rfl (s_call Tryz.call30 rfl (eligible_ok vl l c s a b _ (hl.below hS.below) hd h20) ?_)
  rintro r w4 ⟨L1, hG1, hS1⟩
  replace hS := hS.join hS1
  have hJ1 := hG1.sl (hS.perm List.perm_append_comm) enI_len
  replace hS : St w w4 ([(b15, 36, (tab l.length fun i => ofQ (oQ l i)).flatMap encR)] ++ [(b12, 36, encR zRR)]) := hS.drop (List.sublist_append_right _ _)
  refine l_heavy rfl (s_call Tryz.call32 rfl (total_ok _ _ (oQ l) l.length K (ordL l c s a b) _ (hsl _ _ hS) hJ1 (fun i hi => (ordL_mem.1 hi).1) hLq (by omega)) ?_)
  rintro r w5 ⟨rfl, hB5⟩
  replace hS := hS.grow hB5
  refine l_pure rfl (s_move  hk6_15 ?_)
  refine l_pure rfl (s_move  hk6_1 ?_)
  refine l_pure rfl (s_move  hk6_2 ?_)
  refine l_pure rfl (s_move  hk6_3 ?_)
  refine l_pure rfl (s_move  hk6_5 ?_)
  refine l_pure rfl (s_move  hk6_4 ?_)
  refine l_heavy rfl (s_call Tryz.call30 rfl (eligible_ok vl l c s b a _ (hl.below hS.below) hd h20) ?_)
  rintro r w6 ⟨L2, hG2, hS2⟩
  replace hS := hS.join hS2
  have hJ2 := hG2.sl (hS.perm List.perm_append_comm) enI_len
  replace hS : St w w6 ([(b15, 36, (tab l.length fun i => ofQ (oQ l i)).flatMap encR)] ++ [(b12, 36, encR zRR)]) := hS.drop (List.sublist_append_right _ _)
  refine l_heavy rfl (s_call Tryz.call32 rfl (total_ok _ _ (oQ l) l.length K (ordL l c s b a) _ (hsl _ _ hS) hJ2 (fun i hi => (ordL_mem.1 hi).1) hLq (by omega)) ?_)
  rintro r w7 ⟨rfl, hB7⟩
  replace hS := hS.grow hB7
  refine l_heavy rfl (s_call Tryz.call31 rfl (QMin_ok (ofQ (totS (oQ l) (ordL l c s a b))) (ofQ (totS (oQ l) (ordL l c s b a))) _ (by rw [Lr_ofQ, Lr_ofQ]; omega)) ?_)
  rintro r w8 ⟨rfl, hB8⟩
  rw [toQ_ofQ, toQ_ofQ]
  replace hS := hS.grow hB8
  refine l_heavy rfl (s_sta (k := 1)  hk6_12 rfl vi_36 hS rfl rfl rfl (Nat.le_of_ble_eq_true rfl) rfl ?_)
  intro wz7 hS
  refine l_pure rfl (s_asg  rfl ?_)
  refine l_nil ?_
  repeat (with_reducible first | refine c_seq ?_ | refine c_block ?_ | refine c_skip ?_ | refine x_then ?_ | refine x_block ?_)
  refine c_ret ?_
  repeat (with_reducible first | refine x_then_ret ?_ | refine x_block_ret ?_)
  refine r_cell_tmp (k := 1) rfl hk6_12 rfl vi_36 hS rfl rfl ?_
  exact ⟨by rw [e1, e2]; rfl, hS.below⟩
end Go.Proofs.YtdafaibhiobpaaaGreatDoor
namespace Go.Proofs.YtdafaibhiobpaaaGreatDoor
open Go Go.RowKit Go.Sx
/-- Of a block that holds a table of numbers: it reads as a slice. -/
theorem sl_tab {w0 w : World} {b n : Nat} {t : TypeId} {q : Nat → Rat} {X : List Blk} (hn : n ≤ 1000000) (h : St w0 w ((b, t, (tab n fun i => ofQ (q i)).flatMap encR) :: X)) : Sl encR 3 w (.slice (some ⟨b, 0, none⟩) n n) (tab n fun i => ofQ (q i)) := by
  have h1 := h.sle (k := 0) (L := tab n fun i => ofQ (q i)) (n := n) (cap := n) rfl encR_len (by rw [tab_len]; exact Nat.le_refl _) (Nat.le_refl _) (by omega)
  rwa [List.take_of_length_le (by rw [tab_len]; exact Nat.le_refl _)] at h1
theorem redu_Lall {J : List Nat} (hnd : J.Nodup) {s : RS} {n K M B : Nat} (hJ20 : J.length ≤ 20) (hK : ∀ i ∈ J, L (s.rest i) ≤ K) (hM : L s.amt ≤ M) (hB : ∀ i, i < n → L (s.rest i) ≤ B) (hb : K + M + 20 * (K + 1) + 1 ≤ B) (k : Nat) :
    (∀ i, i < n → L ((redu s (J.take k)).rest i) ≤ B) ∧ L (redu s (J.take k)).amt ≤ B := by
  have key : ∀ k, k ≤ J.length → (∀ i, i < n → L ((redu s (J.take k)).rest i) ≤ B) ∧ L (redu s (J.take k)).amt ≤ B := by
    intro k hk
    obtain ⟨h1, h2⟩ := redu_L hnd hK hM k hk
    have h3 : k * (K + 1) ≤ 20 * (K + 1) := Nat.mul_le_mul_right _ (by omega)
    refine ⟨fun i hi => ?_, by omega⟩
    by_cases g : i ∈ J
    · have := h2 i g
      omega
    · rw [redu_off (fun q => g (List.mem_of_mem_take q))]
      exact hB i hi
  by_cases hk : k ≤ J.length
  · exact key k hk
  · rw [List.take_of_length_le (by omega)]
    have := key J.length (Nat.le_refl _)
    rwa [List.take_length] at this
set_option maxHeartbeats 2000000 in
theorem OApply_full (n c s : Int) (vl : Value) (l : List Ob) (K : Nat) (w : World) (hl : Sl encOb 8 w vl l) (hB : ObB K l) (hK : 1000 * K + 1000 ≤ MX) (h20 : l.length ≤ 20) :
    Ret Tryz.prog 8 #[.int .i64 n, vl, .int .i64 c, .int .i64 s] w fun r w' => ((∃ v, r = .tuple #[v, .int .i64 (chkE n l c s)] ∧ Sl encR 3 w' v (appL n l c s)) ∧ Below w.heap.size w w') ∧
      (chkE n l c s = 0 → ∃ b, r = .tuple #[.slice (some ⟨b, 0, none⟩) l.length l.length, .int .i64 0] ∧ St w w' [(b, 36, (tab l.length fun i => ofQ (finQ l c s i)).flatMap encR)]) := by
  have hBX : ObB MX l := fun o ho => Nat.le_trans (hB o ho) (by omega)
  have hS := St.init w
  refine enter Tryz.func8 rfl Tryz.ntmps8 rfl ?_
  repeat (with_reducible first | refine c_seq ?_ | refine c_block ?_ | refine c_skip ?_ | refine x_then ?_ | refine x_block ?_)
  refine c_reg ?_
  refine l_pure rfl (s_asg  rfl ?_)
  refine l_pure rfl (s_asg  rfl ?_)
  refine l_nil ?_
  repeat (with_reducible first | refine c_seq ?_ | refine c_block ?_ | refine c_skip ?_ | refine x_then ?_ | refine x_block ?_)
  refine c_reg ?_
  refine l_pure rfl (s_move  rfl ?_)
  refine l_pure rfl (s_move  rfl ?_)
  refine l_pure rfl (s_move  rfl ?_)
  refine l_pure rfl (s_move  rfl ?_)
  refine l_heavy rfl (s_call Tryz.call28 rfl (ochk_ok n c s vl l _ (hl.below hS.below) hBX) ?_)
  rintro _ wc1 ⟨rfl, hBc1⟩
  replace hS := hS.grow hBc1
  refine l_pure rfl (s_asg  rfl ?_)
  refine l_nil ?_
  repeat (with_reducible first | refine c_seq ?_ | refine c_block ?_ | refine c_skip ?_ | refine x_then ?_ | refine x_block ?_)
  refine c_reg ?_
  refine l_pure rfl (s_move  rfl ?_)
  refine l_pure rfl (s_neq  rfl rfl ?_)
  refine l_nil ?_
  repeat (with_reducible first | refine c_seq ?_ | refine c_block ?_ | refine c_skip ?_ | refine x_then ?_ | refine x_block ?_)
  by_cases he : chkE n l c s = 0
  case neg =>
    refine c_yes rfl (decide_eq_true he) ?_
    repeat (with_reducible first | refine c_seq ?_ | refine c_block ?_ | refine c_skip ?_ | refine x_then ?_ | refine x_block ?_)
    refine c_reg ?_
    refine l_pure rfl (s_move  rfl ?_)
    refine l_pure rfl (s_asg  rfl ?_)
    refine l_pure rfl (s_asg  rfl ?_)
    refine l_nil ?_
    repeat (with_reducible first | refine c_seq ?_ | refine c_block ?_ | refine c_skip ?_ | refine x_then ?_ | refine x_block ?_)
    refine c_ret ?_
    repeat (with_reducible first | refine x_then_ret ?_ | refine x_block_ret ?_)
    refine r_two rfl rfl rfl ?_
    exact ⟨⟨⟨_, rfl, by unfold appL; rw [if_neg he]; exact Sl.nil _ _ _⟩, hS.below⟩, fun g => absurd g he⟩
  refine c_no rfl (decide_eq_false (fun g => g he)) ?_
  repeat (with_reducible first | refine c_seq ?_ | refine c_block ?_ | refine c_skip ?_ | refine x_then ?_ | refine x_block ?_)
  have eA : appL n l c s = tab l.length fun i => ofQ (finQ l c s i) := if_pos he
  rw [eA, he]
  obtain ⟨hob, hc1, hs1⟩ := chkE_zero he
  have hd := days_of hob
  obtain ⟨hn0, hn32, _, _⟩ := obsE_zero hob
  obtain ⟨m, hm⟩ : ∃ m : Nat, n = m := ⟨n.toNat, by omega⟩
  subst hm
  have hLst := fun (a b : Int) i (hi : i < l.length) => L_stQ hB h20 c s a b hi
  repeat (with_reducible first | refine c_seq ?_ | refine c_block ?_ | refine c_skip ?_ | refine x_then ?_ | refine x_block ?_)
  refine c_reg ?_
  refine l_pure rfl (s_move  rfl ?_)
  refine l_heavy rfl (s_call Tryz.call29 rfl (amounts_ok vl l K _ (hl.below hS.below) hB (by omega) (by omega)) ?_)
  rintro r w3 ⟨b11, rfl, hS3⟩
  replace hS : St w w3 ([(b11, 36, (tab l.length fun i => ofQ (oQ l i)).flatMap encR)] ++ []) := hS.join hS3
  replace hS : St w w3 [(b11, 36, (tab l.length fun i => ofQ (oQ l i)).flatMap encR)] := hS
  rw [tab_congr (g := fun i => ofQ (stQ l c s ((0 : Nat) : Int) ((0 : Nat) : Int) i)) (fun i hi => by rw [show stQ l c s ((0 : Nat) : Int) ((0 : Nat) : Int) i = oQ l i from stQ_start l c s _ hob hi])] at hS
  refine l_pure rfl (s_asg  rfl ?_)
  refine l_nil ?_
  repeat (with_reducible first | refine c_seq ?_ | refine c_block ?_ | refine c_skip ?_ | refine x_then ?_ | refine x_block ?_)
  refine c_forget (fun ρ' => ρ' 0 = .int .i64 m ∧ ρ' 1 = vl ∧ ρ' 2 = .int .i64 c ∧ ρ' 3 = .int .i64 s ∧ ρ' 11 = .slice (some ⟨b11, 0, none⟩) l.length l.length ∧ True) ⟨rfl, rfl, rfl, rfl, rfl, trivial⟩ ?_
  rintro ρk2 ⟨hk2_0, hk2_1, hk2_2, hk2_3, hk2_11, -⟩
  repeat (with_reducible first | refine c_seq ?_ | refine c_block ?_ | refine c_skip ?_ | refine x_then ?_ | refine x_block ?_)
  refine c_reg ?_
  refine l_pure rfl (s_move  hk2_0 ?_)
  refine l_pure rfl (s_move  rfl ?_)
  refine l_nil ?_
  repeat (with_reducible first | refine c_seq ?_ | refine c_skip ?_ | refine x_then ?_ | refine x_block ?_)
  refine c_cut1 (fun ρ w' => ρ 11 = .slice (some ⟨b11, 0, none⟩) l.length l.length ∧ St w w' [(b11, 36, (tab l.length fun i => ofQ (stQ l c s m ((0 : Nat) : Int) i)).flatMap encR)]) ?_ ?_
  · repeat (with_reducible first | refine c_seq ?_ | refine c_block ?_ | refine c_skip ?_ | refine x_then ?_ | refine x_block ?_)
    refine c_loop (σ := Nat) (fun a ρ w' => a ≤ m ∧ ρ 1 = vl ∧ ρ 2 = .int .i64 c ∧ ρ 3 = .int .i64 s ∧ ρ 11 = .slice (some ⟨b11, 0, none⟩) l.length l.length ∧ ρ 27 = .int .i64 m ∧ ρ 28 = .int .i64 a ∧
        St w w' [(b11, 36, (tab l.length fun i => ofQ (stQ l c s a ((0 : Nat) : Int) i)).flatMap encR)]) (fun a => m - a) 0
      ⟨Nat.zero_le _, by assumption, by assumption, by assumption, by assumption, rfl, rfl, hS⟩ ?_
    clear hS
    rintro a ρ w4 ⟨ha, h1, h2, h3, h11, h27, h28, hS⟩
    repeat (with_reducible first | refine c_seq ?_ | refine c_block ?_ | refine c_skip ?_ | refine x_then ?_ | refine x_block ?_)
    refine c_reg ?_
    refine l_pure rfl (s_lss  h28 h27 ?_)
    refine l_nil ?_
    repeat (with_reducible first | refine c_seq ?_ | refine c_block ?_ | refine c_skip ?_ | refine x_then ?_ | refine x_block ?_)
    by_cases hlt : a < m
    · refine c_yes rfl (decide_eq_true (by omega)) ?_
      repeat (with_reducible first | refine c_seq ?_ | refine c_block ?_ | refine c_skip ?_ | refine x_then ?_ | refine x_block ?_)
      refine c_reg ?_
      refine l_pure rfl (s_move  h28 ?_)
      refine l_pure rfl (s_asg  rfl ?_)
      refine l_nil ?_
      repeat (with_reducible first | refine c_seq ?_ | refine c_block ?_ | refine c_skip ?_ | refine x_then ?_ | refine x_block ?_)
      refine c_reg ?_
      refine l_pure rfl (s_move  rfl ?_)
      refine l_pure rfl (s_move  rfl ?_)
      refine l_nil ?_
      repeat (with_reducible first | refine c_seq ?_ | refine c_skip ?_ | refine x_then ?_ | refine x_block ?_)
      refine c_cut1 (fun ρ w' => ρ 1 = vl ∧ ρ 2 = .int .i64 c ∧ ρ 3 = .int .i64 s ∧ ρ 11 = .slice (some ⟨b11, 0, none⟩) l.length l.length ∧ ρ 27 = .int .i64 m ∧ ρ 28 = .int .i64 a ∧
          St w w' [(b11, 36, (tab l.length fun i => ofQ (stQ l c s a a i)).flatMap encR)]) ?_ ?_
      · repeat (with_reducible first | refine c_seq ?_ | refine c_block ?_ | refine c_skip ?_ | refine x_then ?_ | refine x_block ?_)
        refine c_loop (σ := Nat) (fun b ρ w' => b ≤ a ∧ ρ 1 = vl ∧ ρ 2 = .int .i64 c ∧ ρ 3 = .int .i64 s ∧ ρ 11 = .slice (some ⟨b11, 0, none⟩) l.length l.length ∧ ρ 27 = .int .i64 m ∧ ρ 28 = .int .i64 a ∧ ρ 12 = .int .i64 a ∧ ρ 31 = .int .i64 a ∧ ρ 32 = .int .i64 b ∧
            St w w' [(b11, 36, (tab l.length fun i => ofQ (stQ l c s a b i)).flatMap encR)]) (fun b => a - b) 0
          ⟨Nat.zero_le _, by assumption, by assumption, by assumption, by assumption, by assumption, by assumption, rfl, rfl, rfl, hS⟩ ?_
        clear hS h1 h2 h3 h11 h27 h28
        rintro b ρ w5 ⟨hb, h1, h2, h3, h11, h27, h28, h12, h31, h32, hS⟩
        repeat (with_reducible first | refine c_seq ?_ | refine c_block ?_ | refine c_skip ?_ | refine x_then ?_ | refine x_block ?_)
        refine c_reg ?_
        refine l_pure rfl (s_lss  h32 h31 ?_)
        refine l_nil ?_
        repeat (with_reducible first | refine c_seq ?_ | refine c_block ?_ | refine c_skip ?_ | refine x_then ?_ | refine x_block ?_)
        by_cases hltb : b < a
        · refine c_yes rfl (decide_eq_true (by omega)) ?_
          repeat (with_reducible first | refine c_seq ?_ | refine c_block ?_ | refine c_skip ?_ | refine x_then ?_ | refine x_block ?_)
          have hltI : (b : Int) < (a : Int) := by omega
          obtain ⟨J1, hJ1⟩ : ∃ J, J = ordL l c s a b := ⟨_, rfl⟩
          obtain ⟨J2, hJ2⟩ : ∃ J, J = ordL l c s b a := ⟨_, rfl⟩
          obtain ⟨mm, hmm⟩ : ∃ q, q = mQ l c s a b := ⟨_, rfl⟩
          obtain ⟨q0, hq0⟩ : ∃ q, q = stQ l c s a b := ⟨_, rfl⟩
          have hL1 := ordL_len l c s a b
          have hL2 := ordL_len l c s b a
          have t1 := L_tot hB h20 c s a b
          have t2 := L_tot hB h20 c s b a
          have tm := L_mQ hB h20 c s a b
          have own1 : ∀ i ∈ J1, q0 i = oQ l i := fun i hi => by rw [hq0]; exact stQ_own hltI (.inl (by rw [← hJ1]; exact hi))
          have own2 : ∀ i ∈ J2, q0 i = oQ l i := fun i hi => by rw [hq0]; exact stQ_own hltI (.inr (by rw [← hJ2]; exact hi))
          have in1 : ∀ i ∈ J1, i < l.length := fun i hi => by rw [hJ1] at hi; exact (ordL_mem.1 hi).1
          have in2 : ∀ i ∈ J2, i < l.length := fun i hi => by rw [hJ2] at hi; exact (ordL_mem.1 hi).1
          have s1 : totS q0 J1 = totS (oQ l) (ordL l c s a b) := by unfold totS; rw [← hJ1, List.map_congr_left own1]
          have s2 : totS q0 J2 = totS (oQ l) (ordL l c s b a) := by unfold totS; rw [← hJ2, List.map_congr_left own2]
          have hst := stQ_step (l := l) (c := c) (s := s) hltI
          rw [← hJ1, ← hJ2, ← hmm, ← hq0] at hst
          have nd1 : J1.Nodup := by rw [hJ1]; exact ordL_nodup l c s a b
          have nd2 : J2.Nodup := by rw [hJ2]; exact ordL_nodup l c s b a
          have hdis : ∀ i ∈ J2, i ∉ J1 := fun i hi g => by
            rw [hJ2] at hi
            rw [hJ1] at g
            have g1 := (ordL_mem.1 hi).2
            have g2 := (ordL_mem.1 g).2
            unfold goes at g1 g2
            simp only [Bool.and_eq_true, decide_eq_true_eq] at g1 g2
            omega
          have hq0L : ∀ i, i < l.length → L (q0 i) ≤ 41 * K + 43 := fun i hi => by rw [hq0]; exact hLst a b i hi
          have hLA := redu_Lall (n := l.length) (B := 41 * K + 43) nd1 (s := ⟨q0, mm⟩) (K := K) (M := 20 * (K + 1) + 1) (by rw [hJ1]; omega) (fun i hi => by rw [show (RS.mk q0 mm).rest i = oQ l i from own1 i hi]; exact L_oQ hB (in1 i hi)) (by rw [hmm]; exact tm) hq0L (by omega)
          have hr1L : ∀ i, i < l.length → L ((redu ⟨q0, mm⟩ J1).rest i) ≤ 41 * K + 43 := fun i hi => by
            have := (hLA J1.length).1 i hi
            rwa [List.take_length] at this
          have hLBB := redu_Lall (n := l.length) (B := 41 * K + 43) nd2 (s := ⟨(redu ⟨q0, mm⟩ J1).rest, mm⟩) (K := K) (M := 20 * (K + 1) + 1) (by rw [hJ2]; omega) (fun i hi => by
            rw [show (RS.mk (redu ⟨q0, mm⟩ J1).rest mm).rest i = oQ l i from (redu_off (hdis i hi) _).trans (own2 i hi)]; exact L_oQ hB (in2 i hi)) (by rw [hmm]; exact tm) hr1L (by omega)
          have hmin : minQ (totS q0 J1) (totS q0 J2) = mm := by rw [s1, s2, hmm]; rfl
          have lk1 : J1.length * (41 * K + 43 + 1) ≤ 20 * (41 * K + 43 + 1) := Nat.mul_le_mul_right _ (by rw [hJ1]; omega)
          have lk2 : J2.length * (41 * K + 43 + 1) ≤ 20 * (41 * K + 43 + 1) := Nat.mul_le_mul_right _ (by rw [hJ2]; omega)
          have e1 : ((b + 1 : Nat) : Int) = (b : Int) + 1 := by omega
          have hfe : (fun i => ofQ ((redu ⟨(redu ⟨q0, mm⟩ J1).rest, mm⟩ J2).rest i)) = fun i => ofQ (stQ l c s a ((b + 1 : Nat) : Int) i) := funext fun i => by rw [hst, e1]
          rw [← hq0] at hS
          repeat (with_reducible first | refine c_seq ?_ | refine c_block ?_ | refine c_skip ?_ | refine x_then ?_ | refine x_block ?_)
          refine c_reg ?_
          refine l_pure rfl (s_move  h32 ?_)
          refine l_pure rfl (s_asg  rfl ?_)
          refine l_nil ?_
          repeat (with_reducible first | refine c_seq ?_ | refine c_block ?_ | refine c_skip ?_ | refine x_then ?_ | refine x_block ?_)
          refine c_reg ?_
          refine l_pure rfl (s_move  h1 ?_)
          refine l_pure rfl (s_move  h2 ?_)
          refine l_pure rfl (s_move  h3 ?_)
          refine l_pure rfl (s_move  h12 ?_)
          refine l_pure rfl (s_move  rfl ?_)
          refine l_heavy rfl (s_call Tryz.call30 rfl (eligible_ok vl l c s a b _ (hl.below hS.below) hd h20) ?_)
          rintro rv1 w6 ⟨LA, hG1, hSA⟩
          rw [← hJ1] at hG1
          replace hS : St w w6 ([(b11, 36, (tab l.length fun i => ofQ (q0 i)).flatMap encR)] ++ LA) := (hS.join hSA).perm List.perm_append_comm
          refine l_pure rfl (s_move  h1 ?_)
          refine l_pure rfl (s_move  h2 ?_)
          refine l_pure rfl (s_move  h3 ?_)
          refine l_pure rfl (s_move  rfl ?_)
          refine l_pure rfl (s_move  h12 ?_)
          refine l_heavy rfl (s_call Tryz.call30 rfl (eligible_ok vl l c s b a _ (hl.below hS.below) hd h20) ?_)
          rintro rv2 w7 ⟨LB, hG2, hSB⟩
          rw [← hJ2] at hG2
          replace hS : St w w7 (([(b11, 36, (tab l.length fun i => ofQ (q0 i)).flatMap encR)] ++ LA) ++ LB) := (hS.join hSB).perm List.perm_append_comm
          refine l_pure rfl (s_asg  rfl ?_)
          refine l_pure rfl (s_asg  rfl ?_)
          refine l_nil ?_
          repeat (with_reducible first | refine c_seq ?_ | refine c_block ?_ | refine c_skip ?_ | refine x_then ?_ | refine x_block ?_)
          refine c_forget (fun ρ' => ρ' 1 = vl ∧ ρ' 2 = .int .i64 c ∧ ρ' 3 = .int .i64 s ∧ ρ' 11 = .slice (some ⟨b11, 0, none⟩) l.length l.length ∧ ρ' 27 = .int .i64 m ∧ ρ' 28 = .int .i64 a ∧ ρ' 12 = .int .i64 a ∧ ρ' 31 = .int .i64 a ∧ ρ' 32 = .int .i64 b ∧ ρ' 14 = rv1 ∧ ρ' 15 = rv2 ∧ True) ⟨h1, h2, h3, h11, h27, h28, h12, h31, h32, rfl, rfl, trivial⟩ ?_
          rintro ρk3 ⟨hk3_1, hk3_2, hk3_3, hk3_11, hk3_27, hk3_28, hk3_12, hk3_31, hk3_32, hk3_14, hk3_15, -⟩
          repeat (with_reducible first | refine c_seq ?_ | refine c_block ?_ | refine c_skip ?_ | refine x_then ?_ | refine x_block ?_)
          refine c_reg ?_
          refine l_pure rfl (s_move  hk3_11 ?_)
          refine l_pure rfl (s_move  hk3_14 ?_)
          refine l_heavy rfl (s_call Tryz.call32 rfl (total_ok _ rv1 q0 l.length (41 * K + 43) J1 _ (sl_tab (by omega) hS) (hG1.sl (hS.drop (List.sublist_append_left _ LB)) enI_len) in1 hq0L (by omega)) ?_)
          rintro r w8 ⟨rfl, hB8⟩
          replace hS := hS.grow hB8
          refine l_pure rfl (s_move  hk3_11 ?_)
          refine l_pure rfl (s_move  hk3_15 ?_)
          refine l_heavy rfl (s_call Tryz.call32 rfl (total_ok _ rv2 q0 l.length (41 * K + 43) J2 _ (sl_tab (by omega) hS) (hG2.sl hS enI_len) in2 hq0L (by omega)) ?_)
          rintro r w9 ⟨rfl, hB9⟩
          replace hS := hS.grow hB9
          refine l_heavy rfl (s_call Tryz.call31 rfl (QMin_ok (ofQ (totS q0 J1)) (ofQ (totS q0 J2)) _ (by rw [Lr_ofQ, Lr_ofQ, s1, s2]; omega)) ?_)
          rintro r w10 ⟨rfl, hB10⟩
          rw [toQ_ofQ, toQ_ofQ, hmin]
          replace hS := hS.grow hB10
          refine l_heavy rfl (s_alloc  vi_36 hS ?_)
          intro b16 wz4 hS hBz4
          refine l_heavy rfl (s_sta (k := 0)  rfl rfl vi_36 hS rfl rfl rfl (Nat.le_of_ble_eq_true rfl) rfl ?_)
          intro wz5 hS
          refine l_nil ?_
          repeat (with_reducible first | refine c_seq ?_ | refine c_block ?_ | refine c_skip ?_ | refine x_then ?_ | refine x_block ?_)
          replace hS : St w _ ((b16, 36, encR (ofQ mm)) :: (b11, 36, (tab l.length fun i => ofQ (q0 i)).flatMap encR) :: (LA ++ LB)) := hS
          replace hS := hS.perm (List.Perm.swap _ _ _)
          have hJJ1 : ∀ cs w', St w w' ((b11, 36, cs) :: (b16, 36, encR (ofQ mm)) :: (LA ++ LB)) → Sl enI 1 w' rv1 (zI J1) := fun cs w' h => hG1.sl (H := [(b11, 36, cs), (b16, 36, encR (ofQ mm))]) (h.drop (((List.sublist_append_left LA LB).cons_cons _).cons_cons _)) enI_len
          have hJJ2 : ∀ cs w', St w w' ((b11, 36, cs) :: (b16, 36, encR (ofQ mm)) :: (LA ++ LB)) → Sl enI 1 w' rv2 (zI J2) := fun cs w' h => hG2.sl (H := [(b11, 36, cs), (b16, 36, encR (ofQ mm))]) (h.drop (((List.sublist_append_right LA LB).cons_cons _).cons_cons _)) enI_len
          repeat (with_reducible first | refine c_seq ?_ | refine c_block ?_ | refine c_skip ?_ | refine x_then ?_ | refine x_block ?_)
          refine c_reg ?_
          refine l_pure rfl (s_move  hk3_11 ?_)
          refine l_pure rfl (s_move  hk3_14 ?_)
          refine l_read rfl (s_ldo (k := 1)  rfl vi_36 hS rfl rfl rfl (.inl rfl) ?_)
          refine l_heavy rfl (s_call Tryz.call33 rfl (reduce_ok b11 l.length (41 * K + 43) rv1 ⟨q0, mm⟩ J1 w _ _ hS hJJ1 in1 hLA (by omega)) ?_)
          rintro r w11 ⟨rfl, hS11⟩
          clear hS
          have hS := hS11
          refine l_nil ?_
          repeat (with_reducible first | refine c_seq ?_ | refine c_block ?_ | refine c_skip ?_ | refine x_then ?_ | refine x_block ?_)
          refine c_reg ?_
          refine l_pure rfl (s_move  hk3_11 ?_)
          refine l_pure rfl (s_move  hk3_15 ?_)
          refine l_read rfl (s_ldo (k := 1)  rfl vi_36 hS rfl rfl rfl (.inl rfl) ?_)
          refine l_heavy rfl (s_call Tryz.call33 rfl (reduce_ok b11 l.length (41 * K + 43) rv2 ⟨(redu ⟨q0, mm⟩ J1).rest, mm⟩ J2 w _ _ hS hJJ2 in2 hLBB (by omega)) ?_)
          rintro r w12 ⟨rfl, hS12⟩
          clear hS
          have hS := hS12
          rw [hfe] at hS
          refine l_nil ?_
          repeat (with_reducible first | refine c_seq ?_ | refine c_block ?_ | refine c_skip ?_ | refine x_then ?_ | refine x_block ?_)
          refine c_reg ?_
          refine l_pure rfl (s_add  hk3_32 rfl (IntWalk.i64_in _ (by omega)) ?_)
          refine l_pure rfl (s_move  rfl ?_)
          refine l_nil ?_
          repeat (with_reducible first | refine c_seq ?_ | refine c_block ?_ | refine c_skip ?_ | refine x_then ?_ | refine x_block ?_)
          exact ⟨b + 1, _, rfl, ⟨hltb, by assumption, by assumption, by assumption, by assumption, by assumption, by assumption, by assumption, by assumption, vi rfl (by omega), hS.drop ((List.nil_sublist _).cons_cons _)⟩, by omega⟩
        · refine c_no rfl (decide_eq_false (by omega)) ?_
          repeat (with_reducible first | refine c_seq ?_ | refine c_block ?_ | refine c_skip ?_ | refine x_then ?_ | refine x_block ?_)
          refine c_exit ?_
          repeat (with_reducible first | refine x_then_exit ?_ | refine x_block_exit ?_ | refine x_block_pass rfl ?_)
          repeat (with_reducible first | refine c_seq ?_ | refine c_block ?_ | refine c_skip ?_ | refine x_then ?_ | refine x_block ?_)
          obtain rfl : b = a := by omega
          exact ⟨_, rfl, h1, h2, h3, h11, h27, h28, hS⟩
      clear hS h1 h2 h3 h11 h27 h28
      rintro ρ w5 ⟨h1, h2, h3, h11, h27, h28, hS⟩
      rw [tab_congr (g := fun i => ofQ (stQ l c s ((a + 1 : Nat) : Int) ((0 : Nat) : Int) i)) (fun i hi => by rw [show stQ l c s a a i = stQ l c s ((a + 1 : Nat) : Int) ((0 : Nat) : Int) i from stQ_next l c s a _ hob hi])] at hS
      repeat (with_reducible first | refine c_seq ?_ | refine c_block ?_ | refine c_skip ?_ | refine x_then ?_ | refine x_block ?_)
      refine c_reg ?_
      refine l_pure rfl (s_add  h28 rfl (IntWalk.i64_in _ (by omega)) ?_)
      refine l_pure rfl (s_move  rfl ?_)
      refine l_nil ?_
      repeat (with_reducible first | refine c_seq ?_ | refine c_block ?_ | refine c_skip ?_ | refine x_then ?_ | refine x_block ?_)
      exact ⟨a + 1, _, rfl, ⟨hlt, h1, h2, h3, h11, h27, vi rfl (by omega), hS⟩, by omega⟩
    · refine c_no rfl (decide_eq_false (by omega)) ?_
      repeat (with_reducible first | refine c_seq ?_ | refine c_block ?_ | refine c_skip ?_ | refine x_then ?_ | refine x_block ?_)
      refine c_exit ?_
      repeat (with_reducible first | refine x_then_exit ?_ | refine x_block_exit ?_ | refine x_block_pass rfl ?_)
      repeat (with_reducible first | refine c_seq ?_ | refine c_block ?_ | refine c_skip ?_ | refine x_then ?_ | refine x_block ?_)
      obtain rfl : a = m := by omega
      exact ⟨_, rfl, h11, hS⟩
  clear hS
  rintro ρ w4 ⟨h11, hS⟩
  repeat (with_reducible first | refine c_seq ?_ | refine c_block ?_ | refine c_skip ?_ | refine x_then ?_ | refine x_block ?_)
  rw [tab_congr (g := fun i => ofQ (finQ l c s i)) (fun i hi => by rw [show stQ l c s m ((0 : Nat) : Int) i = finQ l c s i from stQ_end l c s _ hob hi])] at hS
  repeat (with_reducible first | refine c_seq ?_ | refine c_block ?_ | refine c_skip ?_ | refine x_then ?_ | refine x_block ?_)
  refine c_reg ?_
  refine l_pure rfl (s_move  h11 ?_)
  refine l_pure rfl (s_asg  rfl ?_)
  refine l_pure rfl (s_asg  rfl ?_)
  refine l_nil ?_
  repeat (with_reducible first | refine c_seq ?_ | refine c_block ?_ | refine c_skip ?_ | refine x_then ?_ | refine x_block ?_)
  refine c_ret ?_
  repeat (with_reducible first | refine x_then_ret ?_ | refine x_block_ret ?_)
  refine r_two rfl rfl rfl ?_
  exact ⟨⟨⟨_, rfl, sl_tab (by omega) hS⟩, hS.below⟩, fun _ => ⟨b11, rfl, hS⟩⟩
theorem OApply_ok (n c s : Int) (vl : Value) (l : List Ob) (K : Nat) (w : World) (hl : Sl encOb 8 w vl l) (hB : ObB K l) (hK : 1000 * K + 1000 ≤ MX) (h20 : l.length ≤ 20) :
    Ret Tryz.prog 8 #[.int .i64 n, vl, .int .i64 c, .int .i64 s] w fun r w' => (∃ v, r = .tuple #[v, .int .i64 (chkE n l c s)] ∧ Sl encR 3 w' v (appL n l c s)) ∧ Below w.heap.size w w' :=
  (OApply_full n c s vl l K w hl hB hK h20).mono fun _ _ h => h.1
end Go.Proofs.YtdafaibhiobpaaaGreatDoor
namespace Go.Proofs.YtdafaibhiobpaaaGreatDoor
open Go Go.RowKit Go.Sx
def q30 : Rat := ((30 : Int) : Rat)
def q20 : Rat := ((20 : Int) : Rat)
def q25 : Rat := ((25 : Int) : Rat)
def q0_ : Rat := ((0 : Int) : Rat)
def ob0 : Ob := ⟨0, 1, ofQ q30, 5, 5, false⟩
def ob1 : Ob := ⟨0, 1, ofQ q20, 3, 3, false⟩
def ob2 : Ob := ⟨1, 0, ofQ q25, 9, 9, false⟩
def OB3 : List Ob := [ob0, ob1, ob2]
def kO (i : Nat) : Rat := if i = 0 then q30 else if i = 1 then q20 else if i = 2 then q25 else 0
theorem oQ_OB3 : oQ OB3 = kO := by
  funext i
  match i with
  | 0 => exact toQ_ofQ q30
  | 1 => exact toQ_ofQ q20
  | 2 => exact toQ_ofQ q25
  | n + 3 => exact toQ_zRR
theorem ord_a : ordL OB3 100 10 0 1 = [1, 0] := by decide +kernel
theorem ord_b : ordL OB3 100 10 1 0 = [2] := by decide +kernel
theorem mQ_a : mQ OB3 100 10 0 1 = q25 := by
  unfold mQ
  rw [ord_a, ord_b, oQ_OB3]
  decide +kernel
theorem mQ_b : mQ OB3 100 10 1 0 = q25 := by rw [mQ_comm, mQ_a]
theorem fin_a : finQ OB3 100 10 0 = q25 := by
  show (redu ⟨oQ OB3, mQ OB3 100 10 0 1⟩ (ordL OB3 100 10 0 1)).rest 0 = q25
  rw [mQ_a, ord_a, oQ_OB3]
  decide +kernel
theorem fin_b : finQ OB3 100 10 1 = q0_ := by
  show (redu ⟨oQ OB3, mQ OB3 100 10 0 1⟩ (ordL OB3 100 10 0 1)).rest 1 = q0_
  rw [mQ_a, ord_a, oQ_OB3]
  decide +kernel
theorem fin_c : finQ OB3 100 10 2 = q0_ := by
  show (redu ⟨oQ OB3, mQ OB3 100 10 1 0⟩ (ordL OB3 100 10 1 0)).rest 2 = q0_
  rw [mQ_b, ord_b, oQ_OB3]
  decide +kernel
theorem obs_of {n : Int} {l : List Ob} (hn : 0 ≤ n ∧ n ≤ 32) (hl : l.length ≤ 64) (h : ∀ o ∈ l, pairB n o.deb o.cre = true ∧ 0 ≤ toQ o.amt ∧ isDay o.inc = true ∧ isDay o.acq = true ∧ o.inc ≤ o.acq) : obsE n l = 0 := by
  unfold obsE
  rw [if_neg (by omega), if_neg (by omega)]
  have key : ∀ l : List Ob, (∀ o ∈ l, obErr n o = 0) → firstE (obErr n) l = 0 := by
    intro l
    induction l with
    | nil => intro _; rfl
    | cons o l ih =>
      intro hl
      rw [firstE, if_pos (hl o (List.mem_cons_self ..))]
      exact ih fun x hx => hl x (List.mem_cons_of_mem _ hx)
  refine key l fun o ho => ?_
  obtain ⟨h1, h2, h3, h4, h5⟩ := h o ho
  unfold obErr
  rw [if_neg (by rw [h1]; decide), if_neg (Rat.not_lt.2 h2), if_neg (by rw [h3, h4]; simp), if_neg (by omega)]
theorem chk_of {n c s : Int} {l : List Ob} (h : obsE n l = 0) (hc : isDay c = true) (hs : isDay s = true) : chkE n l c s = 0 := by
  unfold chkE
  rw [if_neg (fun g => g h), if_neg (by rw [hc, hs]; simp)]
theorem chk_OB3 : chkE 2 OB3 100 10 = 0 := by
  refine chk_of (obs_of (by omega) (by decide) fun o ho => ?_) (by decide) (by decide)
  rcases List.mem_cons.1 ho with rfl | ho
  · exact ⟨by decide, by show 0 ≤ toQ (ofQ q30); rw [toQ_ofQ]; decide +kernel, by decide, by decide, by decide⟩
  rcases List.mem_cons.1 ho with rfl | ho
  · exact ⟨by decide, by show 0 ≤ toQ (ofQ q20); rw [toQ_ofQ]; decide +kernel, by decide, by decide, by decide⟩
  rcases List.mem_cons.1 ho with rfl | ho
  · exact ⟨by decide, by show 0 ≤ toQ (ofQ q25); rw [toQ_ofQ]; decide +kernel, by decide, by decide, by decide⟩
  cases ho
theorem app_OB3 : appL 2 OB3 100 10 = [ofQ q25, ofQ q0_, ofQ q0_] := by
  unfold appL
  rw [if_pos chk_OB3]
  show [ofQ (finQ OB3 100 10 0), ofQ (finQ OB3 100 10 1), ofQ (finQ OB3 100 10 2)] = _
  rw [fin_a, fin_b, fin_c]
theorem ObB_OB3 : ObB 1 OB3 := by
  intro o ho
  rcases List.mem_cons.1 ho with rfl | ho
  · show Lr (ofQ q30) ≤ 1; rw [Lr_ofQ]; exact L_small (n := 30) (by decide)
  rcases List.mem_cons.1 ho with rfl | ho
  · show Lr (ofQ q20) ≤ 1; rw [Lr_ofQ]; exact L_small (n := 20) (by decide)
  rcases List.mem_cons.1 ho with rfl | ho
  · show Lr (ofQ q25) ≤ 1; rw [Lr_ofQ]; exact L_small (n := 25) (by decide)
  cases ho
theorem built_Ob5 (a b i q : Int) (p : RR) : Tryz.prog.built 66 [(0, .int .i64 a), (1, .int .i64 b), (2, aggR p), (3, .int .i64 i), (4, .int .i64 q)] = some #[.int .i64 a, .int .i64 b, .bool p.neg, .string p.num, .string p.den, .int .i64 i, .int .i64 q, .bool false] := by kernel_rfl
theorem built_Ob2 (i q : Int) : Tryz.prog.built 66 [(3, .int .i64 i), (4, .int .i64 q)] = some #[.int .i64 0, .int .i64 0, .bool false, .string ⟨#[]⟩, .string ⟨#[]⟩, .int .i64 i, .int .i64 q, .bool false] := by kernel_rfl
theorem i30_ok (w : World) : Ret Tryz.prog 40 #[.int .i64 30] w fun v w' => v = aggR (ofQ q30) ∧ Below w.heap.size w w' := QInt_ok 30 w (by decide) (by decide)
theorem i20_ok (w : World) : Ret Tryz.prog 40 #[.int .i64 20] w fun v w' => v = aggR (ofQ q20) ∧ Below w.heap.size w w' := QInt_ok 20 w (by decide) (by decide)
theorem i25_ok (w : World) : Ret Tryz.prog 40 #[.int .i64 25] w fun v w' => v = aggR (ofQ q25) ∧ Below w.heap.size w w' := QInt_ok 25 w (by decide) (by decide)
theorem i0_ok (w : World) : Ret Tryz.prog 40 #[.int .i64 0] w fun v w' => v = aggR (ofQ q0_) ∧ Below w.heap.size w w' := QInt_ok 0 w (by decide) (by decide)
def obL : Ob := ⟨0, 0, zRR, 50, 95, false⟩
theorem Elig_late (w : World) : Ret Tryz.prog 41 #[aggOb obL, .int .i64 100, .int .i64 10] w fun v w' => v = .bool false ∧ Below w.heap.size w w' := Eligible_ok obL 100 10 w
set_option maxHeartbeats 1000000 in
theorem Oawake_ok (w : World) : Ret Tryz.prog 10 #[] w fun v w' => v = .bool true ∧ Below w.heap.size w w' := by
  have hM : MX = 1099511627776 := rfl
  have hS := St.init w
  refine enter Tryz.func10 rfl Tryz.ntmps10 rfl ?_
  repeat (with_reducible first | refine c_seq ?_ | refine c_block ?_ | refine c_skip ?_ | refine x_then ?_ | refine x_block ?_)
  refine c_reg ?_
  refine l_pure rfl (s_asg  rfl ?_)
  refine l_nil ?_
  repeat (with_reducible first | refine c_seq ?_ | refine c_block ?_ | refine c_skip ?_ | refine x_then ?_ | refine x_block ?_)
  refine c_reg ?_
  refine l_heavy rfl (s_call Tryz.call40 rfl (i30_ok _) ?_)
  rintro r wa ⟨rfl, hBa⟩
  replace hS := hS.grow hBa
  refine l_pure rfl (s_build  rfl (built_Ob5 _ _ _ _ _) ?_)
  refine l_heavy rfl (s_call Tryz.call40 rfl (i20_ok _) ?_)
  rintro r wb ⟨rfl, hBb⟩
  replace hS := hS.grow hBb
  refine l_pure rfl (s_build  rfl (built_Ob5 _ _ _ _ _) ?_)
  refine l_heavy rfl (s_call Tryz.call40 rfl (i25_ok _) ?_)
  rintro r wc ⟨rfl, hBc⟩
  replace hS := hS.grow hBc
  refine l_pure rfl (s_build  rfl (built_Ob5 _ _ _ _ _) ?_)
  refine l_heavy rfl (s_bsl (vs := [aggOb ob0, aggOb ob1, aggOb ob2])  rfl si_23 rfl (by decide) (by decide) (by decide) (by simp [Value.cells, aggOb]) rfl hS ?_)
  intro b11 wz1 hS hBz1
  refine l_pure rfl (s_asg  rfl ?_)
  refine l_nil ?_
  repeat (with_reducible first | refine c_seq ?_ | refine c_block ?_ | refine c_skip ?_ | refine x_then ?_ | refine x_block ?_)
  replace hS : St w _ [(b11, 66, OB3.flatMap encOb)] := hS
  have hO : Sl encOb 8 _ (.slice (some ⟨b11, 0, none⟩) 3 3) OB3 := hS.sle (k := 0) (L := OB3) (n := 3) (cap := 3) rfl encOb_len (Nat.le_refl _) (Nat.le_refl _) (by decide)
  repeat (with_reducible first | refine c_seq ?_ | refine c_block ?_ | refine c_skip ?_ | refine x_then ?_ | refine x_block ?_)
  refine c_reg ?_
  refine l_pure rfl (s_move  rfl ?_)
  refine l_heavy rfl (s_call Tryz.call8 rfl (OApply_ok 2 100 10 _ OB3 1 _ hO ObB_OB3 (by rw [hM]; decide) (by decide)) ?_)
  rintro r w3 ⟨⟨va, rfl, hv1⟩, hB3⟩
  rw [app_OB3] at hv1
  rw [chk_OB3]
  replace hS := hS.grow hB3
  refine l_pure rfl (s_move  rfl ?_)
  refine l_pure rfl (s_ext  rfl rfl ?_)
  refine l_pure rfl (s_ext  rfl rfl ?_)
  refine l_pure rfl (s_asg  rfl ?_)
  refine l_pure rfl (s_asg  rfl ?_)
  refine l_nil ?_
  repeat (with_reducible first | refine c_seq ?_ | refine c_block ?_ | refine c_skip ?_ | refine x_then ?_ | refine x_block ?_)
  have hW := hS.below
  clear hO
  replace hS := St.init w3
  repeat (with_reducible first | refine c_seq ?_ | refine c_block ?_ | refine c_skip ?_ | refine x_then ?_ | refine x_block ?_)
  refine c_forget (fun ρ' => ρ' 2 = va ∧ ρ' 3 = .int .i64 0 ∧ True) ⟨rfl, rfl, trivial⟩ ?_
  rintro ρk2 ⟨hk2_2, hk2_3, -⟩
  repeat (with_reducible first | refine c_seq ?_ | refine c_block ?_ | refine c_skip ?_ | refine x_then ?_ | refine x_block ?_)
  refine c_reg ?_
  refine l_pure rfl (s_build  rfl (built_Ob2 50 95) ?_)
  refine l_heavy rfl (s_call Tryz.call41 rfl (Elig_late _) ?_)
  rintro r w4 ⟨rfl, hB4⟩
  replace hS := hS.grow hB4
  refine l_pure rfl (s_asg  rfl ?_)
  refine l_nil ?_
  repeat (with_reducible first | refine c_seq ?_ | refine c_block ?_ | refine c_skip ?_ | refine x_then ?_ | refine x_block ?_)
  refine c_drawM [0, 1, 3, 7, 15, 31, 63, 127, 255, 511, 1023, 255, 4095, 8191, 16383, 32767, 65535, 131071, 32767, 524287, 1048575, 2097151, 4194303, 8388607, 16777215, 4194303, 67108863, 134217727, 268435455, 536870911, 1073741823, 2147483647, 4294967295] [(0, .pure), (1, .pure), (2, .pure), (3, .pure), (4, .pure), (5, .pure), (6, .pure), (7, .pure), (8, .pure), (9, .pure), (10, .read), (11, .grow), (12, .pure), (13, .pure), (14, .pure), (15, .pure), (16, .pure), (17, .read), (18, .grow), (19, .pure), (20, .pure), (21, .pure), (22, .pure), (23, .pure), (24, .read), (25, .grow), (26, .pure), (27, .pure), (28, .pure), (29, .pure), (30, .pure), (31, .pure), (32, .pure)] (by kernel_rfl) (by kernel_rfl) hS ?_
  intro wz3 hS hBz3
  refine w_pure rfl rfl (s_move  hk2_3 ?_)
  refine w_pure rfl rfl (s_eql  rfl rfl ?_)
  refine w_pure rfl rfl (s_move  rfl ?_)
  refine w_pure rfl (gd_yes 21 (by kernel_rfl) rfl rfl) (s_move  hk2_2 ?_)
  refine w_pure rfl (gd_yes 21 (by kernel_rfl) rfl rfl) (s_lenr  rfl (hv1.below hS.below) ⟨_, Tryz.underlying25⟩ ?_)
  refine w_pure rfl (gd_yes 21 (by kernel_rfl) rfl rfl) (s_eql  rfl rfl ?_)
  refine w_pure rfl rfl (s_pick (vb rfl rfl) rfl ?_)
  refine w_pure rfl rfl (s_move  rfl ?_)
  refine w_pure rfl (gd_yes 26 (by kernel_rfl) rfl rfl) (s_move  hk2_2 ?_)
  refine w_pure rfl (gd_yes 26 (by kernel_rfl) rfl rfl) (s_ixr (i := 0)  rfl rfl (hv1.below hS.below) (by omega) (by first | omega | (simp; done) | (simp; omega)) si_25 ?_)
  refine w_read rfl (gd_yes 26 (by kernel_rfl) rfl rfl) (s_lde (i := 0) zRR  rfl vi_36 (hv1.below hS.below) (by first | omega | (simp; done) | (simp; omega)) rfl rfl (.inl rfl) ?_)
  refine w_grow rfl (gd_yes 26 (by kernel_rfl) rfl rfl) (s_call Tryz.call40 rfl (i25_ok _) ?_)
  rintro r w5 ⟨rfl, hB5⟩
  refine ⟨hB5, ?_⟩
  replace hS := hS.grow hB5
  refine w_pure rfl (gd_yes 26 (by kernel_rfl) rfl rfl) (s_eqR  rfl rfl ?_)
  refine w_pure rfl rfl (s_pick (vb rfl rfl) rfl ?_)
  refine w_pure rfl rfl (s_move  rfl ?_)
  refine w_pure rfl (gd_yes 33 (by kernel_rfl) rfl (decide_eq_true rfl)) (s_move  hk2_2 ?_)
  refine w_pure rfl (gd_yes 33 (by kernel_rfl) rfl (decide_eq_true rfl)) (s_ixr (i := 1)  rfl rfl (hv1.below hS.below) (by omega) (by first | omega | (simp; done) | (simp; omega)) si_25 ?_)
  refine w_read rfl (gd_yes 33 (by kernel_rfl) rfl (decide_eq_true rfl)) (s_lde (i := 1) zRR  rfl vi_36 (hv1.below hS.below) (by first | omega | (simp; done) | (simp; omega)) rfl rfl (.inl rfl) ?_)
  refine w_grow rfl (gd_yes 33 (by kernel_rfl) rfl (decide_eq_true rfl)) (s_call Tryz.call40 rfl (i0_ok _) ?_)
  rintro r w6 ⟨rfl, hB6⟩
  refine ⟨hB6, ?_⟩
  replace hS := hS.grow hB6
  refine w_pure rfl (gd_yes 33 (by kernel_rfl) rfl (decide_eq_true rfl)) (s_eqR  rfl rfl ?_)
  refine w_pure rfl rfl (s_pick (vb rfl (decide_eq_true rfl)) rfl ?_)
  refine w_pure rfl rfl (s_move  rfl ?_)
  refine w_pure rfl (gd_yes 40 (by kernel_rfl) rfl (decide_eq_true rfl)) (s_move  hk2_2 ?_)
  refine w_pure rfl (gd_yes 40 (by kernel_rfl) rfl (decide_eq_true rfl)) (s_ixr (i := 2)  rfl rfl (hv1.below hS.below) (by omega) (by first | omega | (simp; done) | (simp; omega)) si_25 ?_)
  refine w_read rfl (gd_yes 40 (by kernel_rfl) rfl (decide_eq_true rfl)) (s_lde (i := 2) zRR  rfl vi_36 (hv1.below hS.below) (by first | omega | (simp; done) | (simp; omega)) rfl rfl (.inl rfl) ?_)
  refine w_grow rfl (gd_yes 40 (by kernel_rfl) rfl (decide_eq_true rfl)) (s_call Tryz.call40 rfl (i0_ok _) ?_)
  rintro r w7 ⟨rfl, hB7⟩
  refine ⟨hB7, ?_⟩
  replace hS := hS.grow hB7
  refine w_pure rfl (gd_yes 40 (by kernel_rfl) rfl (decide_eq_true rfl)) (s_eqR  rfl rfl ?_)
  refine w_pure rfl rfl (s_pick (vb rfl (decide_eq_true rfl)) rfl ?_)
  refine w_pure rfl rfl (s_move  rfl ?_)
  refine w_pure rfl (gd_yes 47 (by kernel_rfl) rfl (decide_eq_true rfl)) (s_move  rfl ?_)
  refine w_pure rfl (gd_yes 47 (by kernel_rfl) rfl (decide_eq_true rfl)) (s_not  rfl ?_)
  refine w_pure rfl rfl (s_pick (vb rfl (decide_eq_true rfl)) rfl ?_)
  refine w_pure rfl rfl (s_asg  rfl ?_)
  refine w_end ?_
  repeat (with_reducible first | refine c_seq ?_ | refine c_block ?_ | refine c_skip ?_ | refine x_then ?_ | refine x_block ?_)
  refine c_ret ?_
  repeat (with_reducible first | refine x_then_ret ?_ | refine x_block_ret ?_)
  refine r_one rfl rfl ?_
  exact ⟨rfl, bt hW hS.below⟩
end Go.Proofs.YtdafaibhiobpaaaGreatDoor
