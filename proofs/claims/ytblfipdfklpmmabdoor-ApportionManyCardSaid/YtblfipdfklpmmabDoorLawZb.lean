/-
  Walk: the stable sort of a row that a comparing function finds equal throughout leaves it as it is.
-/
import Derived.Test.YtblfipdfklpmmabDoorLawZa
namespace Go.Proofs.YtblfipdfklpmmabDoor
open Go Go.RowKit Go.Sx

theorem isort_same {c : Int → Int → Int} {D : List Int} (hz : ∀ x ∈ D, ∀ y ∈ D, ¬ c x y < 0) : ∀ (M : List Int), (∀ x ∈ M, x ∈ D) → isort (ltC c) M = M := by
  have key : ∀ k (M : List Int), (∀ x ∈ M, x ∈ D) → k ≤ M.length → isort (ltC c) (M.take k) = M.take k := by
    intro k M hM
    induction k with
    | zero => intro _; rfl
    | succ k ih =>
      intro hk
      rw [take_succ' M k 0 (by omega), isort_snoc, ih (by omega)]
      have h := insAt_eq (lt := ltC c) (A := M.take k) (B := []) (x := M.getD k 0) (fun y hy => by cases hy) (fun y hy => decide_eq_false (hz _ (hM _ (getD_mem M k 0 (by omega))) _ (hM _ (List.mem_of_mem_take (List.mem_of_mem_getLast? hy)))))
      rwa [List.append_nil] at h
  intro M hM
  have := key M.length M hM (Nat.le_refl _)
  rwa [List.take_of_length_le (Nat.le_refl _)] at this
section
variable {f : FuncId} {cap : List Value} {c : Int → Int → Int} {D : List Int} {w0 : World} {b : Nat} {t : TypeId} {H : List Blk}
theorem insertionSort_same (hc : CmpOk f cap c D w0 b t H) (hz : ∀ x ∈ D, ∀ y ∈ D, ¬ c x y < 0) (L : List Int) (hL : ∀ x ∈ L, x ∈ D) (sp : List Value) (n cp : Nat) (hn : L.length = n) (hmax : n ≤ 1000000) (a e : Nat) (ha : a ≤ e) (he : e ≤ n) (w : World) (hS : St w0 w ((b, t, L.flatMap enI ++ sp) :: H)) :
    Ret Tryd.prog 47 #[.slice (some ⟨b, 0, none⟩) n cp, .int .i64 a, .int .i64 e, .func (.func f) #[] cap.toArray] w fun v w' => v = .tuple #[] ∧ St w0 w' ((b, t, L.flatMap enI ++ sp) :: H) := by
  have hM : ∀ x ∈ (L.drop a).take (e - a), x ∈ D := fun x hx => hL x (List.mem_of_mem_drop (List.mem_of_mem_take hx))
  have e1 : L.take a ++ (L.drop a).take (e - a) ++ L.drop e = L := by
    rw [← List.take_add, show a + (e - a) = e by omega, List.take_append_drop]
  have h := insertionSort_ok hc (L.take a) ((L.drop a).take (e - a)) (L.drop e) sp n cp a e (by simp; omega) (by simp; omega) (by simp; omega) hM hmax w (by rw [e1]; exact hS)
  rw [isort_same hz _ hM, e1] at h
  exact h
set_option maxHeartbeats 2000000 in
theorem stable_same (hc : CmpOk f cap c D w0 b t H) (hz : ∀ x ∈ D, ∀ y ∈ D, ¬ c x y < 0) (L : List Int) (hL : ∀ x ∈ L, x ∈ D) (sp : List Value) (n cp : Nat) (hn : L.length = n) (hmax : n ≤ 1000000) (w : World) (hS : St w0 w ((b, t, L.flatMap enI ++ sp) :: H)) :
    Ret Tryd.prog 34 #[.slice (some ⟨b, 0, none⟩) n cp, .int .i64 n, .func (.func f) #[] cap.toArray] w fun v w' => v = .tuple #[] ∧ St w0 w' ((b, t, L.flatMap enI ++ sp) :: H) := by
  have his := fun a e h1 h2 w h => insertionSort_same hc hz L hL sp n cp hn hmax a e h1 h2 w h
  have hsm := fun a m e h1 h2 h3 w h => symMerge_same hc hz L hL sp n cp hn hmax (e - a) a m e (Nat.le_refl _) h1 h2 h3 w h
  refine enter Tryd.func34 rfl Tryd.ntmps34 rfl ?_
  repeat (with_reducible first | refine c_seq ?_ | refine c_block ?_ | refine c_skip ?_ | refine x_then ?_ | refine x_block ?_)
  refine c_reg ?_
  refine l_pure rfl (s_asg  rfl ?_)
  refine l_nil ?_
  repeat (with_reducible first | refine c_seq ?_ | refine c_block ?_ | refine c_skip ?_ | refine x_then ?_ | refine x_block ?_)
  refine c_reg ?_
  refine l_pure rfl (s_move  rfl ?_)
  refine l_pure rfl (s_asg  rfl ?_)
  refine l_pure rfl (s_asg  rfl ?_)
  refine l_nil ?_
  repeat (with_reducible first | refine c_seq ?_ | refine c_skip ?_ | refine x_then ?_ | refine x_block ?_)
  refine c_cut1 (fun ρ w' => ρ 0 = .slice (some ⟨b, 0, none⟩) n cp ∧ ρ 1 = .int .i64 n ∧ ρ 2 = .func (.func f) #[] cap.toArray ∧ ρ 6 = .int .i64 20 ∧ (∃ a : Nat, ρ 7 = .int .i64 a ∧ a ≤ n) ∧ St w0 w' ((b, t, L.flatMap enI ++ sp) :: H)) ?_ ?_
  · repeat (with_reducible first | refine c_seq ?_ | refine c_block ?_ | refine c_skip ?_ | refine x_then ?_ | refine x_block ?_)
    refine c_loop (σ := Nat) (fun a ρ w' => a ≤ n ∧ ρ 0 = .slice (some ⟨b, 0, none⟩) n cp ∧ ρ 1 = .int .i64 n ∧ ρ 2 = .func (.func f) #[] cap.toArray ∧ ρ 6 = .int .i64 20 ∧ ρ 7 = .int .i64 a ∧ ρ 8 = .int .i64 (a + 20 : Nat) ∧ St w0 w' ((b, t, L.flatMap enI ++ sp) :: H)) (fun a => n - a) 0
      ⟨Nat.zero_le _, rfl, rfl, rfl, rfl, rfl, rfl, hS⟩ ?_
    clear hS
    rintro a ρ w2 ⟨ha, h0, h1, h2, h6, h7, h8, hS⟩
    repeat (with_reducible first | refine c_seq ?_ | refine c_block ?_ | refine c_skip ?_ | refine x_then ?_ | refine x_block ?_)
    refine c_reg ?_
    refine l_pure rfl (s_move  h8 ?_)
    refine l_pure rfl (s_move  h1 ?_)
    refine l_pure rfl (s_leq  rfl rfl ?_)
    refine l_nil ?_
    repeat (with_reducible first | refine c_seq ?_ | refine c_block ?_ | refine c_skip ?_ | refine x_then ?_ | refine x_block ?_)
    by_cases hlt : a + 20 ≤ n
    · refine c_yes rfl (decide_eq_true (by omega)) ?_
      repeat (with_reducible first | refine c_seq ?_ | refine c_block ?_ | refine c_skip ?_ | refine x_then ?_ | refine x_block ?_)
      refine c_reg ?_
      refine l_pure rfl (s_move  h0 ?_)
      refine l_pure rfl (s_move  h7 ?_)
      refine l_pure rfl (s_move  h8 ?_)
      refine l_pure rfl (s_move  h2 ?_)
      refine l_heavy rfl (s_call Tryd.call47 rfl (his a (a + 20) (by omega) hlt _ hS) ?_)
      rintro r w3 ⟨rfl, hS3⟩
      clear hS
      have hS := hS3
      refine l_nil ?_
      repeat (with_reducible first | refine c_seq ?_ | refine c_block ?_ | refine c_skip ?_ | refine x_then ?_ | refine x_block ?_)
      refine c_reg ?_
      refine l_pure rfl (s_move  h8 ?_)
      refine l_pure rfl (s_asg  rfl ?_)
      refine l_nil ?_
      repeat (with_reducible first | refine c_seq ?_ | refine c_block ?_ | refine c_skip ?_ | refine x_then ?_ | refine x_block ?_)
      refine c_reg ?_
      refine l_pure rfl (s_move  h8 ?_)
      refine l_pure rfl (s_move  h6 ?_)
      refine l_pure rfl (s_add  rfl rfl (IntWalk.i64_in _ (by omega)) ?_)
      refine l_pure rfl (s_asg  rfl ?_)
      refine l_nil ?_
      repeat (with_reducible first | refine c_seq ?_ | refine c_block ?_ | refine c_skip ?_ | refine x_then ?_ | refine x_block ?_)
      exact ⟨a + 20, _, rfl, ⟨hlt, by assumption, by assumption, by assumption, by assumption, rfl, vi rfl (by omega), hS⟩, by omega⟩
    · refine c_no rfl (decide_eq_false (by omega)) ?_
      repeat (with_reducible first | refine c_seq ?_ | refine c_block ?_ | refine c_skip ?_ | refine x_then ?_ | refine x_block ?_)
      refine c_exit ?_
      repeat (with_reducible first | refine x_then_exit ?_ | refine x_block_exit ?_ | refine x_block_pass rfl ?_)
      repeat (with_reducible first | refine c_seq ?_ | refine c_block ?_ | refine c_skip ?_ | refine x_then ?_ | refine x_block ?_)
      exact ⟨_, rfl, h0, h1, h2, h6, ⟨a, h7, ha⟩, hS⟩
  clear hS
  rintro ρ w2 ⟨h0, h1, h2, h6, ⟨a, h7, ha⟩, hS⟩
  repeat (with_reducible first | refine c_seq ?_ | refine c_block ?_ | refine c_skip ?_ | refine x_then ?_ | refine x_block ?_)
  refine c_reg ?_
  refine l_pure rfl (s_move  h0 ?_)
  refine l_pure rfl (s_move  h7 ?_)
  refine l_pure rfl (s_move  h1 ?_)
  refine l_pure rfl (s_move  h2 ?_)
  refine l_heavy rfl (s_call Tryd.call47 rfl (his a n ha (Nat.le_refl _) _ hS) ?_)
  rintro r w3 ⟨rfl, hS3⟩
  clear hS
  have hS := hS3
  refine l_nil ?_
  repeat (with_reducible first | refine c_seq ?_ | refine c_block ?_ | refine c_skip ?_ | refine x_then ?_ | refine x_block ?_)
  refine c_loop (σ := Nat) (fun s ρ w' => 20 ≤ s ∧ s ≤ 2000000 ∧ ρ 0 = .slice (some ⟨b, 0, none⟩) n cp ∧ ρ 1 = .int .i64 n ∧ ρ 2 = .func (.func f) #[] cap.toArray ∧ ρ 6 = .int .i64 s ∧ St w0 w' ((b, t, L.flatMap enI ++ sp) :: H)) (fun s => n - s) 20
    ⟨Nat.le_refl _, by omega, h0, h1, h2, h6, hS⟩ ?_
  clear hS h0 h1 h2 h6
  rintro s ρ w4 ⟨hs1, hs2, h0, h1, h2, h6, hS⟩
  repeat (with_reducible first | refine c_seq ?_ | refine c_block ?_ | refine c_skip ?_ | refine x_then ?_ | refine x_block ?_)
  refine c_reg ?_
  refine l_pure rfl (s_move  h6 ?_)
  refine l_pure rfl (s_move  h1 ?_)
  refine l_pure rfl (s_lss  rfl rfl ?_)
  refine l_nil ?_
  repeat (with_reducible first | refine c_seq ?_ | refine c_block ?_ | refine c_skip ?_ | refine x_then ?_ | refine x_block ?_)
  by_cases hlt : s < n
  · refine c_yes rfl (decide_eq_true (by omega)) ?_
    repeat (with_reducible first | refine c_seq ?_ | refine c_block ?_ | refine c_skip ?_ | refine x_then ?_ | refine x_block ?_)
    refine c_reg ?_
    refine l_pure rfl (s_move  h6 ?_)
    refine l_pure rfl (s_mul  rfl rfl (IntWalk.i64_in _ (by omega)) ?_)
    refine l_pure rfl (s_asg  rfl ?_)
    refine l_pure rfl (s_asg  rfl ?_)
    refine l_nil ?_
    repeat (with_reducible first | refine c_seq ?_ | refine c_skip ?_ | refine x_then ?_ | refine x_block ?_)
    refine c_cut1 (fun ρ w' => ρ 0 = .slice (some ⟨b, 0, none⟩) n cp ∧ ρ 1 = .int .i64 n ∧ ρ 2 = .func (.func f) #[] cap.toArray ∧ ρ 6 = .int .i64 s ∧ (∃ a : Nat, ρ 7 = .int .i64 a ∧ a ≤ n) ∧ St w0 w' ((b, t, L.flatMap enI ++ sp) :: H)) ?_ ?_
    · repeat (with_reducible first | refine c_seq ?_ | refine c_block ?_ | refine c_skip ?_ | refine x_then ?_ | refine x_block ?_)
      refine c_loop (σ := Nat) (fun a ρ w' => a ≤ n ∧ ρ 0 = .slice (some ⟨b, 0, none⟩) n cp ∧ ρ 1 = .int .i64 n ∧ ρ 2 = .func (.func f) #[] cap.toArray ∧ ρ 6 = .int .i64 s ∧ ρ 7 = .int .i64 a ∧ ρ 8 = .int .i64 (a + 2 * s : Nat) ∧ St w0 w' ((b, t, L.flatMap enI ++ sp) :: H)) (fun a => n - a) 0
        ⟨Nat.zero_le _, by assumption, by assumption, by assumption, by assumption, rfl, vi rfl (by omega), hS⟩ ?_
      clear hS h0 h1 h2 h6
      rintro a ρ w5 ⟨ha, h0, h1, h2, h6, h7, h8, hS⟩
      repeat (with_reducible first | refine c_seq ?_ | refine c_block ?_ | refine c_skip ?_ | refine x_then ?_ | refine x_block ?_)
      refine c_reg ?_
      refine l_pure rfl (s_move  h8 ?_)
      refine l_pure rfl (s_move  h1 ?_)
      refine l_pure rfl (s_leq  rfl rfl ?_)
      refine l_nil ?_
      repeat (with_reducible first | refine c_seq ?_ | refine c_block ?_ | refine c_skip ?_ | refine x_then ?_ | refine x_block ?_)
      by_cases hle : a + 2 * s ≤ n
      · refine c_yes rfl (decide_eq_true (by omega)) ?_
        repeat (with_reducible first | refine c_seq ?_ | refine c_block ?_ | refine c_skip ?_ | refine x_then ?_ | refine x_block ?_)
        have hcall := hsm a (a + s) (a + 2 * s) (by omega) (by omega) hle w5 hS
        repeat (with_reducible first | refine c_seq ?_ | refine c_block ?_ | refine c_skip ?_ | refine x_then ?_ | refine x_block ?_)
        refine c_reg ?_
        refine l_pure rfl (s_move  h0 ?_)
        refine l_pure rfl (s_move  h7 ?_)
        refine l_pure rfl (s_move  h7 ?_)
        refine l_pure rfl (s_move  h6 ?_)
        refine l_pure rfl (s_add  rfl rfl (r := ((a + s : Nat) : Int)) (by exact wr_i64 _ ⟨by omega, by omega, by omega⟩) ?_)
        refine l_pure rfl (s_move  h8 ?_)
        refine l_pure rfl (s_move  h2 ?_)
        refine l_heavy rfl (s_call Tryd.call48 rfl (hcall) ?_)
        rintro r w6 ⟨rfl, hS6⟩
        clear hS
        have hS := hS6
        refine l_nil ?_
        repeat (with_reducible first | refine c_seq ?_ | refine c_block ?_ | refine c_skip ?_ | refine x_then ?_ | refine x_block ?_)
        refine c_reg ?_
        refine l_pure rfl (s_move  h8 ?_)
        refine l_pure rfl (s_asg  rfl ?_)
        refine l_nil ?_
        repeat (with_reducible first | refine c_seq ?_ | refine c_block ?_ | refine c_skip ?_ | refine x_then ?_ | refine x_block ?_)
        refine c_reg ?_
        refine l_pure rfl (s_move  h8 ?_)
        refine l_pure rfl (s_move  h6 ?_)
        refine l_pure rfl (s_mul  rfl rfl (IntWalk.i64_in _ (by omega)) ?_)
        refine l_pure rfl (s_add  rfl rfl (IntWalk.i64_in _ (by omega)) ?_)
        refine l_pure rfl (s_asg  rfl ?_)
        refine l_nil ?_
        repeat (with_reducible first | refine c_seq ?_ | refine c_block ?_ | refine c_skip ?_ | refine x_then ?_ | refine x_block ?_)
        exact ⟨a + 2 * s, _, rfl, ⟨hle, by assumption, by assumption, by assumption, by assumption, rfl, vi rfl (by omega), hS⟩, by omega⟩
      · refine c_no rfl (decide_eq_false (by omega)) ?_
        repeat (with_reducible first | refine c_seq ?_ | refine c_block ?_ | refine c_skip ?_ | refine x_then ?_ | refine x_block ?_)
        refine c_exit ?_
        repeat (with_reducible first | refine x_then_exit ?_ | refine x_block_exit ?_ | refine x_block_pass rfl ?_)
        repeat (with_reducible first | refine c_seq ?_ | refine c_block ?_ | refine c_skip ?_ | refine x_then ?_ | refine x_block ?_)
        exact ⟨_, rfl, h0, h1, h2, h6, ⟨a, h7, ha⟩, hS⟩
    clear hS h0 h1 h2 h6
    rintro ρ w5 ⟨h0, h1, h2, h6, ⟨a, h7, ha⟩, hS⟩
    repeat (with_reducible first | refine c_seq ?_ | refine c_block ?_ | refine c_skip ?_ | refine x_then ?_ | refine x_block ?_)
    refine c_reg ?_
    refine l_pure rfl (s_move  h7 ?_)
    refine l_pure rfl (s_move  h6 ?_)
    refine l_pure rfl (s_add  rfl rfl (r := ((a + s : Nat) : Int)) (by exact wr_i64 _ ⟨by omega, by omega, by omega⟩) ?_)
    refine l_pure rfl (s_asg  rfl ?_)
    refine l_nil ?_
    repeat (with_reducible first | refine c_seq ?_ | refine c_block ?_ | refine c_skip ?_ | refine x_then ?_ | refine x_block ?_)
    refine c_reg ?_
    refine l_pure rfl (s_move  rfl ?_)
    refine l_pure rfl (s_move  h1 ?_)
    refine l_pure rfl (s_lss  rfl rfl ?_)
    refine l_nil ?_
    repeat (with_reducible first | refine c_seq ?_ | refine c_block ?_ | refine c_skip ?_ | refine x_then ?_ | refine x_block ?_)
    by_cases hm : a + s < n
    · have hcall := hsm a (a + s) n (by omega) hm (Nat.le_refl _) w5 hS
      refine c_yes rfl (decide_eq_true (by omega)) ?_
      repeat (with_reducible first | refine c_seq ?_ | refine c_block ?_ | refine c_skip ?_ | refine x_then ?_ | refine x_block ?_)
      refine c_reg ?_
      refine l_pure rfl (s_move  h0 ?_)
      refine l_pure rfl (s_move  h7 ?_)
      refine l_pure rfl (s_move  rfl ?_)
      refine l_pure rfl (s_move  h1 ?_)
      refine l_pure rfl (s_move  h2 ?_)
      refine l_heavy rfl (s_call Tryd.call48 rfl (hcall) ?_)
      rintro r w6 ⟨rfl, hS6⟩
      refine l_nil ?_
      repeat (with_reducible first | refine c_seq ?_ | refine c_block ?_ | refine c_skip ?_ | refine x_then ?_ | refine x_block ?_)
      refine c_reg ?_
      refine l_pure rfl (s_move  h6 ?_)
      refine l_pure rfl (s_mul  rfl rfl (IntWalk.i64_in _ (by omega)) ?_)
      refine l_pure rfl (s_asg  rfl ?_)
      refine l_nil ?_
      repeat (with_reducible first | refine c_seq ?_ | refine c_block ?_ | refine c_skip ?_ | refine x_then ?_ | refine x_block ?_)
      exact ⟨2 * s, _, rfl, ⟨by omega, by omega, by assumption, by assumption, by assumption, vi rfl (by omega), hS6⟩, by omega⟩
    · refine c_no rfl (decide_eq_false (by omega)) ?_
      repeat (with_reducible first | refine c_seq ?_ | refine c_block ?_ | refine c_skip ?_ | refine x_then ?_ | refine x_block ?_)
      refine c_reg ?_
      refine l_pure rfl (s_move  h6 ?_)
      refine l_pure rfl (s_mul  rfl rfl (IntWalk.i64_in _ (by omega)) ?_)
      refine l_pure rfl (s_asg  rfl ?_)
      refine l_nil ?_
      repeat (with_reducible first | refine c_seq ?_ | refine c_block ?_ | refine c_skip ?_ | refine x_then ?_ | refine x_block ?_)
      exact ⟨2 * s, _, rfl, ⟨by omega, by omega, by assumption, by assumption, by assumption, vi rfl (by omega), hS⟩, by omega⟩
  · refine c_no rfl (decide_eq_false (by omega)) ?_
    repeat (with_reducible first | refine c_seq ?_ | refine c_block ?_ | refine c_skip ?_ | refine x_then ?_ | refine x_block ?_)
    refine c_exit ?_
    repeat (with_reducible first | refine x_then_exit ?_ | refine x_block_exit ?_ | refine x_block_pass rfl ?_)
    repeat (with_reducible first | refine c_seq ?_ | refine c_block ?_ | refine c_skip ?_ | refine x_then ?_ | refine x_block ?_)
    exact r_none rfl ⟨rfl, hS⟩
theorem SortStable_same (hc : CmpOk f cap c D w0 b t H) (hz : ∀ x ∈ D, ∀ y ∈ D, ¬ c x y < 0) (L : List Int) (hL : ∀ x ∈ L, x ∈ D) (sp : List Value) (n cp : Nat) (hn : L.length = n) (hmax : n ≤ 1000000) (w : World) (hS : St w0 w ((b, t, L.flatMap enI ++ sp) :: H)) :
    Ret Tryd.prog 15 #[.slice (some ⟨b, 0, none⟩) n cp, .func (.func f) #[] cap.toArray] w fun v w' => v = .tuple #[] ∧ St w0 w' ((b, t, L.flatMap enI ++ sp) :: H) := by
  refine enter Tryd.func15 rfl Tryd.ntmps15 rfl ?_
  repeat (with_reducible first | refine c_seq ?_ | refine c_block ?_ | refine c_skip ?_ | refine x_then ?_ | refine x_block ?_)
  refine c_reg ?_
  refine l_pure rfl (s_move  rfl ?_)
  refine l_pure rfl (s_move  rfl ?_)
  refine l_pure rfl (s_leno  rfl ⟨_, Tryd.underlying40⟩ ?_)
  refine l_pure rfl (s_move  rfl ?_)
  refine l_heavy rfl (s_call Tryd.call34 rfl (stable_same hc hz L hL sp n cp hn hmax _ hS) ?_)
  rintro r w3 ⟨rfl, hS⟩
  refine l_nil ?_
  repeat (with_reducible first | refine c_seq ?_ | refine c_block ?_ | refine c_skip ?_ | refine x_then ?_ | refine x_block ?_)
  exact r_none rfl ⟨rfl, hS⟩
end
end Go.Proofs.YtblfipdfklpmmabDoor
