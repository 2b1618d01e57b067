/-
  Walk: merging two parts of a row that a comparing function finds equal throughout leaves it as it is.
-/
import Derived.Test.YtblfipdfklpmmabDoorLawVc
namespace Go.Proofs.YtblfipdfklpmmabDoor
open Go Go.RowKit Go.Sx

theorem r_noneR {P : Program} {N : Nat} {ρ : Nat → Value} {w : World} {fn : Func} {R : Value → World → Prop} (hr : fn.results = #[]) (h : R (.tuple #[]) w) :
    bodyPost P fn (fun e w' => ∃ v, e = .returned v ∧ R v w') .ret (act N ρ) w :=
  bodyPost_ret (results_none hr _ _ _) rfl ⟨_, rfl, h⟩
set_option maxHeartbeats 4000000 in
theorem symMerge_same {f : FuncId} {cap : List Value} {c : Int → Int → Int} {D : List Int} {w0 : World} {b : Nat} {t : TypeId} {H : List Blk} (hc : CmpOk f cap c D w0 b t H) (hz : ∀ x ∈ D, ∀ y ∈ D, ¬ c x y < 0) (L : List Int) (hL : ∀ x ∈ L, x ∈ D) (sp : List Value) (n cp : Nat)
    (hn : L.length = n) (hmax : n ≤ 1000000) : ∀ (d a m e : Nat), e - a ≤ d → a < m → m < e → e ≤ n → ∀ (w : World), St w0 w ((b, t, L.flatMap enI ++ sp) :: H) →
    Ret Tryd.prog 48 #[.slice (some ⟨b, 0, none⟩) n cp, .int .i64 a, .int .i64 m, .int .i64 e, .func (.func f) #[] cap.toArray] w fun v w' => v = .tuple #[] ∧ St w0 w' ((b, t, L.flatMap enI ++ sp) :: H) := by
  obtain ⟨hcall, hcmp⟩ := hc
  intro d
  induction d with
  | zero => intro a m e h1 h2 h3; omega
  | succ d ih =>
    intro a m e hd ham hme hen w hS
    have hin : ∀ i, i < n → L.getD i 0 ∈ D := fun i hi => hL _ (getD_mem L i 0 (by omega))
    refine enter Tryd.func48 rfl Tryd.ntmps48 rfl ?_
    repeat (with_reducible first | refine c_seq ?_ | refine c_block ?_ | refine c_skip ?_ | refine x_then ?_ | refine x_block ?_)
    refine c_reg ?_
    refine l_pure rfl (s_move  rfl ?_)
    refine l_pure rfl (s_move  rfl ?_)
    refine l_pure rfl (s_sub  rfl rfl (IntWalk.i64_in _ (by omega)) ?_)
    refine l_pure rfl (s_eql  rfl rfl ?_)
    refine l_nil ?_
    repeat (with_reducible first | refine c_seq ?_ | refine c_block ?_ | refine c_skip ?_ | refine x_then ?_ | refine x_block ?_)
    by_cases h1 : m - a = 1
    · refine c_yes rfl (decide_eq_true (by omega)) ?_
      repeat (with_reducible first | refine c_seq ?_ | refine c_block ?_ | refine c_skip ?_ | refine x_then ?_ | refine x_block ?_)
      refine c_reg ?_
      refine l_pure rfl (s_move  rfl ?_)
      refine l_pure rfl (s_asg  rfl ?_)
      refine l_nil ?_
      repeat (with_reducible first | refine c_seq ?_ | refine c_block ?_ | refine c_skip ?_ | refine x_then ?_ | refine x_block ?_)
      refine c_reg ?_
      refine l_pure rfl (s_move  rfl ?_)
      refine l_pure rfl (s_asg  rfl ?_)
      refine l_nil ?_
      repeat (with_reducible first | refine c_seq ?_ | refine c_skip ?_ | refine x_then ?_ | refine x_block ?_)
      refine c_cut1 (fun ρ w' => ρ 1 = .int .i64 a ∧ ρ 10 = .int .i64 m ∧ St w0 w' ((b, t, L.flatMap enI ++ sp) :: H)) ?_ ?_
      · repeat (with_reducible first | refine c_seq ?_ | refine c_block ?_ | refine c_skip ?_ | refine x_then ?_ | refine x_block ?_)
        refine c_loop (σ := Nat) (fun j ρ w' => m ≤ j ∧ j ≤ e ∧ ρ 0 = .slice (some ⟨b, 0, none⟩) n cp ∧ ρ 1 = .int .i64 a ∧ ρ 4 = .func (.func f) #[] cap.toArray ∧ ρ 10 = .int .i64 m ∧ ρ 11 = .int .i64 j ∧ St w0 w' ((b, t, L.flatMap enI ++ sp) :: H)) (fun j => j) e
          ⟨by omega, Nat.le_refl _, rfl, rfl, rfl, rfl, rfl, hS⟩ ?_
        clear hS
        rintro j ρ w2 ⟨hj1, hj2, h0, h1', h4, h10, h11, hS⟩
        repeat (with_reducible first | refine c_seq ?_ | refine c_block ?_ | refine c_skip ?_ | refine x_then ?_ | refine x_block ?_)
        refine c_reg ?_
        refine l_pure rfl (s_move  h10 ?_)
        refine l_pure rfl (s_move  h11 ?_)
        refine l_pure rfl (s_lss  rfl rfl ?_)
        refine l_nil ?_
        repeat (with_reducible first | refine c_seq ?_ | refine c_block ?_ | refine c_skip ?_ | refine x_then ?_ | refine x_block ?_)
        by_cases hlt : m < j
        · refine c_yes rfl (decide_eq_true (by omega)) ?_
          repeat (with_reducible first | refine c_seq ?_ | refine c_block ?_ | refine c_skip ?_ | refine x_then ?_ | refine x_block ?_)
          obtain ⟨h, hh⟩ : ∃ h, h = (m + j) / 2 := ⟨_, rfl⟩
          have hf := hz _ (hin h (by omega)) _ (hin a (by omega))
          repeat (with_reducible first | refine c_seq ?_ | refine c_block ?_ | refine c_skip ?_ | refine x_then ?_ | refine x_block ?_)
          refine c_reg ?_
          refine l_pure rfl (s_move  h10 ?_)
          refine l_pure rfl (s_move  h11 ?_)
          refine l_pure rfl (s_add  rfl rfl (IntWalk.i64_in _ (by omega)) ?_)
          refine l_pure rfl (s_conv  rfl Tryd.underlying71 ⟨_, Tryd.underlying3⟩ (IntWalk.u64_in _ (by omega)) ?_)
          refine l_pure rfl (s_shr  rfl rfl (by decide) (shr_n _ 1 (by decide)) ?_)
          refine l_pure rfl (s_conv  rfl Tryd.underlying3 ⟨_, Tryd.underlying71⟩ (IntWalk.i64_in _ (by omega)) ?_)
          refine l_pure rfl (s_asg  rfl ?_)
          refine l_nil ?_
          repeat (with_reducible first | refine c_seq ?_ | refine c_block ?_ | refine c_skip ?_ | refine x_then ?_ | refine x_block ?_)
          refine c_draw [(0, .pure), (1, .pure), (2, .pure), (3, .pure), (4, .read), (5, .pure), (6, .pure), (7, .pure), (8, .read), (9, .grow), (10, .pure)] (by kernel_rfl) (by kernel_rfl) hS ?_
          intro wz1 hS hBz1
          refine w_pure rfl rfl (s_move  h4 ?_)
          refine w_pure rfl rfl (s_move  h0 ?_)
          refine w_pure rfl rfl (s_move  rfl ?_)
          refine w_pure rfl rfl (s_ixo (i := h)  rfl rfl (by omega) (by first | omega | (simp; done) | (simp; omega)) si_40 ?_)
          refine w_read rfl rfl (s_ldS (k := 0) (i := h) (enc := enI) 0 (fun _ => rfl)  rfl vi_3 hS rfl (by first | omega | simp) (by first | omega | (simp; done) | (simp; omega)) rfl (.inr rfl) ?_)
          refine w_pure rfl rfl (s_move  h0 ?_)
          refine w_pure rfl rfl (s_move  h1' ?_)
          refine w_pure rfl rfl (s_ixo (i := a)  rfl rfl (by omega) (by first | omega | (simp; done) | (simp; omega)) si_40 ?_)
          refine w_read rfl rfl (s_ldS (k := 0) (i := a) (enc := enI) 0 (fun _ => rfl)  rfl vi_3 hS rfl (by first | omega | simp) (by first | omega | (simp; done) | (simp; omega)) rfl (.inr rfl) ?_)
          refine w_grow rfl rfl (s_callv hcall rfl rfl (hcmp _ (L.getD h 0) (L.getD a 0) _ hS (hin h (by omega)) (hin a (by omega))) ?_)
          rintro r w3 ⟨rfl, hB3⟩
          refine ⟨hB3, ?_⟩
          replace hS := hS.grow hB3
          refine w_pure rfl rfl (s_lss  rfl rfl ?_)
          refine w_end ?_
          repeat (with_reducible first | refine c_seq ?_ | refine c_block ?_ | refine c_skip ?_ | refine x_then ?_ | refine x_block ?_)
          refine c_no rfl (decide_eq_false hf) ?_
          repeat (with_reducible first | refine c_seq ?_ | refine c_block ?_ | refine c_skip ?_ | refine x_then ?_ | refine x_block ?_)
          refine c_reg ?_
          refine l_pure rfl (s_move  rfl ?_)
          refine l_pure rfl (s_asg  rfl ?_)
          refine l_nil ?_
          repeat (with_reducible first | refine c_seq ?_ | refine c_block ?_ | refine c_skip ?_ | refine x_then ?_ | refine x_block ?_)
          exact ⟨h, _, rfl, ⟨by omega, by omega, by assumption, by assumption, by assumption, by assumption, vi rfl (by omega), hS⟩, by omega⟩
        · refine c_no rfl (decide_eq_false (by omega)) ?_
          repeat (with_reducible first | refine c_seq ?_ | refine c_block ?_ | refine c_skip ?_ | refine x_then ?_ | refine x_block ?_)
          refine c_exit ?_
          repeat (with_reducible first | refine x_then_exit ?_ | refine x_block_exit ?_ | refine x_block_pass rfl ?_)
          repeat (with_reducible first | refine c_seq ?_ | refine c_block ?_ | refine c_skip ?_ | refine x_then ?_ | refine x_block ?_)
          exact ⟨_, rfl, h1', h10, hS⟩
      clear hS
      rintro ρ w2 ⟨h1', h10, hS⟩
      repeat (with_reducible first | refine c_seq ?_ | refine c_block ?_ | refine c_skip ?_ | refine x_then ?_ | refine x_block ?_)
      refine c_reg ?_
      refine l_pure rfl (s_move  h1' ?_)
      refine l_pure rfl (s_asg  rfl ?_)
      refine l_nil ?_
      repeat (with_reducible first | refine c_seq ?_ | refine c_block ?_ | refine c_skip ?_ | refine x_then ?_ | refine x_block ?_)
      refine c_loop (σ := Unit) (fun _ ρ w' => ρ 10 = .int .i64 m ∧ ρ 13 = .int .i64 a ∧ St w0 w' ((b, t, L.flatMap enI ++ sp) :: H)) (fun _ => 0) () ⟨h10, rfl, hS⟩ ?_
      clear hS
      rintro _ ρ w3 ⟨h10, h13, hS⟩
      repeat (with_reducible first | refine c_seq ?_ | refine c_block ?_ | refine c_skip ?_ | refine x_then ?_ | refine x_block ?_)
      refine c_reg ?_
      refine l_pure rfl (s_move  h13 ?_)
      refine l_pure rfl (s_move  h10 ?_)
      refine l_pure rfl (s_sub  rfl rfl (IntWalk.i64_in _ (by omega)) ?_)
      refine l_pure rfl (s_lss  rfl rfl ?_)
      refine l_nil ?_
      repeat (with_reducible first | refine c_seq ?_ | refine c_block ?_ | refine c_skip ?_ | refine x_then ?_ | refine x_block ?_)
      refine c_no rfl (decide_eq_false (by omega)) ?_
      repeat (with_reducible first | refine c_seq ?_ | refine c_block ?_ | refine c_skip ?_ | refine x_then ?_ | refine x_block ?_)
      refine c_exit ?_
      repeat (with_reducible first | refine x_then_exit ?_ | refine x_block_exit ?_ | refine x_block_pass rfl ?_)
      repeat (with_reducible first | refine c_seq ?_ | refine c_block ?_ | refine c_skip ?_ | refine x_then ?_ | refine x_block ?_)
      refine c_ret ?_
      repeat (with_reducible first | refine x_then_ret ?_ | refine x_block_ret ?_)
      exact r_noneR rfl ⟨rfl, hS⟩
    · refine c_no rfl (decide_eq_false (by omega)) ?_
      repeat (with_reducible first | refine c_seq ?_ | refine c_block ?_ | refine c_skip ?_ | refine x_then ?_ | refine x_block ?_)
      refine c_reg ?_
      refine l_pure rfl (s_move  rfl ?_)
      refine l_pure rfl (s_move  rfl ?_)
      refine l_pure rfl (s_sub  rfl rfl (IntWalk.i64_in _ (by omega)) ?_)
      refine l_pure rfl (s_eql  rfl rfl ?_)
      refine l_nil ?_
      repeat (with_reducible first | refine c_seq ?_ | refine c_block ?_ | refine c_skip ?_ | refine x_then ?_ | refine x_block ?_)
      by_cases h2 : e - m = 1
      · refine c_yes rfl (decide_eq_true (by omega)) ?_
        repeat (with_reducible first | refine c_seq ?_ | refine c_block ?_ | refine c_skip ?_ | refine x_then ?_ | refine x_block ?_)
        refine c_reg ?_
        refine l_pure rfl (s_move  rfl ?_)
        refine l_pure rfl (s_asg  rfl ?_)
        refine l_nil ?_
        repeat (with_reducible first | refine c_seq ?_ | refine c_block ?_ | refine c_skip ?_ | refine x_then ?_ | refine x_block ?_)
        refine c_reg ?_
        refine l_pure rfl (s_move  rfl ?_)
        refine l_pure rfl (s_asg  rfl ?_)
        refine l_nil ?_
        repeat (with_reducible first | refine c_seq ?_ | refine c_skip ?_ | refine x_then ?_ | refine x_block ?_)
        refine c_cut1 (fun ρ w' => ρ 2 = .int .i64 m ∧ ρ 14 = .int .i64 m ∧ St w0 w' ((b, t, L.flatMap enI ++ sp) :: H)) ?_ ?_
        · repeat (with_reducible first | refine c_seq ?_ | refine c_block ?_ | refine c_skip ?_ | refine x_then ?_ | refine x_block ?_)
          refine c_loop (σ := Nat) (fun i ρ w' => a ≤ i ∧ i ≤ m ∧ ρ 0 = .slice (some ⟨b, 0, none⟩) n cp ∧ ρ 2 = .int .i64 m ∧ ρ 4 = .func (.func f) #[] cap.toArray ∧ ρ 14 = .int .i64 i ∧ ρ 15 = .int .i64 m ∧ St w0 w' ((b, t, L.flatMap enI ++ sp) :: H)) (fun i => m - i) a
            ⟨Nat.le_refl _, by omega, rfl, rfl, rfl, rfl, rfl, hS⟩ ?_
          clear hS
          rintro i ρ w2 ⟨hi1, hi2, h0, h2', h4, h14, h15, hS⟩
          repeat (with_reducible first | refine c_seq ?_ | refine c_block ?_ | refine c_skip ?_ | refine x_then ?_ | refine x_block ?_)
          refine c_reg ?_
          refine l_pure rfl (s_move  h14 ?_)
          refine l_pure rfl (s_move  h15 ?_)
          refine l_pure rfl (s_lss  rfl rfl ?_)
          refine l_nil ?_
          repeat (with_reducible first | refine c_seq ?_ | refine c_block ?_ | refine c_skip ?_ | refine x_then ?_ | refine x_block ?_)
          by_cases hlt : i < m
          · refine c_yes rfl (decide_eq_true (by omega)) ?_
            repeat (with_reducible first | refine c_seq ?_ | refine c_block ?_ | refine c_skip ?_ | refine x_then ?_ | refine x_block ?_)
            obtain ⟨h, hh⟩ : ∃ h, h = (i + m) / 2 := ⟨_, rfl⟩
            have hf := hz _ (hin m (by omega)) _ (hin h (by omega))
            repeat (with_reducible first | refine c_seq ?_ | refine c_block ?_ | refine c_skip ?_ | refine x_then ?_ | refine x_block ?_)
            refine c_reg ?_
            refine l_pure rfl (s_move  h14 ?_)
            refine l_pure rfl (s_move  h15 ?_)
            refine l_pure rfl (s_add  rfl rfl (IntWalk.i64_in _ (by omega)) ?_)
            refine l_pure rfl (s_conv  rfl Tryd.underlying71 ⟨_, Tryd.underlying3⟩ (IntWalk.u64_in _ (by omega)) ?_)
            refine l_pure rfl (s_shr  rfl rfl (by decide) (shr_n _ 1 (by decide)) ?_)
            refine l_pure rfl (s_conv  rfl Tryd.underlying3 ⟨_, Tryd.underlying71⟩ (IntWalk.i64_in _ (by omega)) ?_)
            refine l_pure rfl (s_asg  rfl ?_)
            refine l_nil ?_
            repeat (with_reducible first | refine c_seq ?_ | refine c_block ?_ | refine c_skip ?_ | refine x_then ?_ | refine x_block ?_)
            refine c_draw [(0, .pure), (1, .pure), (2, .pure), (3, .pure), (4, .read), (5, .pure), (6, .pure), (7, .pure), (8, .read), (9, .grow), (10, .pure), (11, .pure)] (by kernel_rfl) (by kernel_rfl) hS ?_
            intro wz2 hS hBz2
            refine w_pure rfl rfl (s_move  h4 ?_)
            refine w_pure rfl rfl (s_move  h0 ?_)
            refine w_pure rfl rfl (s_move  h2' ?_)
            refine w_pure rfl rfl (s_ixo (i := m)  rfl rfl (by omega) (by first | omega | (simp; done) | (simp; omega)) si_40 ?_)
            refine w_read rfl rfl (s_ldS (k := 0) (i := m) (enc := enI) 0 (fun _ => rfl)  rfl vi_3 hS rfl (by first | omega | simp) (by first | omega | (simp; done) | (simp; omega)) rfl (.inr rfl) ?_)
            refine w_pure rfl rfl (s_move  h0 ?_)
            refine w_pure rfl rfl (s_move  rfl ?_)
            refine w_pure rfl rfl (s_ixo (i := h)  rfl rfl (by omega) (by first | omega | (simp; done) | (simp; omega)) si_40 ?_)
            refine w_read rfl rfl (s_ldS (k := 0) (i := h) (enc := enI) 0 (fun _ => rfl)  rfl vi_3 hS rfl (by first | omega | simp) (by first | omega | (simp; done) | (simp; omega)) rfl (.inr rfl) ?_)
            refine w_grow rfl rfl (s_callv hcall rfl rfl (hcmp _ (L.getD m 0) (L.getD h 0) _ hS (hin m (by omega)) (hin h (by omega))) ?_)
            rintro r w3 ⟨rfl, hB3⟩
            refine ⟨hB3, ?_⟩
            replace hS := hS.grow hB3
            refine w_pure rfl rfl (s_lss  rfl rfl ?_)
            refine w_pure rfl rfl (s_not  rfl ?_)
            refine w_end ?_
            repeat (with_reducible first | refine c_seq ?_ | refine c_block ?_ | refine c_skip ?_ | refine x_then ?_ | refine x_block ?_)
            refine c_yes rfl (by rw [decide_eq_false hf]; rfl) ?_
            repeat (with_reducible first | refine c_seq ?_ | refine c_block ?_ | refine c_skip ?_ | refine x_then ?_ | refine x_block ?_)
            refine c_reg ?_
            refine l_pure rfl (s_move  rfl ?_)
            refine l_pure rfl (s_add  rfl rfl (IntWalk.i64_in _ (by omega)) ?_)
            refine l_pure rfl (s_asg  rfl ?_)
            refine l_nil ?_
            repeat (with_reducible first | refine c_seq ?_ | refine c_block ?_ | refine c_skip ?_ | refine x_then ?_ | refine x_block ?_)
            exact ⟨h + 1, _, rfl, ⟨by omega, by omega, by assumption, by assumption, by assumption, vi rfl (by omega), by assumption, hS⟩, by omega⟩
          · refine c_no rfl (decide_eq_false (by omega)) ?_
            repeat (with_reducible first | refine c_seq ?_ | refine c_block ?_ | refine c_skip ?_ | refine x_then ?_ | refine x_block ?_)
            refine c_exit ?_
            repeat (with_reducible first | refine x_then_exit ?_ | refine x_block_exit ?_ | refine x_block_pass rfl ?_)
            repeat (with_reducible first | refine c_seq ?_ | refine c_block ?_ | refine c_skip ?_ | refine x_then ?_ | refine x_block ?_)
            exact ⟨_, rfl, h2', vi h14 (by omega), hS⟩
        clear hS
        rintro ρ w2 ⟨h2', h14, hS⟩
        repeat (with_reducible first | refine c_seq ?_ | refine c_block ?_ | refine c_skip ?_ | refine x_then ?_ | refine x_block ?_)
        refine c_reg ?_
        refine l_pure rfl (s_move  h2' ?_)
        refine l_pure rfl (s_asg  rfl ?_)
        refine l_nil ?_
        repeat (with_reducible first | refine c_seq ?_ | refine c_block ?_ | refine c_skip ?_ | refine x_then ?_ | refine x_block ?_)
        refine c_loop (σ := Unit) (fun _ ρ w' => ρ 14 = .int .i64 m ∧ ρ 17 = .int .i64 m ∧ St w0 w' ((b, t, L.flatMap enI ++ sp) :: H)) (fun _ => 0) () ⟨h14, rfl, hS⟩ ?_
        clear hS
        rintro _ ρ w3 ⟨h14, h17, hS⟩
        repeat (with_reducible first | refine c_seq ?_ | refine c_block ?_ | refine c_skip ?_ | refine x_then ?_ | refine x_block ?_)
        refine c_reg ?_
        refine l_pure rfl (s_move  h17 ?_)
        refine l_pure rfl (s_move  h14 ?_)
        refine l_pure rfl (s_gtr  rfl rfl ?_)
        refine l_nil ?_
        repeat (with_reducible first | refine c_seq ?_ | refine c_block ?_ | refine c_skip ?_ | refine x_then ?_ | refine x_block ?_)
        refine c_no rfl (decide_eq_false (by omega)) ?_
        repeat (with_reducible first | refine c_seq ?_ | refine c_block ?_ | refine c_skip ?_ | refine x_then ?_ | refine x_block ?_)
        refine c_exit ?_
        repeat (with_reducible first | refine x_then_exit ?_ | refine x_block_exit ?_ | refine x_block_pass rfl ?_)
        repeat (with_reducible first | refine c_seq ?_ | refine c_block ?_ | refine c_skip ?_ | refine x_then ?_ | refine x_block ?_)
        refine c_ret ?_
        repeat (with_reducible first | refine x_then_ret ?_ | refine x_block_ret ?_)
        exact r_noneR rfl ⟨rfl, hS⟩
      · refine c_no rfl (decide_eq_false (by omega)) ?_
        repeat (with_reducible first | refine c_seq ?_ | refine c_block ?_ | refine c_skip ?_ | refine x_then ?_ | refine x_block ?_)
        obtain ⟨mid, hmid⟩ : ∃ mid, mid = (a + e) / 2 := ⟨_, rfl⟩
        obtain ⟨r0, hr0⟩ : ∃ r, r = min mid m := ⟨_, rfl⟩
        repeat (with_reducible first | refine c_seq ?_ | refine c_block ?_ | refine c_skip ?_ | refine x_then ?_ | refine x_block ?_)
        refine c_reg ?_
        refine l_pure rfl (s_move  rfl ?_)
        refine l_pure rfl (s_move  rfl ?_)
        refine l_pure rfl (s_add  rfl rfl (IntWalk.i64_in _ (by omega)) ?_)
        refine l_pure rfl (s_conv  rfl Tryd.underlying71 ⟨_, Tryd.underlying3⟩ (IntWalk.u64_in _ (by omega)) ?_)
        refine l_pure rfl (s_shr  rfl rfl (by decide) (shr_n _ 1 (by decide)) ?_)
        refine l_pure rfl (s_conv  rfl Tryd.underlying3 ⟨_, Tryd.underlying71⟩ (IntWalk.i64_in _ (by omega)) ?_)
        refine l_pure rfl (s_asg  rfl ?_)
        refine l_nil ?_
        repeat (with_reducible first | refine c_seq ?_ | refine c_block ?_ | refine c_skip ?_ | refine x_then ?_ | refine x_block ?_)
        refine c_reg ?_
        refine l_pure rfl (s_move  rfl ?_)
        refine l_pure rfl (s_move  rfl ?_)
        refine l_pure rfl (s_add  rfl rfl (IntWalk.i64_in _ (by omega)) ?_)
        refine l_pure rfl (s_asg  rfl ?_)
        refine l_nil ?_
        repeat (with_reducible first | refine c_seq ?_ | refine c_block ?_ | refine c_skip ?_ | refine x_then ?_ | refine x_block ?_)
        refine c_reg ?_
        refine l_pure rfl (s_asg  rfl ?_)
        refine l_pure rfl (s_asg  rfl ?_)
        refine l_nil ?_
        repeat (with_reducible first | refine c_seq ?_ | refine c_block ?_ | refine c_skip ?_ | refine x_then ?_ | refine x_block ?_)
        refine c_reg ?_
        refine l_pure rfl (s_move  rfl ?_)
        refine l_pure rfl (s_move  rfl ?_)
        refine l_pure rfl (s_gtr  rfl rfl ?_)
        refine l_nil ?_
        repeat (with_reducible first | refine c_seq ?_ | refine c_skip ?_ | refine x_then ?_ | refine x_block ?_)
        refine c_cut1 (fun ρ w' => ρ 0 = .slice (some ⟨b, 0, none⟩) n cp ∧ ρ 1 = .int .i64 a ∧ ρ 2 = .int .i64 m ∧ ρ 3 = .int .i64 e ∧ ρ 4 = .func (.func f) #[] cap.toArray ∧ ρ 18 = .int .i64 mid ∧ ρ 19 = .int .i64 (mid + m : Nat) ∧ ρ 21 = .int .i64 r0 ∧ ∃ s0 : Nat, ρ 20 = .int .i64 s0 ∧ s0 ≤ r0 ∧ mid + m ≤ s0 + e ∧ St w0 w' ((b, t, L.flatMap enI ++ sp) :: H)) ?_ ?_
        · repeat (with_reducible first | refine c_seq ?_ | refine c_block ?_ | refine c_skip ?_ | refine x_then ?_ | refine x_block ?_)
          by_cases h3 : mid < m
          · refine c_yes rfl (decide_eq_true (by omega)) ?_
            repeat (with_reducible first | refine c_seq ?_ | refine c_block ?_ | refine c_skip ?_ | refine x_then ?_ | refine x_block ?_)
            refine c_reg ?_
            refine l_pure rfl (s_move  rfl ?_)
            refine l_pure rfl (s_move  rfl ?_)
            refine l_pure rfl (s_sub  rfl rfl (IntWalk.i64_in _ (by omega)) ?_)
            refine l_pure rfl (s_asg  rfl ?_)
            refine l_nil ?_
            repeat (with_reducible first | refine c_seq ?_ | refine c_block ?_ | refine c_skip ?_ | refine x_then ?_ | refine x_block ?_)
            refine c_reg ?_
            refine l_pure rfl (s_move  rfl ?_)
            refine l_pure rfl (s_asg  rfl ?_)
            refine l_nil ?_
            repeat (with_reducible first | refine c_seq ?_ | refine c_block ?_ | refine c_skip ?_ | refine x_then ?_ | refine x_block ?_)
            exact ⟨_, rfl, rfl, rfl, rfl, rfl, rfl, vi rfl (by omega), vi rfl (by omega), vi rfl (by omega), mid + m - e, vi rfl (by omega), by omega, by omega, hS⟩
          · refine c_no rfl (decide_eq_false (by omega)) ?_
            repeat (with_reducible first | refine c_seq ?_ | refine c_block ?_ | refine c_skip ?_ | refine x_then ?_ | refine x_block ?_)
            refine c_reg ?_
            refine l_pure rfl (s_move  rfl ?_)
            refine l_pure rfl (s_asg  rfl ?_)
            refine l_nil ?_
            repeat (with_reducible first | refine c_seq ?_ | refine c_block ?_ | refine c_skip ?_ | refine x_then ?_ | refine x_block ?_)
            refine c_reg ?_
            refine l_pure rfl (s_move  rfl ?_)
            refine l_pure rfl (s_asg  rfl ?_)
            refine l_nil ?_
            repeat (with_reducible first | refine c_seq ?_ | refine c_block ?_ | refine c_skip ?_ | refine x_then ?_ | refine x_block ?_)
            exact ⟨_, rfl, rfl, rfl, rfl, rfl, rfl, vi rfl (by omega), vi rfl (by omega), vi rfl (by omega), a, vi rfl (by omega), by omega, by omega, hS⟩
        clear hS
        rintro ρ w2 ⟨h0, h1', h2', h3', h4, h18, h19, h21, s0, h20, hs1, hs2, hS⟩
        repeat (with_reducible first | refine c_seq ?_ | refine c_block ?_ | refine c_skip ?_ | refine x_then ?_ | refine x_block ?_)
        refine c_reg ?_
        refine l_pure rfl (s_move  h19 ?_)
        refine l_pure rfl (s_sub  rfl rfl (IntWalk.i64_in _ (by omega)) ?_)
        refine l_pure rfl (s_asg  rfl ?_)
        refine l_nil ?_
        repeat (with_reducible first | refine c_seq ?_ | refine c_skip ?_ | refine x_then ?_ | refine x_block ?_)
        refine c_cut1 (fun ρ w' => ρ 0 = .slice (some ⟨b, 0, none⟩) n cp ∧ ρ 1 = .int .i64 a ∧ ρ 2 = .int .i64 m ∧ ρ 3 = .int .i64 e ∧ ρ 4 = .func (.func f) #[] cap.toArray ∧ ρ 18 = .int .i64 mid ∧ ρ 19 = .int .i64 (mid + m : Nat) ∧ ρ 20 = .int .i64 r0 ∧ St w0 w' ((b, t, L.flatMap enI ++ sp) :: H)) ?_ ?_
        · repeat (with_reducible first | refine c_seq ?_ | refine c_block ?_ | refine c_skip ?_ | refine x_then ?_ | refine x_block ?_)
          refine c_loop (σ := Nat) (fun i ρ w' => s0 ≤ i ∧ i ≤ r0 ∧ ρ 0 = .slice (some ⟨b, 0, none⟩) n cp ∧ ρ 1 = .int .i64 a ∧ ρ 2 = .int .i64 m ∧ ρ 3 = .int .i64 e ∧ ρ 4 = .func (.func f) #[] cap.toArray ∧ ρ 18 = .int .i64 mid ∧ ρ 19 = .int .i64 (mid + m : Nat) ∧ ρ 20 = .int .i64 i ∧ ρ 21 = .int .i64 r0 ∧ ρ 22 = .int .i64 (mid + m - 1 : Nat) ∧ St w0 w' ((b, t, L.flatMap enI ++ sp) :: H)) (fun i => r0 - i) s0
            ⟨Nat.le_refl _, hs1, by assumption, by assumption, by assumption, by assumption, by assumption, by assumption, by assumption, by assumption, by assumption, vi rfl (by omega), hS⟩ ?_
          clear hS h0 h1' h2' h3' h4 h18 h19 h20 h21
          rintro i ρ w3 ⟨hi1, hi2, h0, h1', h2', h3', h4, h18, h19, h20, h21, h22, hS⟩
          repeat (with_reducible first | refine c_seq ?_ | refine c_block ?_ | refine c_skip ?_ | refine x_then ?_ | refine x_block ?_)
          refine c_reg ?_
          refine l_pure rfl (s_move  h20 ?_)
          refine l_pure rfl (s_move  h21 ?_)
          refine l_pure rfl (s_lss  rfl rfl ?_)
          refine l_nil ?_
          repeat (with_reducible first | refine c_seq ?_ | refine c_block ?_ | refine c_skip ?_ | refine x_then ?_ | refine x_block ?_)
          by_cases hlt : i < r0
          · refine c_yes rfl (decide_eq_true (by omega)) ?_
            repeat (with_reducible first | refine c_seq ?_ | refine c_block ?_ | refine c_skip ?_ | refine x_then ?_ | refine x_block ?_)
            obtain ⟨h, hh⟩ : ∃ h, h = (i + r0) / 2 := ⟨_, rfl⟩
            obtain ⟨q, hq⟩ : ∃ q, q = mid + m - 1 - h := ⟨_, rfl⟩
            have hf := hz _ (hin q (by omega)) _ (hin h (by omega))
            repeat (with_reducible first | refine c_seq ?_ | refine c_block ?_ | refine c_skip ?_ | refine x_then ?_ | refine x_block ?_)
            refine c_reg ?_
            refine l_pure rfl (s_move  h20 ?_)
            refine l_pure rfl (s_move  h21 ?_)
            refine l_pure rfl (s_add  rfl rfl (IntWalk.i64_in _ (by omega)) ?_)
            refine l_pure rfl (s_conv  rfl Tryd.underlying71 ⟨_, Tryd.underlying3⟩ (IntWalk.u64_in _ (by omega)) ?_)
            refine l_pure rfl (s_shr  rfl rfl (by decide) (shr_n _ 1 (by decide)) ?_)
            refine l_pure rfl (s_conv  rfl Tryd.underlying3 ⟨_, Tryd.underlying71⟩ (IntWalk.i64_in _ (by omega)) ?_)
            refine l_pure rfl (s_asg  rfl ?_)
            refine l_nil ?_
            repeat (with_reducible first | refine c_seq ?_ | refine c_block ?_ | refine c_skip ?_ | refine x_then ?_ | refine x_block ?_)
            refine c_draw [(0, .pure), (1, .pure), (2, .pure), (3, .pure), (4, .pure), (5, .pure), (6, .read), (7, .pure), (8, .pure), (9, .pure), (10, .read), (11, .grow), (12, .pure), (13, .pure)] (by kernel_rfl) (by kernel_rfl) hS ?_
            intro wz3 hS hBz3
            refine w_pure rfl rfl (s_move  h4 ?_)
            refine w_pure rfl rfl (s_move  h0 ?_)
            refine w_pure rfl rfl (s_move  h22 ?_)
            refine w_pure rfl rfl (s_move  rfl ?_)
            refine w_pure rfl rfl (s_sub  rfl rfl (IntWalk.i64_in _ (by omega)) ?_)
            refine w_pure rfl rfl (s_ixo (i := q)  rfl rfl (by omega) (by first | omega | (simp; done) | (simp; omega)) si_40 ?_)
            refine w_read rfl rfl (s_ldS (k := 0) (i := q) (enc := enI) 0 (fun _ => rfl)  rfl vi_3 hS rfl (by first | omega | simp) (by first | omega | (simp; done) | (simp; omega)) rfl (.inr rfl) ?_)
            refine w_pure rfl rfl (s_move  h0 ?_)
            refine w_pure rfl rfl (s_move  rfl ?_)
            refine w_pure rfl rfl (s_ixo (i := h)  rfl rfl (by omega) (by first | omega | (simp; done) | (simp; omega)) si_40 ?_)
            refine w_read rfl rfl (s_ldS (k := 0) (i := h) (enc := enI) 0 (fun _ => rfl)  rfl vi_3 hS rfl (by first | omega | simp) (by first | omega | (simp; done) | (simp; omega)) rfl (.inr rfl) ?_)
            refine w_grow rfl rfl (s_callv hcall rfl rfl (hcmp _ (L.getD q 0) (L.getD h 0) _ hS (hin q (by omega)) (hin h (by omega))) ?_)
            rintro r w4 ⟨rfl, hB4⟩
            refine ⟨hB4, ?_⟩
            replace hS := hS.grow hB4
            refine w_pure rfl rfl (s_lss  rfl rfl ?_)
            refine w_pure rfl rfl (s_not  rfl ?_)
            refine w_end ?_
            repeat (with_reducible first | refine c_seq ?_ | refine c_block ?_ | refine c_skip ?_ | refine x_then ?_ | refine x_block ?_)
            refine c_yes rfl (by rw [decide_eq_false hf]; rfl) ?_
            repeat (with_reducible first | refine c_seq ?_ | refine c_block ?_ | refine c_skip ?_ | refine x_then ?_ | refine x_block ?_)
            refine c_reg ?_
            refine l_pure rfl (s_move  rfl ?_)
            refine l_pure rfl (s_add  rfl rfl (IntWalk.i64_in _ (by omega)) ?_)
            refine l_pure rfl (s_asg  rfl ?_)
            refine l_nil ?_
            repeat (with_reducible first | refine c_seq ?_ | refine c_block ?_ | refine c_skip ?_ | refine x_then ?_ | refine x_block ?_)
            exact ⟨h + 1, _, rfl, ⟨by omega, by omega, by assumption, by assumption, by assumption, by assumption, by assumption, by assumption, by assumption, vi rfl (by omega), by assumption, by assumption, hS⟩, by omega⟩
          · refine c_no rfl (decide_eq_false (by omega)) ?_
            repeat (with_reducible first | refine c_seq ?_ | refine c_block ?_ | refine c_skip ?_ | refine x_then ?_ | refine x_block ?_)
            refine c_exit ?_
            repeat (with_reducible first | refine x_then_exit ?_ | refine x_block_exit ?_ | refine x_block_pass rfl ?_)
            repeat (with_reducible first | refine c_seq ?_ | refine c_block ?_ | refine c_skip ?_ | refine x_then ?_ | refine x_block ?_)
            exact ⟨_, rfl, h0, h1', h2', h3', h4, h18, h19, vi h20 (by omega), hS⟩
        clear hS h0 h1' h2' h3' h4 h18 h19 h20 h21
        rintro ρ w3 ⟨h0, h1', h2', h3', h4, h18, h19, h20, hS⟩
        repeat (with_reducible first | refine c_seq ?_ | refine c_block ?_ | refine c_skip ?_ | refine x_then ?_ | refine x_block ?_)
        have k1 : e - mid ≤ d := by clear hr0; omega
        have k2 : mid - a ≤ d := by clear hr0; omega
        by_cases h3 : mid < m
        · obtain rfl : r0 = mid := by omega
          repeat (with_reducible first | refine c_seq ?_ | refine c_block ?_ | refine c_skip ?_ | refine x_then ?_ | refine x_block ?_)
          refine c_reg ?_
          refine l_pure rfl (s_move  h19 ?_)
          refine l_pure rfl (s_move  h20 ?_)
          refine l_pure rfl (s_sub  rfl rfl (r := (m : Int)) (by exact wr_i64 _ ⟨by omega, by omega, by omega⟩) ?_)
          refine l_pure rfl (s_asg  rfl ?_)
          refine l_nil ?_
          repeat (with_reducible first | refine c_seq ?_ | refine c_block ?_ | refine c_skip ?_ | refine x_then ?_ | refine x_block ?_)
          refine c_reg ?_
          refine l_pure rfl (s_move  h20 ?_)
          refine l_pure rfl (s_move  h2' ?_)
          refine l_pure rfl (s_lss  rfl rfl ?_)
          refine l_pure rfl (s_move  rfl ?_)
          refine l_pure (gd_yes 181 (by kernel_rfl) rfl (decide_eq_true (by omega))) (s_move  h2' ?_)
          refine l_pure (gd_yes 181 (by kernel_rfl) rfl (decide_eq_true (by omega))) (s_move  rfl ?_)
          refine l_pure (gd_yes 181 (by kernel_rfl) rfl (decide_eq_true (by omega))) (s_lss  rfl rfl ?_)
          refine l_pure rfl (s_pick (vb rfl (decide_eq_true (by omega))) rfl ?_)
          refine l_nil ?_
          repeat (with_reducible first | refine c_seq ?_ | refine c_block ?_ | refine c_skip ?_ | refine x_then ?_ | refine x_block ?_)
          refine c_no rfl (decide_eq_false (by omega)) ?_
          repeat (with_reducible first | refine c_seq ?_ | refine c_block ?_ | refine c_skip ?_ | refine x_then ?_ | refine x_block ?_)
          refine c_reg ?_
          refine l_pure rfl (s_move  h1' ?_)
          refine l_pure rfl (s_move  h20 ?_)
          refine l_pure rfl (s_lss  rfl rfl ?_)
          refine l_pure rfl (s_move  rfl ?_)
          refine l_pure (gd_yes 195 (by kernel_rfl) rfl (decide_eq_true (by omega))) (s_move  h20 ?_)
          refine l_pure (gd_yes 195 (by kernel_rfl) rfl (decide_eq_true (by omega))) (s_move  h18 ?_)
          refine l_pure (gd_yes 195 (by kernel_rfl) rfl (decide_eq_true (by omega))) (s_lss  rfl rfl ?_)
          refine l_pure rfl (s_pick (vb rfl (decide_eq_true (by omega))) rfl ?_)
          refine l_nil ?_
          repeat (with_reducible first | refine c_seq ?_ | refine c_block ?_ | refine c_skip ?_ | refine x_then ?_ | refine x_block ?_)
          refine c_no rfl (decide_eq_false (by omega)) ?_
          repeat (with_reducible first | refine c_seq ?_ | refine c_block ?_ | refine c_skip ?_ | refine x_then ?_ | refine x_block ?_)
          refine c_reg ?_
          refine l_pure rfl (s_move  h18 ?_)
          refine l_pure rfl (s_move  rfl ?_)
          refine l_pure rfl (s_lss  rfl rfl ?_)
          refine l_pure rfl (s_move  rfl ?_)
          refine l_pure (gd_yes 209 (by kernel_rfl) rfl (decide_eq_true (by omega))) (s_move  rfl ?_)
          refine l_pure (gd_yes 209 (by kernel_rfl) rfl (decide_eq_true (by omega))) (s_move  h3' ?_)
          refine l_pure (gd_yes 209 (by kernel_rfl) rfl (decide_eq_true (by omega))) (s_lss  rfl rfl ?_)
          refine l_pure rfl (s_pick (vb rfl (decide_eq_true (by omega))) rfl ?_)
          refine l_nil ?_
          repeat (with_reducible first | refine c_seq ?_ | refine c_block ?_ | refine c_skip ?_ | refine x_then ?_ | refine x_block ?_)
          refine c_yes rfl (decide_eq_true (by omega)) ?_
          repeat (with_reducible first | refine c_seq ?_ | refine c_block ?_ | refine c_skip ?_ | refine x_then ?_ | refine x_block ?_)
          refine c_reg ?_
          refine l_pure rfl (s_move  h0 ?_)
          refine l_pure rfl (s_move  h18 ?_)
          refine l_pure rfl (s_move  rfl ?_)
          refine l_pure rfl (s_move  h3' ?_)
          refine l_pure rfl (s_move  h4 ?_)
          have hrec := ih r0 m e k1 h3 hme hen w3 hS
          refine l_heavy rfl (s_call Tryd.call48 rfl (hrec) ?_)
          rintro r w5 ⟨rfl, hS5⟩
          refine l_nil ?_
          repeat (with_reducible first | refine c_seq ?_ | refine c_block ?_ | refine c_skip ?_ | refine x_then ?_ | refine x_block ?_)
          exact r_none rfl ⟨rfl, hS5⟩
        · obtain rfl : r0 = m := by omega
          repeat (with_reducible first | refine c_seq ?_ | refine c_block ?_ | refine c_skip ?_ | refine x_then ?_ | refine x_block ?_)
          refine c_reg ?_
          refine l_pure rfl (s_move  h19 ?_)
          refine l_pure rfl (s_move  h20 ?_)
          refine l_pure rfl (s_sub  rfl rfl (r := (mid : Int)) (by exact wr_i64 _ ⟨by omega, by omega, by omega⟩) ?_)
          refine l_pure rfl (s_asg  rfl ?_)
          refine l_nil ?_
          repeat (with_reducible first | refine c_seq ?_ | refine c_block ?_ | refine c_skip ?_ | refine x_then ?_ | refine x_block ?_)
          refine c_reg ?_
          refine l_pure rfl (s_move  h20 ?_)
          refine l_pure rfl (s_move  h2' ?_)
          refine l_pure rfl (s_lss  rfl rfl ?_)
          refine l_pure rfl (s_move  rfl ?_)
          refine l_no (gno_yes 181 (by kernel_rfl) rfl (decide_eq_false (by omega))) ?_
          refine l_no (gno_yes 181 (by kernel_rfl) rfl (decide_eq_false (by omega))) ?_
          refine l_no (gno_yes 181 (by kernel_rfl) rfl (decide_eq_false (by omega))) ?_
          refine l_pure rfl (s_pick (vb rfl (decide_eq_false (by omega))) rfl ?_)
          refine l_nil ?_
          repeat (with_reducible first | refine c_seq ?_ | refine c_block ?_ | refine c_skip ?_ | refine x_then ?_ | refine x_block ?_)
          refine c_no rfl (rfl) ?_
          repeat (with_reducible first | refine c_seq ?_ | refine c_block ?_ | refine c_skip ?_ | refine x_then ?_ | refine x_block ?_)
          refine c_reg ?_
          refine l_pure rfl (s_move  h1' ?_)
          refine l_pure rfl (s_move  h20 ?_)
          refine l_pure rfl (s_lss  rfl rfl ?_)
          refine l_pure rfl (s_move  rfl ?_)
          refine l_pure (gd_yes 195 (by kernel_rfl) rfl (decide_eq_true (by omega))) (s_move  h20 ?_)
          refine l_pure (gd_yes 195 (by kernel_rfl) rfl (decide_eq_true (by omega))) (s_move  h18 ?_)
          refine l_pure (gd_yes 195 (by kernel_rfl) rfl (decide_eq_true (by omega))) (s_lss  rfl rfl ?_)
          refine l_pure rfl (s_pick (vb rfl (decide_eq_true (by omega))) rfl ?_)
          refine l_nil ?_
          repeat (with_reducible first | refine c_seq ?_ | refine c_block ?_ | refine c_skip ?_ | refine x_then ?_ | refine x_block ?_)
          by_cases h4' : r0 < mid
          · refine c_yes rfl (decide_eq_true (by omega)) ?_
            repeat (with_reducible first | refine c_seq ?_ | refine c_block ?_ | refine c_skip ?_ | refine x_then ?_ | refine x_block ?_)
            refine c_reg ?_
            refine l_pure rfl (s_move  h0 ?_)
            refine l_pure rfl (s_move  h1' ?_)
            refine l_pure rfl (s_move  h20 ?_)
            refine l_pure rfl (s_move  h18 ?_)
            refine l_pure rfl (s_move  h4 ?_)
            have hrec := ih a r0 mid k2 ham h4' (by omega) w3 hS
            refine l_heavy rfl (s_call Tryd.call48 rfl (hrec) ?_)
            rintro r w5 ⟨rfl, hS5⟩
            refine l_nil ?_
            repeat (with_reducible first | refine c_seq ?_ | refine c_block ?_ | refine c_skip ?_ | refine x_then ?_ | refine x_block ?_)
            refine c_reg ?_
            refine l_pure rfl (s_move  h18 ?_)
            refine l_pure rfl (s_move  rfl ?_)
            refine l_pure rfl (s_lss  rfl rfl ?_)
            refine l_pure rfl (s_move  rfl ?_)
            refine l_no (gno_yes 209 (by kernel_rfl) rfl (decide_eq_false (by omega))) ?_
            refine l_no (gno_yes 209 (by kernel_rfl) rfl (decide_eq_false (by omega))) ?_
            refine l_no (gno_yes 209 (by kernel_rfl) rfl (decide_eq_false (by omega))) ?_
            refine l_pure rfl (s_pick (vb rfl (decide_eq_false (by omega))) rfl ?_)
            refine l_nil ?_
            repeat (with_reducible first | refine c_seq ?_ | refine c_block ?_ | refine c_skip ?_ | refine x_then ?_ | refine x_block ?_)
            refine c_no rfl (rfl) ?_
            repeat (with_reducible first | refine c_seq ?_ | refine c_block ?_ | refine c_skip ?_ | refine x_then ?_ | refine x_block ?_)
            exact r_none rfl ⟨rfl, hS5⟩
          · refine c_no rfl (decide_eq_false (by omega)) ?_
            repeat (with_reducible first | refine c_seq ?_ | refine c_block ?_ | refine c_skip ?_ | refine x_then ?_ | refine x_block ?_)
            refine c_reg ?_
            refine l_pure rfl (s_move  h18 ?_)
            refine l_pure rfl (s_move  rfl ?_)
            refine l_pure rfl (s_lss  rfl rfl ?_)
            refine l_pure rfl (s_move  rfl ?_)
            refine l_no (gno_yes 209 (by kernel_rfl) rfl (decide_eq_false (by omega))) ?_
            refine l_no (gno_yes 209 (by kernel_rfl) rfl (decide_eq_false (by omega))) ?_
            refine l_no (gno_yes 209 (by kernel_rfl) rfl (decide_eq_false (by omega))) ?_
            refine l_pure rfl (s_pick (vb rfl (decide_eq_false (by omega))) rfl ?_)
            refine l_nil ?_
            repeat (with_reducible first | refine c_seq ?_ | refine c_block ?_ | refine c_skip ?_ | refine x_then ?_ | refine x_block ?_)
            refine c_no rfl (rfl) ?_
            repeat (with_reducible first | refine c_seq ?_ | refine c_block ?_ | refine c_skip ?_ | refine x_then ?_ | refine x_block ?_)
            exact r_none rfl ⟨rfl, hS⟩
end Go.Proofs.YtblfipdfklpmmabDoor
