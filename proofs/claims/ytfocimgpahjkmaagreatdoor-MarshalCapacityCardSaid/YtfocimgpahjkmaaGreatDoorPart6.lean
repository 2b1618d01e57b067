/-
  Part 6 of the texts that the laws' proofs share: the framework and the walks.
-/
import Derived.Test.YtfocimgpahjkmaaGreatDoorPart5
namespace Go.Proofs.YtfocimgpahjkmaaGreatDoor
open Go Go.RowKit Go.Sx

theorem tl_iff (a b : ByteArray) : a.toList = b.toList ↔ a = b := by
  have := tl_eq a b
  rw [Bool.eq_iff_iff] at this
  simpa using this
theorem equalIn_Rat (d : Nat) (r s : RR) (w : World) : (Op.equalIn (d + 2) 39 (aggR r) (aggR s)).run Tryz.prog w = .ok (decide (r = s)) w := by
  unfold aggR
  rw [run_equalIn_agg (P := Tryz.prog) w (d + 1) 39 _ _ (by kernel_rfl) (by kernel_rfl)]
  have hb : Tryz.prog.underlying 4 = some .bool := by kernel_rfl
  have hs : Tryz.prog.underlying 9 = some .string := by kernel_rfl
  simp only [Program.fieldsOf, Tryz.underlying39]
  simp [Op.eqFields, part, run_equalIn_bool' (P := Tryz.prog) w _ _ _ _ hb, run_equalIn_string (P := Tryz.prog) w _ _ _ _ hs, tl_iff]
  cases r; cases s
  rename_i a b c a' b' c'
  simp only [RR.mk.injEq]
  by_cases h1 : a = a' <;> by_cases h2 : b = b' <;> by_cases h3 : c = c' <;> simp [h1, h2, h3]
section
variable {N : Nat} {ρ : Nat → Value} {d : Option Tmp} {ty : TypeId} {pos : String} {aft : Array Edge} {g : Option (Nat × Bool)} {x y : Operand} {t' : TypeId} {K : Value → Prop}
theorem s_eqR {r s : RR} (hx : ev N ρ x = aggR r) (hy : ev N ρ y = aggR s) (h : K (.bool (decide (r = s)))) : Pure1 Tryz.prog N ρ ⟨d, .binOp .eql 39 x y t', ty, pos, aft, g⟩ K := by
  refine ⟨_, fun w => ?_, h⟩
  have h1 : (eqGuard .eql 39 x y (aggR r) (aggR s)).run Tryz.prog w = .ok () w := run_eqGuard_agg (P := Tryz.prog) w .eql 39 x y _ _ (by kernel_rfl)
  have h2 : (binOp .eql 39 (aggR r) (aggR s)).run Tryz.prog w = .ok (.bool (decide (r = s))) w := by
    have := run_eql_struct (P := Tryz.prog) w 39 #[.bool r.neg, .string r.num, .string r.den] #[.bool s.neg, .string s.num, .string s.den]
    have h3 := equalIn_Rat 9998 r s w
    unfold aggR at *
    rw [this, h3]; rfl
  simp only [execOp, hx, hy, Sem.run_bind, h1, h2, Result.andThen_ok]
  rfl
theorem s_neR {r s : RR} (hx : ev N ρ x = aggR r) (hy : ev N ρ y = aggR s) (h : K (.bool (decide (r ≠ s)))) : Pure1 Tryz.prog N ρ ⟨d, .binOp .neq 39 x y t', ty, pos, aft, g⟩ K := by
  refine ⟨_, fun w => ?_, h⟩
  have h1 : (eqGuard .neq 39 x y (aggR r) (aggR s)).run Tryz.prog w = .ok () w := run_eqGuard_agg (P := Tryz.prog) w .neq 39 x y _ _ (by kernel_rfl)
  have h2 : (binOp .neq 39 (aggR r) (aggR s)).run Tryz.prog w = .ok (.bool (decide (r ≠ s))) w := by
    have := run_neq_struct (P := Tryz.prog) w 39 #[.bool r.neg, .string r.num, .string r.den] #[.bool s.neg, .string s.num, .string s.den]
    have h3 := equalIn_Rat 9998 r s w
    unfold aggR at *
    rw [this, h3]
    simp [Result.andThen]
  simp only [execOp, hx, hy, Sem.run_bind, h1, h2, Result.andThen_ok]
  rfl
end

theorem SameRats_ok (va vb : Value) (A B : List RR) (w : World) (ha : Sl encR 3 w va A) (hb : Sl encR 3 w vb B) :
    Ret Tryz.prog 14 #[va, vb] w fun v w' => v = .bool (decide (A = B)) ∧ Below w.heap.size w w' := by
  have hS := St.init w
  have hla := ha.maxLen
  have hlb := hb.maxLen
  refine enter Tryz.func14 rfl Tryz.ntmps14 rfl ?_
  repeat (with_reducible first | refine c_seq ?_ | refine c_block ?_ | refine c_skip ?_ | refine x_then ?_ | refine x_block ?_)
  refine c_reg ?_
  refine l_pure rfl (s_asg  rfl ?_)
  refine l_nil ?_
  repeat (with_reducible first | refine c_seq ?_ | refine c_block ?_ | refine c_skip ?_ | refine x_then ?_ | refine x_block ?_)
  refine c_reg ?_
  refine l_pure rfl (s_move  rfl ?_)
  refine l_pure rfl (s_lenr  rfl (ha.below hS.below) ⟨_, Tryz.underlying24⟩ ?_)
  refine l_pure rfl (s_move  rfl ?_)
  refine l_pure rfl (s_lenr  rfl (hb.below hS.below) ⟨_, Tryz.underlying24⟩ ?_)
  refine l_pure rfl (s_neq  rfl rfl ?_)
  refine l_nil ?_
  repeat (with_reducible first | refine c_seq ?_ | refine c_block ?_ | refine c_skip ?_ | refine x_then ?_ | refine x_block ?_)
  by_cases hl : A.length = B.length
  · refine c_no rfl (decide_eq_false (by omega)) ?_
    repeat (with_reducible first | refine c_seq ?_ | refine c_block ?_ | refine c_skip ?_ | refine x_then ?_ | refine x_block ?_)
    refine c_reg ?_
    refine l_pure rfl (s_asg  rfl ?_)
    refine l_nil ?_
    repeat (with_reducible first | refine c_seq ?_ | refine c_block ?_ | refine c_skip ?_ | refine x_then ?_ | refine x_block ?_)
    refine c_loop (σ := Nat) (fun i ρ w' => i ≤ A.length ∧ A.take i = B.take i ∧ ρ 0 = va ∧ ρ 1 = vb ∧ ρ 5 = .int .i64 i ∧ St w w' []) (fun i => A.length - i) 0
      ⟨Nat.zero_le _, rfl, rfl, rfl, rfl, hS⟩ ?_
    clear hS
    rintro i ρ w2 ⟨hi, hq, h0, h1, h5, hS⟩
    repeat (with_reducible first | refine c_seq ?_ | refine c_block ?_ | refine c_skip ?_ | refine x_then ?_ | refine x_block ?_)
    refine c_reg ?_
    refine l_pure rfl (s_move  h5 ?_)
    refine l_pure rfl (s_move  h0 ?_)
    refine l_pure rfl (s_lenr  rfl (ha.below hS.below) ⟨_, Tryz.underlying24⟩ ?_)
    refine l_pure rfl (s_lss  rfl rfl ?_)
    refine l_nil ?_
    repeat (with_reducible first | refine c_seq ?_ | refine c_block ?_ | refine c_skip ?_ | refine x_then ?_ | refine x_block ?_)
    by_cases hlt : i < A.length
    · refine c_yes rfl (decide_eq_true (by omega)) ?_
      repeat (with_reducible first | refine c_seq ?_ | refine c_block ?_ | refine c_skip ?_ | refine x_then ?_ | refine x_block ?_)
      have hltb : i < B.length := by omega
      repeat (with_reducible first | refine c_seq ?_ | refine c_block ?_ | refine c_skip ?_ | refine x_then ?_ | refine x_block ?_)
      refine c_draw [(0, .pure), (1, .pure), (2, .pure), (3, .read), (4, .pure), (5, .pure), (6, .pure), (7, .read), (8, .pure)] (by kernel_rfl) (by kernel_rfl) hS ?_
      intro wz1 hS hBz1
      refine w_pure rfl rfl (s_move  h0 ?_)
      refine w_pure rfl rfl (s_move  h5 ?_)
      refine w_pure rfl rfl (s_ixr (i := i)  rfl rfl (ha.below hS.below) (by omega) (by first | omega | (simp; done) | (simp; omega)) si_24 ?_)
      refine w_read rfl rfl (s_lde (i := i) zRR  rfl vi_39 (ha.below hS.below) (by first | omega | (simp; done) | (simp; omega)) rfl rfl (.inl rfl) ?_)
      refine w_pure rfl rfl (s_move  h1 ?_)
      refine w_pure rfl rfl (s_move  h5 ?_)
      refine w_pure rfl rfl (s_ixr (i := i)  rfl rfl (hb.below hS.below) (by omega) (by first | omega | (simp; done) | (simp; omega)) si_24 ?_)
      refine w_read rfl rfl (s_lde (i := i) zRR  rfl vi_39 (hb.below hS.below) (by first | omega | (simp; done) | (simp; omega)) rfl rfl (.inl rfl) ?_)
      refine w_pure rfl rfl (s_neR  rfl rfl ?_)
      refine w_end ?_
      repeat (with_reducible first | refine c_seq ?_ | refine c_block ?_ | refine c_skip ?_ | refine x_then ?_ | refine x_block ?_)
      have ta := take_succ' A i zRR hlt
      have tb := take_succ' B i zRR hltb
      by_cases he : A.getD i zRR = B.getD i zRR
      · refine c_no rfl (decide_eq_false (not_not_intro he)) ?_
        repeat (with_reducible first | refine c_seq ?_ | refine c_block ?_ | refine c_skip ?_ | refine x_then ?_ | refine x_block ?_)
        refine c_reg ?_
        refine l_pure rfl (s_move  h5 ?_)
        refine l_pure rfl (s_add  rfl rfl (IntWalk.i64_in _ (by omega)) ?_)
        refine l_pure rfl (s_asg  rfl ?_)
        refine l_nil ?_
        repeat (with_reducible first | refine c_seq ?_ | refine c_block ?_ | refine c_skip ?_ | refine x_then ?_ | refine x_block ?_)
        exact ⟨i + 1, _, rfl, ⟨hlt, by rw [ta, tb, hq, he], h0, h1, vi rfl (by omega), hS⟩, by omega⟩
      · refine c_yes rfl (decide_eq_true he) ?_
        repeat (with_reducible first | refine c_seq ?_ | refine c_block ?_ | refine c_skip ?_ | refine x_then ?_ | refine x_block ?_)
        refine c_reg ?_
        refine l_pure rfl (s_asg  rfl ?_)
        refine l_nil ?_
        repeat (with_reducible first | refine c_seq ?_ | refine c_block ?_ | refine c_skip ?_ | refine x_then ?_ | refine x_block ?_)
        refine c_ret ?_
        repeat (with_reducible first | refine x_then_ret ?_ | refine x_block_ret ?_)
        refine r_one rfl rfl ?_
        refine ⟨congrArg Value.bool ?_, hS.below⟩
        symm; rw [decide_eq_false_iff_not]
        intro h
        rw [h] at he
        exact he rfl
    · refine c_no rfl (decide_eq_false (by omega)) ?_
      repeat (with_reducible first | refine c_seq ?_ | refine c_block ?_ | refine c_skip ?_ | refine x_then ?_ | refine x_block ?_)
      refine c_exit ?_
      repeat (with_reducible first | refine x_then_exit ?_ | refine x_block_exit ?_ | refine x_block_pass rfl ?_)
      repeat (with_reducible first | refine c_seq ?_ | refine c_block ?_ | refine c_skip ?_ | refine x_then ?_ | refine x_block ?_)
      obtain rfl : i = A.length := by omega
      rw [List.take_length, hl, List.take_length] at hq
      repeat (with_reducible first | refine c_seq ?_ | refine c_block ?_ | refine c_skip ?_ | refine x_then ?_ | refine x_block ?_)
      refine c_reg ?_
      refine l_pure rfl (s_asg  rfl ?_)
      refine l_nil ?_
      repeat (with_reducible first | refine c_seq ?_ | refine c_block ?_ | refine c_skip ?_ | refine x_then ?_ | refine x_block ?_)
      refine c_ret ?_
      repeat (with_reducible first | refine x_then_ret ?_ | refine x_block_ret ?_)
      refine r_one rfl rfl ?_
      exact ⟨congrArg Value.bool (decide_eq_true hq).symm, hS.below⟩
  · refine c_yes rfl (decide_eq_true (by omega)) ?_
    repeat (with_reducible first | refine c_seq ?_ | refine c_block ?_ | refine c_skip ?_ | refine x_then ?_ | refine x_block ?_)
    refine c_reg ?_
    refine l_pure rfl (s_asg  rfl ?_)
    refine l_nil ?_
    repeat (with_reducible first | refine c_seq ?_ | refine c_block ?_ | refine c_skip ?_ | refine x_then ?_ | refine x_block ?_)
    refine c_ret ?_
    repeat (with_reducible first | refine x_then_ret ?_ | refine x_block_ret ?_)
    refine r_one rfl rfl ?_
    refine ⟨congrArg Value.bool ?_, hS.below⟩
    symm; rw [decide_eq_false_iff_not]
    intro h
    rw [h] at hl
    exact hl rfl

def few (r : RR) : Bool := decide (r.num.size ≤ 24) && decide (r.den.size ≤ 24)
theorem few_Lr {r : RR} (h : few r = true) : Lr r ≤ 24 := by
  simp only [few, Bool.and_eq_true, decide_eq_true_eq] at h
  unfold Lr; omega
theorem Few_ok (r : RR) (w : World) :
    Ret Tryz.prog 54 #[aggR r] w fun v w' => v = .bool (few r) ∧ Below w.heap.size w w' := by
  have hS := St.init w
  refine enter Tryz.func54 rfl Tryz.ntmps54 rfl ?_
  repeat (with_reducible first | refine c_seq ?_ | refine c_block ?_ | refine c_skip ?_ | refine x_then ?_ | refine x_block ?_)
  refine c_reg ?_
  refine l_heavy rfl (s_box (new := encR r)  rfl rfl hS ?_)
  intro b1 wz2 hS hBz2
  refine l_pure rfl (s_asg  rfl ?_)
  refine l_nil ?_
  repeat (with_reducible first | refine c_seq ?_ | refine c_block ?_ | refine c_skip ?_ | refine x_then ?_ | refine x_block ?_)
  by_cases h : r.num.size ≤ 24
  · repeat (with_reducible first | refine c_seq ?_ | refine c_block ?_ | refine c_skip ?_ | refine x_then ?_ | refine x_block ?_)
    refine c_reg ?_
    refine l_pure rfl (s_fld  rfl fo_39_1 ?_)
    refine l_read rfl (s_ldo (k := 0)  rfl vi_9 hS rfl rfl rfl (.inr rfl) ?_)
    refine l_pure rfl (s_lens  rfl Tryz.underlying9 ?_)
    refine l_pure rfl (s_leq  rfl rfl ?_)
    refine l_pure rfl (s_move  rfl ?_)
    refine l_pure (gd_yes 7 (by kernel_rfl) rfl (decide_eq_true (by exact_mod_cast h))) (s_fld  rfl fo_39_2 ?_)
    refine l_read (gd_yes 7 (by kernel_rfl) rfl (decide_eq_true (by exact_mod_cast h))) (s_ldo (k := 0)  rfl vi_9 hS rfl rfl rfl (.inr rfl) ?_)
    refine l_pure (gd_yes 7 (by kernel_rfl) rfl (decide_eq_true (by exact_mod_cast h))) (s_lens  rfl Tryz.underlying9 ?_)
    refine l_pure (gd_yes 7 (by kernel_rfl) rfl (decide_eq_true (by exact_mod_cast h))) (s_leq  rfl rfl ?_)
    refine l_pure rfl (s_pick (vb rfl (decide_eq_true (by exact_mod_cast h))) rfl ?_)
    refine l_pure rfl (s_asg  rfl ?_)
    refine l_nil ?_
    repeat (with_reducible first | refine c_seq ?_ | refine c_block ?_ | refine c_skip ?_ | refine x_then ?_ | refine x_block ?_)
    refine c_ret ?_
    repeat (with_reducible first | refine x_then_ret ?_ | refine x_block_ret ?_)
    refine r_one rfl rfl ?_
    refine ⟨congrArg Value.bool ?_, hS.below⟩
    unfold few; rw [decide_eq_true h, Bool.true_and, decide_eq_decide]; omega
  · repeat (with_reducible first | refine c_seq ?_ | refine c_block ?_ | refine c_skip ?_ | refine x_then ?_ | refine x_block ?_)
    refine c_reg ?_
    refine l_pure rfl (s_fld  rfl fo_39_1 ?_)
    refine l_read rfl (s_ldo (k := 0)  rfl vi_9 hS rfl rfl rfl (.inr rfl) ?_)
    refine l_pure rfl (s_lens  rfl Tryz.underlying9 ?_)
    refine l_pure rfl (s_leq  rfl rfl ?_)
    refine l_pure rfl (s_move  rfl ?_)
    refine l_no (gno_yes 7 (by kernel_rfl) rfl (decide_eq_false (by omega))) ?_
    refine l_no (gno_yes 7 (by kernel_rfl) rfl (decide_eq_false (by omega))) ?_
    refine l_no (gno_yes 7 (by kernel_rfl) rfl (decide_eq_false (by omega))) ?_
    refine l_no (gno_yes 7 (by kernel_rfl) rfl (decide_eq_false (by omega))) ?_
    refine l_pure rfl (s_pick (vb rfl (decide_eq_false (by omega))) rfl ?_)
    refine l_pure rfl (s_asg  rfl ?_)
    refine l_nil ?_
    repeat (with_reducible first | refine c_seq ?_ | refine c_block ?_ | refine c_skip ?_ | refine x_then ?_ | refine x_block ?_)
    refine c_ret ?_
    repeat (with_reducible first | refine x_then_ret ?_ | refine x_block_ret ?_)
    refine r_one rfl rfl ?_
    refine ⟨congrArg Value.bool ?_, hS.below⟩
    unfold few; rw [decide_eq_false h]; rfl
theorem FewRats_ok (va : Value) (A : List RR) (n : Int) (w : World) (ha : Sl encR 3 w va A) :
    Ret Tryz.prog 53 #[va, .int .i64 n] w fun v w' => v = .bool (decide ((A.length : Int) ≤ n) && A.all few) ∧ Below w.heap.size w w' := by
  have hS := St.init w
  have hla := ha.maxLen
  refine enter Tryz.func53 rfl Tryz.ntmps53 rfl ?_
  repeat (with_reducible first | refine c_seq ?_ | refine c_block ?_ | refine c_skip ?_ | refine x_then ?_ | refine x_block ?_)
  refine c_reg ?_
  refine l_pure rfl (s_asg  rfl ?_)
  refine l_nil ?_
  repeat (with_reducible first | refine c_seq ?_ | refine c_block ?_ | refine c_skip ?_ | refine x_then ?_ | refine x_block ?_)
  refine c_reg ?_
  refine l_pure rfl (s_move  rfl ?_)
  refine l_pure rfl (s_lenr  rfl (ha.below hS.below) ⟨_, Tryz.underlying24⟩ ?_)
  refine l_pure rfl (s_move  rfl ?_)
  refine l_pure rfl (s_gtr  rfl rfl ?_)
  refine l_nil ?_
  repeat (with_reducible first | refine c_seq ?_ | refine c_block ?_ | refine c_skip ?_ | refine x_then ?_ | refine x_block ?_)
  by_cases hl : (A.length : Int) ≤ n
  · rw [decide_eq_true hl, Bool.true_and]
    refine c_no rfl (decide_eq_false (by omega)) ?_
    repeat (with_reducible first | refine c_seq ?_ | refine c_block ?_ | refine c_skip ?_ | refine x_then ?_ | refine x_block ?_)
    refine c_reg ?_
    refine l_pure rfl (s_move  rfl ?_)
    refine l_pure rfl (s_lenr  rfl (ha.below hS.below) ⟨_, Tryz.underlying24⟩ ?_)
    refine l_pure rfl (s_move  rfl ?_)
    refine l_nil ?_
    repeat (with_reducible first | refine c_seq ?_ | refine c_block ?_ | refine c_skip ?_ | refine x_then ?_ | refine x_block ?_)
    refine c_loop (σ := Nat) (fun i ρ w' => i ≤ A.length ∧ (A.take i).all few = true ∧ ρ 11 = va ∧ ρ 12 = .int .i64 A.length ∧ ρ 13 = .int .i64 i ∧ St w w' []) (fun i => A.length - i) 0
      ⟨Nat.zero_le _, rfl, rfl, rfl, rfl, hS⟩ ?_
    clear hS
    rintro i ρ w2 ⟨hi, hq, h11, h12, h13, hS⟩
    repeat (with_reducible first | refine c_seq ?_ | refine c_block ?_ | refine c_skip ?_ | refine x_then ?_ | refine x_block ?_)
    refine c_reg ?_
    refine l_pure rfl (s_lss  h13 h12 ?_)
    refine l_nil ?_
    repeat (with_reducible first | refine c_seq ?_ | refine c_block ?_ | refine c_skip ?_ | refine x_then ?_ | refine x_block ?_)
    by_cases hlt : i < A.length
    · refine c_yes rfl (decide_eq_true (by omega)) ?_
      repeat (with_reducible first | refine c_seq ?_ | refine c_block ?_ | refine c_skip ?_ | refine x_then ?_ | refine x_block ?_)
      have ta := take_succ' A i zRR hlt
      have hm := getD_mem A i zRR hlt
      repeat (with_reducible first | refine c_seq ?_ | refine c_block ?_ | refine c_skip ?_ | refine x_then ?_ | refine x_block ?_)
      refine c_reg ?_
      refine l_pure rfl (s_ixr (i := i)  h11 h13 (ha.below hS.below) (by omega) (by first | omega | (simp; done) | (simp; omega)) si_24 ?_)
      refine l_read rfl (s_lde (i := i) zRR  rfl vi_39 (ha.below hS.below) (by first | omega | (simp; done) | (simp; omega)) rfl rfl (.inl rfl) ?_)
      refine l_heavy rfl (s_alloc  vi_39 hS ?_)
      intro b1 wz2 hS hBz2
      refine l_heavy rfl (s_sta (k := 0)  rfl rfl vi_39 hS rfl rfl rfl (Nat.le_of_ble_eq_true rfl) rfl ?_)
      intro wz3 hS
      refine l_nil ?_
      repeat (with_reducible first | refine c_seq ?_ | refine c_block ?_ | refine c_skip ?_ | refine x_then ?_ | refine x_block ?_)
      replace hS : St w _ [(_, 39, encR (A.getD i zRR))] := hS
      repeat (with_reducible first | refine c_seq ?_ | refine c_block ?_ | refine c_skip ?_ | refine x_then ?_ | refine x_block ?_)
      refine c_reg ?_
      refine l_read rfl (s_ldo (k := 0)  rfl vi_39 hS rfl rfl rfl (.inl rfl) ?_)
      refine l_heavy rfl (s_call Tryz.call54 rfl (Few_ok (A.getD i zRR) _) ?_)
      rintro _ wc4 ⟨rfl, hBc4⟩
      replace hS := hS.grow hBc4
      refine l_pure rfl (s_not  rfl ?_)
      refine l_nil ?_
      repeat (with_reducible first | refine c_seq ?_ | refine c_block ?_ | refine c_skip ?_ | refine x_then ?_ | refine x_block ?_)
      by_cases he : few (A.getD i zRR) = true
      · refine c_no rfl (by rw [he]; rfl) ?_
        repeat (with_reducible first | refine c_seq ?_ | refine c_block ?_ | refine c_skip ?_ | refine x_then ?_ | refine x_block ?_)
        refine c_reg ?_
        refine l_pure rfl (s_add  h13 rfl (IntWalk.i64_in _ (by omega)) ?_)
        refine l_pure rfl (s_move  rfl ?_)
        refine l_nil ?_
        repeat (with_reducible first | refine c_seq ?_ | refine c_block ?_ | refine c_skip ?_ | refine x_then ?_ | refine x_block ?_)
        exact ⟨i + 1, _, rfl, ⟨hlt, by rw [ta, List.all_append, hq]; simpa using he, h11, h12, vi rfl (by omega), hS.drop (List.nil_sublist _)⟩, by omega⟩
      · rw [Bool.not_eq_true] at he
        refine c_yes rfl (by rw [he]; rfl) ?_
        repeat (with_reducible first | refine c_seq ?_ | refine c_block ?_ | refine c_skip ?_ | refine x_then ?_ | refine x_block ?_)
        refine c_reg ?_
        refine l_pure rfl (s_asg  rfl ?_)
        refine l_nil ?_
        repeat (with_reducible first | refine c_seq ?_ | refine c_block ?_ | refine c_skip ?_ | refine x_then ?_ | refine x_block ?_)
        refine c_ret ?_
        repeat (with_reducible first | refine x_then_ret ?_ | refine x_block_ret ?_)
        refine r_one rfl rfl ?_
        refine ⟨congrArg Value.bool ?_, hS.below⟩
        symm
        rw [List.all_eq_false]
        exact ⟨_, hm, by rw [he]; decide⟩
    · refine c_no rfl (decide_eq_false (by omega)) ?_
      repeat (with_reducible first | refine c_seq ?_ | refine c_block ?_ | refine c_skip ?_ | refine x_then ?_ | refine x_block ?_)
      refine c_exit ?_
      repeat (with_reducible first | refine x_then_exit ?_ | refine x_block_exit ?_ | refine x_block_pass rfl ?_)
      repeat (with_reducible first | refine c_seq ?_ | refine c_block ?_ | refine c_skip ?_ | refine x_then ?_ | refine x_block ?_)
      obtain rfl : i = A.length := by omega
      rw [List.take_length] at hq
      repeat (with_reducible first | refine c_seq ?_ | refine c_block ?_ | refine c_skip ?_ | refine x_then ?_ | refine x_block ?_)
      refine c_reg ?_
      refine l_pure rfl (s_asg  rfl ?_)
      refine l_nil ?_
      repeat (with_reducible first | refine c_seq ?_ | refine c_block ?_ | refine c_skip ?_ | refine x_then ?_ | refine x_block ?_)
      refine c_ret ?_
      repeat (with_reducible first | refine x_then_ret ?_ | refine x_block_ret ?_)
      refine r_one rfl rfl ?_
      exact ⟨congrArg Value.bool hq.symm, hS.below⟩
  · rw [decide_eq_false hl, Bool.false_and]
    refine c_yes rfl (decide_eq_true (by omega)) ?_
    repeat (with_reducible first | refine c_seq ?_ | refine c_block ?_ | refine c_skip ?_ | refine x_then ?_ | refine x_block ?_)
    refine c_reg ?_
    refine l_pure rfl (s_asg  rfl ?_)
    refine l_nil ?_
    repeat (with_reducible first | refine c_seq ?_ | refine c_block ?_ | refine c_skip ?_ | refine x_then ?_ | refine x_block ?_)
    refine c_ret ?_
    repeat (with_reducible first | refine x_then_ret ?_ | refine x_block_ret ?_)
    refine r_one rfl rfl ?_
    exact ⟨rfl, hS.below⟩
end Go.Proofs.YtfocimgpahjkmaaGreatDoor
namespace Go.Sx
open Go Go.RowKit

structure Ch where
  claim : Int
  prio : Int
  lim : Bool
  limit : RR
structure It where
  price : RR
  costs : RR
  charges : List Ch
def encCh (c : Ch) : List Value := [.int .i64 c.claim, .int .i64 c.prio, .bool c.lim, .bool c.limit.neg, .string c.limit.num, .string c.limit.den]
def encIt (x : It × Value) : List Value := [.bool x.1.price.neg, .string x.1.price.num, .string x.1.price.den, .bool x.1.costs.neg, .string x.1.costs.num, .string x.1.costs.den, x.2]
def aggIt (x : It) (cv : Value) : Value := .agg #[.bool x.price.neg, .string x.price.num, .string x.price.den, .bool x.costs.neg, .string x.costs.num, .string x.costs.den, cv]
def zCh : Ch := ⟨0, 0, false, ⟨false, ⟨#[]⟩, ⟨#[]⟩⟩⟩
def zIt : It := ⟨⟨false, ⟨#[]⟩, ⟨#[]⟩⟩, ⟨false, ⟨#[]⟩, ⟨#[]⟩⟩, []⟩
/-- A slice of items: each with its own slice of charges. -/
structure Its (w : World) (v : Value) (X : List It) (cvs : List Value) : Prop where
  len : cvs.length = X.length
  sl : Sl encIt 7 w v (X.zip cvs)
  ch : ∀ i, i < X.length → Sl encCh 6 w (cvs.getD i undef) (X.getD i zIt).charges
theorem Its.below {w w' : World} {v : Value} {X : List It} {cvs : List Value} (h : Its w v X cvs) (hb : Below w.heap.size w w') : Its w' v X cvs := ⟨h.len, h.sl.below hb, fun i hi => (h.ch i hi).below hb⟩
theorem Its.zlen {w : World} {v : Value} {X : List It} {cvs : List Value} (h : Its w v X cvs) : (X.zip cvs).length = X.length := by rw [List.length_zip, h.len]; omega
theorem Its.zget {w : World} {v : Value} {X : List It} {cvs : List Value} (h : Its w v X cvs) {i : Nat} (hi : i < X.length) : (X.zip cvs).getD i (zIt, undef) = (X.getD i zIt, cvs.getD i undef) := by
  have h1 : i < cvs.length := by rw [h.len]; exact hi
  have h2 : i < (X.zip cvs).length := by rw [h.zlen]; exact hi
  rw [List.getD_eq_getElem?_getD, List.getElem?_eq_getElem h2, List.getElem_zip, List.getD_eq_getElem?_getD, List.getElem?_eq_getElem hi, List.getD_eq_getElem?_getD, List.getElem?_eq_getElem h1]; rfl

/-- The first error of a list's members, or 0. -/
def firstE {α : Type} (f : α → Int) : List α → Int
  | [] => 0
  | x :: l => if f x = 0 then firstE f l else f x
theorem firstE_append {α : Type} (f : α → Int) (l m : List α) : firstE f (l ++ m) = if firstE f l = 0 then firstE f m else firstE f l := by
  induction l with
  | nil => simp [firstE]
  | cons x l ih =>
    simp only [List.cons_append, firstE, ih]
    by_cases h : f x = 0 <;> simp [h]
theorem firstE_step {α : Type} (f : α → Int) (l : List α) (d : α) {i : Nat} (hi : i < l.length) (h : firstE f (l.take i) = 0) :
    (f (l.getD i d) = 0 → firstE f (l.take (i + 1)) = 0) ∧ (f (l.getD i d) ≠ 0 → firstE f l = f (l.getD i d)) := by
  have ht : l.take (i + 1) = l.take i ++ [l.getD i d] := by
    rw [List.take_succ_eq_append_getElem hi, List.getD_eq_getElem?_getD, List.getElem?_eq_getElem hi]; rfl
  constructor
  · intro h1
    rw [ht, firstE_append, h, if_pos rfl, firstE, if_pos h1]; rfl
  · intro h1
    have hl : l = l.take i ++ (l.getD i d :: l.drop (i + 1)) := by
      conv => lhs; rw [← List.take_append_drop (i + 1) l, ht, List.append_assoc]
      rfl
    conv => lhs; rw [hl]
    rw [firstE_append, h, if_pos rfl, firstE, if_neg h1]
def chErr (m : Nat) (c : Ch) : Int := if c.claim < 0 ∨ (m : Int) ≤ c.claim then 1 else if c.lim = true ∧ toQ c.limit < 0 then 7 else 0
def itErr (m : Nat) (x : It) : Int := if 8 < x.charges.length then 2 else if toQ x.price < 0 ∨ toQ x.costs < 0 then 7 else firstE (chErr m) x.charges
def negs (l : List RR) : Bool := l.any fun r => decide (toQ r < 0)
def checkE (X : List It) (owed : List RR) : Int := if 8 < X.length ∨ 24 < owed.length then 2 else if negs owed = true then 7 else firstE (itErr owed.length) X
/-- How long the numbers of items are. -/
def ItB (k : Nat) (X : List It) : Prop := ∀ x ∈ X, Lr x.price ≤ k ∧ Lr x.costs ≤ k ∧ ∀ c ∈ x.charges, Lr c.limit ≤ k
def RB (k : Nat) (l : List RR) : Prop := ∀ r ∈ l, Lr r ≤ k
end Go.Sx
namespace Go.Proofs.YtfocimgpahjkmaaGreatDoor
open Go Go.RowKit Go.Sx

theorem lam_ok (r : RR) (w : World) (hr : Lr r ≤ MX) :
    Ret Tryz.prog 58 #[aggR r] w fun v w' => v = .bool (decide (toQ r < 0)) ∧ Below w.heap.size w w' := by
  have hS := St.init w
  refine enter Tryz.func58 rfl Tryz.ntmps58 rfl ?_
  repeat (with_reducible first | refine c_seq ?_ | refine c_block ?_ | refine c_skip ?_ | refine x_then ?_ | refine x_block ?_)
  refine c_reg ?_
  refine l_heavy rfl (s_box (new := encR r)  rfl rfl hS ?_)
  intro b1 wz2 hS hBz2
  refine l_pure rfl (s_asg  rfl ?_)
  refine l_nil ?_
  repeat (with_reducible first | refine c_seq ?_ | refine c_block ?_ | refine c_skip ?_ | refine x_then ?_ | refine x_block ?_)
  refine c_reg ?_
  refine l_read rfl (s_ldo (k := 0)  rfl vi_39 hS rfl rfl rfl (.inl rfl) ?_)
  refine l_heavy rfl (s_call Tryz.call22 rfl (Sign_ok r _ hr) ?_)
  rintro _ wc3 ⟨rfl, hBc3⟩
  replace hS := hS.grow hBc3
  refine l_pure rfl (s_lss  rfl rfl ?_)
  refine l_pure rfl (s_asg  rfl ?_)
  refine l_nil ?_
  repeat (with_reducible first | refine c_seq ?_ | refine c_block ?_ | refine c_skip ?_ | refine x_then ?_ | refine x_block ?_)
  refine c_ret ?_
  repeat (with_reducible first | refine x_then_ret ?_ | refine x_block_ret ?_)
  refine r_one rfl rfl ?_
  exact ⟨congrArg Value.bool (decide_eq_decide.2 sgnQ_neg), hS.below⟩

theorem negs_take (l : List RR) {i : Nat} (hi : i < l.length) (h : negs (l.take i) = false) : (¬ toQ (l.getD i zRR) < 0 → negs (l.take (i + 1)) = false) ∧ (toQ (l.getD i zRR) < 0 → negs l = true) := by
  have ht := take_succ' l i zRR hi
  constructor
  · intro h1
    unfold negs at *
    rw [ht, List.any_append, h]
    simpa using h1
  · intro h1
    unfold negs
    rw [List.any_eq_true]
    exact ⟨_, getD_mem l i zRR hi, decide_eq_true h1⟩
theorem IndexFunc_ok (v : Value) (l : List RR) (w : World) (hv : Sl encR 3 w v l) (hl : RB MX l) :
    Ret Tryz.prog 89 #[v, .func (.func 58) #[] #[]] w fun r w' => (∃ k : Int, r = .int .i64 k ∧ (0 ≤ k ↔ negs l = true)) ∧ Below w.heap.size w w' := by
  have hmax := hv.maxLen
  have hS := St.init w
  refine enter Tryz.func89 rfl Tryz.ntmps89 rfl ?_
  repeat (with_reducible first | refine c_seq ?_ | refine c_block ?_ | refine c_skip ?_ | refine x_then ?_ | refine x_block ?_)
  refine c_reg ?_
  refine l_pure rfl (s_asg  rfl ?_)
  refine l_nil ?_
  repeat (with_reducible first | refine c_seq ?_ | refine c_block ?_ | refine c_skip ?_ | refine x_then ?_ | refine x_block ?_)
  refine c_reg ?_
  refine l_pure rfl (s_move  rfl ?_)
  refine l_pure rfl (s_lenr  rfl (hv.below hS.below) ⟨_, Tryz.underlying24⟩ ?_)
  refine l_pure rfl (s_move  rfl ?_)
  refine l_nil ?_
  repeat (with_reducible first | refine c_seq ?_ | refine c_block ?_ | refine c_skip ?_ | refine x_then ?_ | refine x_block ?_)
  refine c_loop (σ := Nat) (fun i ρ w' => i ≤ l.length ∧ negs (l.take i) = false ∧ ρ 0 = v ∧ ρ 1 = .func (.func 58) #[] #[] ∧ ρ 7 = .int .i64 l.length ∧ ρ 8 = .int .i64 i ∧ St w w' []) (fun i => l.length - i) 0
    ⟨Nat.zero_le _, rfl, rfl, rfl, rfl, rfl, hS⟩ ?_
  clear hS
  rintro i ρ w2 ⟨hi, hn, h0, h1, h7, h8, hS⟩
  repeat (with_reducible first | refine c_seq ?_ | refine c_block ?_ | refine c_skip ?_ | refine x_then ?_ | refine x_block ?_)
  refine c_reg ?_
  refine l_pure rfl (s_lss  h8 h7 ?_)
  refine l_nil ?_
  repeat (with_reducible first | refine c_seq ?_ | refine c_block ?_ | refine c_skip ?_ | refine x_then ?_ | refine x_block ?_)
  by_cases hlt : i < l.length
  · refine c_yes rfl (decide_eq_true (by omega)) ?_
    repeat (with_reducible first | refine c_seq ?_ | refine c_block ?_ | refine c_skip ?_ | refine x_then ?_ | refine x_block ?_)
    obtain ⟨t1, t2⟩ := negs_take l hlt hn
    repeat (with_reducible first | refine c_seq ?_ | refine c_block ?_ | refine c_skip ?_ | refine x_then ?_ | refine x_block ?_)
    refine c_reg ?_
    refine l_pure rfl (s_move  h8 ?_)
    refine l_pure rfl (s_asg  rfl ?_)
    refine l_nil ?_
    repeat (with_reducible first | refine c_seq ?_ | refine c_block ?_ | refine c_skip ?_ | refine x_then ?_ | refine x_block ?_)
    refine c_reg ?_
    refine l_pure rfl (s_move  h1 ?_)
    refine l_pure rfl (s_move  h0 ?_)
    refine l_pure rfl (s_move  rfl ?_)
    refine l_pure rfl (s_ixr (i := i)  rfl rfl (hv.below hS.below) (by omega) (by first | omega | (simp; done) | (simp; omega)) si_24 ?_)
    refine l_read rfl (s_lde (i := i) zRR  rfl vi_39 (hv.below hS.below) (by first | omega | (simp; done) | (simp; omega)) rfl rfl (.inl rfl) ?_)
    refine l_heavy rfl (s_callv Tryz.call58 rfl rfl (lam_ok (l.getD i zRR) _ (hl _ (getD_mem l i zRR hlt))) ?_)
    rintro r w3 ⟨rfl, hB3⟩
    replace hS := hS.grow hB3
    refine l_nil ?_
    repeat (with_reducible first | refine c_seq ?_ | refine c_block ?_ | refine c_skip ?_ | refine x_then ?_ | refine x_block ?_)
    by_cases hneg : toQ (l.getD i zRR) < 0
    · refine c_yes rfl (decide_eq_true hneg) ?_
      repeat (with_reducible first | refine c_seq ?_ | refine c_block ?_ | refine c_skip ?_ | refine x_then ?_ | refine x_block ?_)
      refine c_reg ?_
      refine l_pure rfl (s_move  rfl ?_)
      refine l_pure rfl (s_asg  rfl ?_)
      refine l_nil ?_
      repeat (with_reducible first | refine c_seq ?_ | refine c_block ?_ | refine c_skip ?_ | refine x_then ?_ | refine x_block ?_)
      refine c_ret ?_
      repeat (with_reducible first | refine x_then_ret ?_ | refine x_block_ret ?_)
      refine r_one rfl rfl ?_
      exact ⟨⟨_, rfl, ⟨fun _ => t2 hneg, fun _ => by omega⟩⟩, hS.below⟩
    · refine c_no rfl (decide_eq_false hneg) ?_
      repeat (with_reducible first | refine c_seq ?_ | refine c_block ?_ | refine c_skip ?_ | refine x_then ?_ | refine x_block ?_)
      refine c_reg ?_
      refine l_pure rfl (s_add  h8 rfl (IntWalk.i64_in _ (by omega)) ?_)
      refine l_pure rfl (s_move  rfl ?_)
      refine l_nil ?_
      repeat (with_reducible first | refine c_seq ?_ | refine c_block ?_ | refine c_skip ?_ | refine x_then ?_ | refine x_block ?_)
      exact ⟨i + 1, _, rfl, ⟨hlt, t1 hneg, h0, h1, h7, vi rfl (by omega), hS⟩, by omega⟩
  · refine c_no rfl (decide_eq_false (by omega)) ?_
    repeat (with_reducible first | refine c_seq ?_ | refine c_block ?_ | refine c_skip ?_ | refine x_then ?_ | refine x_block ?_)
    refine c_exit ?_
    repeat (with_reducible first | refine x_then_exit ?_ | refine x_block_exit ?_ | refine x_block_pass rfl ?_)
    repeat (with_reducible first | refine c_seq ?_ | refine c_block ?_ | refine c_skip ?_ | refine x_then ?_ | refine x_block ?_)
    obtain rfl : i = l.length := by omega
    rw [List.take_length] at hn
    repeat (with_reducible first | refine c_seq ?_ | refine c_block ?_ | refine c_skip ?_ | refine x_then ?_ | refine x_block ?_)
    refine c_reg ?_
    refine l_pure rfl (s_asg  rfl ?_)
    refine l_nil ?_
    repeat (with_reducible first | refine c_seq ?_ | refine c_block ?_ | refine c_skip ?_ | refine x_then ?_ | refine x_block ?_)
    refine c_ret ?_
    repeat (with_reducible first | refine x_then_ret ?_ | refine x_block_ret ?_)
    refine r_one rfl rfl ?_
    exact ⟨⟨_, rfl, ⟨fun h => by omega, fun h => by rw [hn] at h; cases h⟩⟩, hS.below⟩
theorem ContainsFunc_ok (v : Value) (l : List RR) (w : World) (hv : Sl encR 3 w v l) (hl : RB MX l) :
    Ret Tryz.prog 57 #[v, .func (.func 58) #[] #[]] w fun r w' => r = .bool (negs l) ∧ Below w.heap.size w w' := by
  have hS := St.init w
  refine enter Tryz.func57 rfl Tryz.ntmps57 rfl ?_
  repeat (with_reducible first | refine c_seq ?_ | refine c_block ?_ | refine c_skip ?_ | refine x_then ?_ | refine x_block ?_)
  refine c_reg ?_
  refine l_pure rfl (s_asg  rfl ?_)
  refine l_nil ?_
  repeat (with_reducible first | refine c_seq ?_ | refine c_block ?_ | refine c_skip ?_ | refine x_then ?_ | refine x_block ?_)
  refine c_reg ?_
  refine l_pure rfl (s_move  rfl ?_)
  refine l_pure rfl (s_move  rfl ?_)
  refine l_heavy rfl (s_call Tryz.call89 rfl (IndexFunc_ok v l _ hv hl) ?_)
  rintro r w3 ⟨⟨k, rfl, hk⟩, hB3⟩
  replace hS := hS.grow hB3
  refine l_pure rfl (s_geq  rfl rfl ?_)
  refine l_pure rfl (s_asg  rfl ?_)
  refine l_nil ?_
  repeat (with_reducible first | refine c_seq ?_ | refine c_block ?_ | refine c_skip ?_ | refine x_then ?_ | refine x_block ?_)
  refine c_ret ?_
  repeat (with_reducible first | refine x_then_ret ?_ | refine x_block_ret ?_)
  refine r_one rfl rfl ?_
  refine ⟨congrArg Value.bool ?_, hS.below⟩
  rw [Bool.eq_iff_iff, decide_eq_true_iff]; exact hk


set_option maxHeartbeats 1000000 in
theorem Check_ok (vi_ vo : Value) (X : List It) (cvs : List Value) (owed : List RR) (w : World) (hX : Its w vi_ X cvs) (ho : Sl encR 3 w vo owed) (hXB : ItB MX X) (hoB : RB MX owed) :
    Ret Tryz.prog 28 #[vi_, vo] w fun r w' => r = .int .i64 (checkE X owed) ∧ Below w.heap.size w w' := by
  have hmo := ho.maxLen
  have hmX := hX.sl.maxLen
  rw [hX.zlen] at hmX
  have hzl := hX.zlen
  have hS := St.init w
  obtain ⟨m, hm⟩ : ∃ m, m = owed.length := ⟨_, rfl⟩
  refine enter Tryz.func28 rfl Tryz.ntmps28 rfl ?_
  repeat (with_reducible first | refine c_seq ?_ | refine c_block ?_ | refine c_skip ?_ | refine x_then ?_ | refine x_block ?_)
  refine c_reg ?_
  refine l_pure rfl (s_asg  rfl ?_)
  refine l_nil ?_
  repeat (with_reducible first | refine c_seq ?_ | refine c_block ?_ | refine c_skip ?_ | refine x_then ?_ | refine x_block ?_)
  refine c_cut1 (fun ρ w' => ρ 0 = vi_ ∧ ρ 1 = vo ∧ ρ 16 = .bool (decide (8 < X.length ∨ 24 < owed.length)) ∧ w = w') ?_ ?_
  · by_cases h1 : 8 < X.length
    · repeat (with_reducible first | refine c_seq ?_ | refine c_block ?_ | refine c_skip ?_ | refine x_then ?_ | refine x_block ?_)
      refine c_reg ?_
      refine l_pure rfl (s_move  rfl ?_)
      refine l_pure rfl (s_lenr  rfl (hX.sl.below hS.below) ⟨_, Tryz.underlying26⟩ ?_)
      refine l_pure rfl (s_gtr  rfl rfl ?_)
      refine l_pure rfl (s_move  rfl ?_)
      refine l_no (gno_yes 12 (by kernel_rfl) rfl (decide_eq_true (by omega))) ?_
      refine l_no (gno_yes 12 (by kernel_rfl) rfl (decide_eq_true (by omega))) ?_
      refine l_no (gno_yes 12 (by kernel_rfl) rfl (decide_eq_true (by omega))) ?_
      refine l_pure rfl (s_pick (vb rfl (decide_eq_true (by omega))) rfl ?_)
      refine l_nil ?_
      repeat (with_reducible first | refine c_seq ?_ | refine c_block ?_ | refine c_skip ?_ | refine x_then ?_ | refine x_block ?_)
      exact ⟨_, rfl, rfl, rfl, vb rfl (decide_eq_true (.inl h1)).symm, rfl⟩
    · repeat (with_reducible first | refine c_seq ?_ | refine c_block ?_ | refine c_skip ?_ | refine x_then ?_ | refine x_block ?_)
      refine c_reg ?_
      refine l_pure rfl (s_move  rfl ?_)
      refine l_pure rfl (s_lenr  rfl (hX.sl.below hS.below) ⟨_, Tryz.underlying26⟩ ?_)
      refine l_pure rfl (s_gtr  rfl rfl ?_)
      refine l_pure rfl (s_move  rfl ?_)
      refine l_pure (gd_yes 12 (by kernel_rfl) rfl (decide_eq_false (by omega))) (s_move  rfl ?_)
      refine l_pure (gd_yes 12 (by kernel_rfl) rfl (decide_eq_false (by omega))) (s_lenr  rfl (ho.below hS.below) ⟨_, Tryz.underlying24⟩ ?_)
      refine l_pure (gd_yes 12 (by kernel_rfl) rfl (decide_eq_false (by omega))) (s_gtr  rfl rfl ?_)
      refine l_pure rfl (s_pick (vb rfl (decide_eq_false (by omega))) rfl ?_)
      refine l_nil ?_
      repeat (with_reducible first | refine c_seq ?_ | refine c_block ?_ | refine c_skip ?_ | refine x_then ?_ | refine x_block ?_)
      exact ⟨_, rfl, rfl, rfl, vb rfl (by rw [decide_eq_decide]; omega), rfl⟩
  rintro ρ w' ⟨h0, h1, h16, rfl⟩
  repeat (with_reducible first | refine c_seq ?_ | refine c_block ?_ | refine c_skip ?_ | refine x_then ?_ | refine x_block ?_)
  by_cases hlong : 8 < X.length ∨ 24 < owed.length
  · refine c_yes h16 (decide_eq_true hlong) ?_
    repeat (with_reducible first | refine c_seq ?_ | refine c_block ?_ | refine c_skip ?_ | refine x_then ?_ | refine x_block ?_)
    refine c_reg ?_
    refine l_pure rfl (s_asg  rfl ?_)
    refine l_nil ?_
    repeat (with_reducible first | refine c_seq ?_ | refine c_block ?_ | refine c_skip ?_ | refine x_then ?_ | refine x_block ?_)
    refine c_ret ?_
    repeat (with_reducible first | refine x_then_ret ?_ | refine x_block_ret ?_)
    refine r_one rfl rfl ?_
    exact ⟨vi rfl (by unfold checkE; rw [if_pos hlong]), hS.below⟩
  refine c_no h16 (decide_eq_false hlong) ?_
  repeat (with_reducible first | refine c_seq ?_ | refine c_block ?_ | refine c_skip ?_ | refine x_then ?_ | refine x_block ?_)
  refine c_reg ?_
  refine l_pure rfl (s_move  h1 ?_)
  refine l_heavy rfl (s_call Tryz.call57 rfl (ContainsFunc_ok vo owed _ ho hoB) ?_)
  rintro _ wc1 ⟨rfl, hBc1⟩
  replace hS := hS.grow hBc1
  refine l_nil ?_
  repeat (with_reducible first | refine c_seq ?_ | refine c_block ?_ | refine c_skip ?_ | refine x_then ?_ | refine x_block ?_)
  by_cases hneg : negs owed = true
  · refine c_yes rfl (hneg) ?_
    repeat (with_reducible first | refine c_seq ?_ | refine c_block ?_ | refine c_skip ?_ | refine x_then ?_ | refine x_block ?_)
    refine c_reg ?_
    refine l_pure rfl (s_asg  rfl ?_)
    refine l_nil ?_
    repeat (with_reducible first | refine c_seq ?_ | refine c_block ?_ | refine c_skip ?_ | refine x_then ?_ | refine x_block ?_)
    refine c_ret ?_
    repeat (with_reducible first | refine x_then_ret ?_ | refine x_block_ret ?_)
    refine r_one rfl rfl ?_
    exact ⟨vi rfl (by unfold checkE; rw [if_neg hlong, if_pos hneg]), hS.below⟩
  refine c_no rfl (by rw [← Bool.not_eq_true]; exact hneg) ?_
  repeat (with_reducible first | refine c_seq ?_ | refine c_block ?_ | refine c_skip ?_ | refine x_then ?_ | refine x_block ?_)
  have hfin : checkE X owed = firstE (itErr m) X := by unfold checkE; rw [if_neg hlong, if_neg hneg, hm]
  rw [hfin]
  repeat (with_reducible first | refine c_seq ?_ | refine c_block ?_ | refine c_skip ?_ | refine x_then ?_ | refine x_block ?_)
  refine c_reg ?_
  refine l_pure rfl (s_move  h0 ?_)
  refine l_pure rfl (s_lenr  rfl (hX.sl.below hS.below) ⟨_, Tryz.underlying26⟩ ?_)
  refine l_pure rfl (s_move  rfl ?_)
  refine l_nil ?_
  repeat (with_reducible first | refine c_seq ?_ | refine c_block ?_ | refine c_skip ?_ | refine x_then ?_ | refine x_block ?_)
  refine c_loop (σ := Nat) (fun i ρ w' => i ≤ X.length ∧ firstE (itErr m) (X.take i) = 0 ∧ ρ 1 = vo ∧ ρ 19 = vi_ ∧ ρ 20 = .int .i64 X.length ∧ ρ 21 = .int .i64 i ∧ St w w' []) (fun i => X.length - i) 0
    ⟨Nat.zero_le _, rfl, h1, rfl, vi rfl (by rw [hzl]), rfl, hS⟩ ?_
  clear hS h0 h1 h16
  rintro i ρ w2 ⟨hi, hok1, h1, h19, h20, h21, hS⟩
  repeat (with_reducible first | refine c_seq ?_ | refine c_block ?_ | refine c_skip ?_ | refine x_then ?_ | refine x_block ?_)
  refine c_reg ?_
  refine l_pure rfl (s_lss  h21 h20 ?_)
  refine l_nil ?_
  repeat (with_reducible first | refine c_seq ?_ | refine c_block ?_ | refine c_skip ?_ | refine x_then ?_ | refine x_block ?_)
  by_cases hlt : i < X.length
  · refine c_yes rfl (decide_eq_true (by omega)) ?_
    repeat (with_reducible first | refine c_seq ?_ | refine c_block ?_ | refine c_skip ?_ | refine x_then ?_ | refine x_block ?_)
    obtain ⟨x, hx⟩ : ∃ x, x = X.getD i zIt := ⟨_, rfl⟩
    obtain ⟨cv, hcv⟩ : ∃ cv, cv = cvs.getD i undef := ⟨_, rfl⟩
    have hmem : x ∈ X := by rw [hx]; exact getD_mem X i zIt hlt
    have hxB := hXB x hmem
    have hch := hX.ch i hlt
    rw [← hx, ← hcv] at hch
    have hmc := hch.maxLen
    obtain ⟨ca, ccap, hcve, _⟩ := hch.form
    subst hcve
    have hzg := hX.zget hlt
    rw [← hx, ← hcv] at hzg
    obtain ⟨f1, f2⟩ := firstE_step (itErr m) X zIt hlt hok1
    rw [← hx] at f1 f2
    repeat (with_reducible first | refine c_seq ?_ | refine c_block ?_ | refine c_skip ?_ | refine x_then ?_ | refine x_block ?_)
    refine c_reg ?_
    refine l_pure rfl (s_ixr (i := i)  h19 h21 (hX.sl.below hS.below) (by omega) (by first | omega | (simp; done) | (simp; omega)) si_26 ?_)
    refine l_read rfl (s_lde (v := aggIt x (.slice ca x.charges.length ccap)) (i := i) (zIt, undef)  rfl vi_53 (hX.sl.below hS.below) (by omega) rfl (by rw [hzg]; rfl) (.inl rfl) ?_)
    refine l_heavy rfl (s_alloc  vi_53 hS ?_)
    intro b2 wz3 hS hBz3
    refine l_heavy rfl (s_sta (k := 0)  rfl rfl vi_53 hS rfl rfl rfl (Nat.le_of_ble_eq_true rfl) rfl ?_)
    intro wz4 hS
    refine l_nil ?_
    repeat (with_reducible first | refine c_seq ?_ | refine c_block ?_ | refine c_skip ?_ | refine x_then ?_ | refine x_block ?_)
    replace hS : St w _ [(b2, 53, encIt (x, .slice ca x.charges.length ccap))] := hS
    repeat (with_reducible first | refine c_seq ?_ | refine c_block ?_ | refine c_skip ?_ | refine x_then ?_ | refine x_block ?_)
    refine c_reg ?_
    refine l_pure rfl (s_fld  rfl fo_53_2 ?_)
    refine l_read rfl (s_ldo (k := 0)  rfl vi_51 hS rfl rfl rfl (.inr rfl) ?_)
    refine l_pure rfl (s_lenr  rfl (hch.below hS.below) ⟨_, Tryz.underlying51⟩ ?_)
    refine l_pure rfl (s_gtr  rfl rfl ?_)
    refine l_nil ?_
    repeat (with_reducible first | refine c_seq ?_ | refine c_block ?_ | refine c_skip ?_ | refine x_then ?_ | refine x_block ?_)
    by_cases hl8 : 8 < x.charges.length
    · refine c_yes rfl (decide_eq_true (by omega)) ?_
      repeat (with_reducible first | refine c_seq ?_ | refine c_block ?_ | refine c_skip ?_ | refine x_then ?_ | refine x_block ?_)
      have he : itErr m x = 2 := by unfold itErr; rw [if_pos hl8]
      repeat (with_reducible first | refine c_seq ?_ | refine c_block ?_ | refine c_skip ?_ | refine x_then ?_ | refine x_block ?_)
      refine c_reg ?_
      refine l_pure rfl (s_asg  rfl ?_)
      refine l_nil ?_
      repeat (with_reducible first | refine c_seq ?_ | refine c_block ?_ | refine c_skip ?_ | refine x_then ?_ | refine x_block ?_)
      refine c_ret ?_
      repeat (with_reducible first | refine x_then_ret ?_ | refine x_block_ret ?_)
      refine r_one rfl rfl ?_
      exact ⟨vi rfl (by rw [f2 (by rw [he]; decide), he]), hS.below⟩
    refine c_no rfl (decide_eq_false (by omega)) ?_
    repeat (with_reducible first | refine c_seq ?_ | refine c_block ?_ | refine c_skip ?_ | refine x_then ?_ | refine x_block ?_)
    refine c_cut1 (fun ρ w' => ρ 1 = vo ∧ ρ 6 = .pointer (some ⟨b2, 0, none⟩) ∧ ρ 19 = vi_ ∧ ρ 20 = .int .i64 X.length ∧ ρ 21 = .int .i64 i ∧ ρ 38 = .bool (decide (toQ x.price < 0 ∨ toQ x.costs < 0)) ∧ St w w' [(b2, 53, encIt (x, .slice ca x.charges.length ccap))]) ?_ ?_
    · repeat (with_reducible first | refine c_seq ?_ | refine c_block ?_ | refine c_skip ?_ | refine x_then ?_ | refine x_block ?_)
      by_cases hp : toQ x.price < 0
      · repeat (with_reducible first | refine c_seq ?_ | refine c_block ?_ | refine c_skip ?_ | refine x_then ?_ | refine x_block ?_)
        refine c_reg ?_
        refine l_pure rfl (s_fld  rfl fo_53_0 ?_)
        refine l_read rfl (s_ldo (k := 0)  rfl vi_39 hS rfl rfl rfl (.inl rfl) ?_)
        refine l_heavy rfl (s_call Tryz.call22 rfl (Sign_ok x.price _ hxB.1) ?_)
        rintro _ wc5 ⟨rfl, hBc5⟩
        replace hS := hS.grow hBc5
        refine l_pure rfl (s_lss  rfl rfl ?_)
        refine l_pure rfl (s_move  rfl ?_)
        refine l_no (gno_yes 33 (by kernel_rfl) rfl (decide_eq_true (sgnQ_neg.2 hp))) ?_
        refine l_no (gno_yes 33 (by kernel_rfl) rfl (decide_eq_true (sgnQ_neg.2 hp))) ?_
        refine l_no (gno_yes 33 (by kernel_rfl) rfl (decide_eq_true (sgnQ_neg.2 hp))) ?_
        refine l_no (gno_yes 33 (by kernel_rfl) rfl (decide_eq_true (sgnQ_neg.2 hp))) ?_
        refine l_pure rfl (s_pick (vb rfl (decide_eq_true (sgnQ_neg.2 hp))) rfl ?_)
        refine l_nil ?_
        repeat (with_reducible first | refine c_seq ?_ | refine c_block ?_ | refine c_skip ?_ | refine x_then ?_ | refine x_block ?_)
        exact ⟨_, rfl, h1, rfl, h19, h20, h21, vb rfl (decide_eq_true (.inl hp)).symm, hS⟩
      · repeat (with_reducible first | refine c_seq ?_ | refine c_block ?_ | refine c_skip ?_ | refine x_then ?_ | refine x_block ?_)
        refine c_reg ?_
        refine l_pure rfl (s_fld  rfl fo_53_0 ?_)
        refine l_read rfl (s_ldo (k := 0)  rfl vi_39 hS rfl rfl rfl (.inl rfl) ?_)
        refine l_heavy rfl (s_call Tryz.call22 rfl (Sign_ok x.price _ hxB.1) ?_)
        rintro _ wc6 ⟨rfl, hBc6⟩
        replace hS := hS.grow hBc6
        refine l_pure rfl (s_lss  rfl rfl ?_)
        refine l_pure rfl (s_move  rfl ?_)
        refine l_pure (gd_yes 33 (by kernel_rfl) rfl (decide_eq_false (fun g => hp (sgnQ_neg.1 g)))) (s_fld  rfl fo_53_1 ?_)
        refine l_read (gd_yes 33 (by kernel_rfl) rfl (decide_eq_false (fun g => hp (sgnQ_neg.1 g)))) (s_ldo (k := 0)  rfl vi_39 hS rfl rfl rfl (.inl rfl) ?_)
        refine l_heavy (gd_yes 33 (by kernel_rfl) rfl (decide_eq_false (fun g => hp (sgnQ_neg.1 g)))) (s_call Tryz.call22 rfl (Sign_ok x.costs _ hxB.2.1) ?_)
        rintro _ wc7 ⟨rfl, hBc7⟩
        replace hS := hS.grow hBc7
        refine l_pure (gd_yes 33 (by kernel_rfl) rfl (decide_eq_false (fun g => hp (sgnQ_neg.1 g)))) (s_lss  rfl rfl ?_)
        refine l_pure rfl (s_pick (vb rfl (decide_eq_false (fun g => hp (sgnQ_neg.1 g)))) rfl ?_)
        refine l_nil ?_
        repeat (with_reducible first | refine c_seq ?_ | refine c_block ?_ | refine c_skip ?_ | refine x_then ?_ | refine x_block ?_)
        exact ⟨_, rfl, h1, rfl, h19, h20, h21, vb rfl (by rw [decide_eq_decide, sgnQ_neg]; exact ⟨.inr, fun g => g.resolve_left hp⟩), hS⟩
    clear hS h1 h19 h20 h21
    rintro ρ w3 ⟨h1, h6, h19, h20, h21, h38, hS⟩
    repeat (with_reducible first | refine c_seq ?_ | refine c_block ?_ | refine c_skip ?_ | refine x_then ?_ | refine x_block ?_)
    by_cases hneg2 : toQ x.price < 0 ∨ toQ x.costs < 0
    · refine c_yes h38 (decide_eq_true hneg2) ?_
      repeat (with_reducible first | refine c_seq ?_ | refine c_block ?_ | refine c_skip ?_ | refine x_then ?_ | refine x_block ?_)
      have he : itErr m x = 7 := by unfold itErr; rw [if_neg hl8, if_pos hneg2]
      repeat (with_reducible first | refine c_seq ?_ | refine c_block ?_ | refine c_skip ?_ | refine x_then ?_ | refine x_block ?_)
      refine c_reg ?_
      refine l_pure rfl (s_asg  rfl ?_)
      refine l_nil ?_
      repeat (with_reducible first | refine c_seq ?_ | refine c_block ?_ | refine c_skip ?_ | refine x_then ?_ | refine x_block ?_)
      refine c_ret ?_
      repeat (with_reducible first | refine x_then_ret ?_ | refine x_block_ret ?_)
      refine r_one rfl rfl ?_
      exact ⟨vi rfl (by rw [f2 (by rw [he]; decide), he]), hS.below⟩
    refine c_no h38 (decide_eq_false hneg2) ?_
    repeat (with_reducible first | refine c_seq ?_ | refine c_block ?_ | refine c_skip ?_ | refine x_then ?_ | refine x_block ?_)
    have he : itErr m x = firstE (chErr m) x.charges := by unfold itErr; rw [if_neg hl8, if_neg hneg2]
    rw [he] at f1 f2
    repeat (with_reducible first | refine c_seq ?_ | refine c_block ?_ | refine c_skip ?_ | refine x_then ?_ | refine x_block ?_)
    refine c_reg ?_
    refine l_pure rfl (s_fld  h6 fo_53_2 ?_)
    refine l_read rfl (s_ldo (k := 0)  rfl vi_51 hS rfl rfl rfl (.inr rfl) ?_)
    refine l_pure rfl (s_lenr  rfl (hch.below hS.below) ⟨_, Tryz.underlying51⟩ ?_)
    refine l_pure rfl (s_move  rfl ?_)
    refine l_nil ?_
    repeat (with_reducible first | refine c_seq ?_ | refine c_skip ?_ | refine x_then ?_ | refine x_block ?_)
    refine c_cut1 (fun ρ w' => firstE (chErr m) x.charges = 0 ∧ ρ 1 = vo ∧ ρ 19 = vi_ ∧ ρ 20 = .int .i64 X.length ∧ ρ 21 = .int .i64 i ∧ St w w' []) ?_ ?_
    · repeat (with_reducible first | refine c_seq ?_ | refine c_block ?_ | refine c_skip ?_ | refine x_then ?_ | refine x_block ?_)
      refine c_loop (σ := Nat) (fun k ρ w' => k ≤ x.charges.length ∧ firstE (chErr m) (x.charges.take k) = 0 ∧ ρ 1 = vo ∧ ρ 19 = vi_ ∧ ρ 20 = .int .i64 X.length ∧ ρ 21 = .int .i64 i ∧ ρ 40 = .slice ca x.charges.length ccap ∧ ρ 41 = .int .i64 x.charges.length ∧ ρ 42 = .int .i64 k ∧ St w w' []) (fun k => x.charges.length - k) 0
        ⟨Nat.zero_le _, rfl, h1, h19, h20, h21, rfl, rfl, rfl, hS.drop (List.nil_sublist _)⟩ ?_
      clear hS h1 h6 h19 h20 h21 h38
      rintro k ρ w4 ⟨hk1, hok, h1, h19, h20, h21, h40, h41, h42, hS⟩
      repeat (with_reducible first | refine c_seq ?_ | refine c_block ?_ | refine c_skip ?_ | refine x_then ?_ | refine x_block ?_)
      refine c_reg ?_
      refine l_pure rfl (s_lss  h42 h41 ?_)
      refine l_nil ?_
      repeat (with_reducible first | refine c_seq ?_ | refine c_block ?_ | refine c_skip ?_ | refine x_then ?_ | refine x_block ?_)
      by_cases hk : k < x.charges.length
      · refine c_yes rfl (decide_eq_true (by omega)) ?_
        repeat (with_reducible first | refine c_seq ?_ | refine c_block ?_ | refine c_skip ?_ | refine x_then ?_ | refine x_block ?_)
        obtain ⟨c, hc⟩ : ∃ c, c = x.charges.getD k zCh := ⟨_, rfl⟩
        have hm2 : c ∈ x.charges := by rw [hc]; exact getD_mem x.charges k zCh hk
        have hcl : Lr c.limit ≤ MX := hxB.2.2 c hm2
        obtain ⟨e1, e2⟩ := firstE_step (chErr m) x.charges zCh hk hok
        rw [← hc] at e1 e2
        repeat (with_reducible first | refine c_seq ?_ | refine c_block ?_ | refine c_skip ?_ | refine x_then ?_ | refine x_block ?_)
        refine c_reg ?_
        refine l_pure rfl (s_ixr (i := k)  h40 h42 (hch.below hS.below) (by omega) (by first | omega | (simp; done) | (simp; omega)) si_51 ?_)
        refine l_read rfl (s_lde (i := k) zCh  rfl vi_64 (hch.below hS.below) (by first | omega | (simp; done) | (simp; omega)) rfl rfl (.inl rfl) ?_)
        refine l_heavy rfl (s_alloc  vi_64 hS ?_)
        intro b8 wz9 hS hBz9
        refine l_heavy rfl (s_sta (k := 0)  rfl rfl vi_64 hS rfl rfl rfl (Nat.le_of_ble_eq_true rfl) rfl ?_)
        intro wz10 hS
        refine l_nil ?_
        repeat (with_reducible first | refine c_seq ?_ | refine c_block ?_ | refine c_skip ?_ | refine x_then ?_ | refine x_block ?_)
        rw [← hc] at hS
        replace hS : St w _ [(_, 64, encCh c)] := hS
        refine c_cut1 (fun ρ w' => ρ 1 = vo ∧ ρ 8 = .pointer (some ⟨b8, 0, none⟩) ∧ ρ 19 = vi_ ∧ ρ 20 = .int .i64 X.length ∧ ρ 21 = .int .i64 i ∧ ρ 40 = .slice ca x.charges.length ccap ∧ ρ 41 = .int .i64 x.charges.length ∧ ρ 42 = .int .i64 k ∧ ρ 55 = .bool (decide (c.claim < 0 ∨ (m : Int) ≤ c.claim)) ∧ St w w' [(b8, 64, encCh c)]) ?_ ?_
        · repeat (with_reducible first | refine c_seq ?_ | refine c_block ?_ | refine c_skip ?_ | refine x_then ?_ | refine x_block ?_)
          by_cases hp : c.claim < 0
          · repeat (with_reducible first | refine c_seq ?_ | refine c_block ?_ | refine c_skip ?_ | refine x_then ?_ | refine x_block ?_)
            refine c_reg ?_
            refine l_pure rfl (s_fld  rfl fo_64_0 ?_)
            refine l_read rfl (s_ldo (k := 0)  rfl vi_3 hS rfl rfl rfl (.inr rfl) ?_)
            refine l_pure rfl (s_lss  rfl rfl ?_)
            refine l_pure rfl (s_move  rfl ?_)
            refine l_no (gno_yes 49 (by kernel_rfl) rfl (decide_eq_true hp)) ?_
            refine l_no (gno_yes 49 (by kernel_rfl) rfl (decide_eq_true hp)) ?_
            refine l_no (gno_yes 49 (by kernel_rfl) rfl (decide_eq_true hp)) ?_
            refine l_no (gno_yes 49 (by kernel_rfl) rfl (decide_eq_true hp)) ?_
            refine l_no (gno_yes 49 (by kernel_rfl) rfl (decide_eq_true hp)) ?_
            refine l_pure rfl (s_pick (vb rfl (decide_eq_true hp)) rfl ?_)
            refine l_nil ?_
            repeat (with_reducible first | refine c_seq ?_ | refine c_block ?_ | refine c_skip ?_ | refine x_then ?_ | refine x_block ?_)
            exact ⟨_, rfl, h1, rfl, h19, h20, h21, h40, h41, h42, vb rfl (decide_eq_true (.inl hp)).symm, hS⟩
          · repeat (with_reducible first | refine c_seq ?_ | refine c_block ?_ | refine c_skip ?_ | refine x_then ?_ | refine x_block ?_)
            refine c_reg ?_
            refine l_pure rfl (s_fld  rfl fo_64_0 ?_)
            refine l_read rfl (s_ldo (k := 0)  rfl vi_3 hS rfl rfl rfl (.inr rfl) ?_)
            refine l_pure rfl (s_lss  rfl rfl ?_)
            refine l_pure rfl (s_move  rfl ?_)
            refine l_pure (gd_yes 49 (by kernel_rfl) rfl (decide_eq_false hp)) (s_fld  rfl fo_64_0 ?_)
            refine l_read (gd_yes 49 (by kernel_rfl) rfl (decide_eq_false hp)) (s_ldo (k := 0)  rfl vi_3 hS rfl rfl rfl (.inr rfl) ?_)
            refine l_pure (gd_yes 49 (by kernel_rfl) rfl (decide_eq_false hp)) (s_move  h1 ?_)
            refine l_pure (gd_yes 49 (by kernel_rfl) rfl (decide_eq_false hp)) (s_lenr  rfl (ho.below hS.below) ⟨_, Tryz.underlying24⟩ ?_)
            refine l_pure (gd_yes 49 (by kernel_rfl) rfl (decide_eq_false hp)) (s_geq  rfl rfl ?_)
            refine l_pure rfl (s_pick (vb rfl (decide_eq_false hp)) rfl ?_)
            refine l_nil ?_
            repeat (with_reducible first | refine c_seq ?_ | refine c_block ?_ | refine c_skip ?_ | refine x_then ?_ | refine x_block ?_)
            exact ⟨_, rfl, h1, rfl, h19, h20, h21, h40, h41, h42, vb rfl (by rw [decide_eq_decide]; omega), hS⟩
        clear hS h1 h19 h20 h21 h40 h41 h42
        rintro ρ w5 ⟨h1, h8, h19, h20, h21, h40, h41, h42, h55, hS⟩
        repeat (with_reducible first | refine c_seq ?_ | refine c_block ?_ | refine c_skip ?_ | refine x_then ?_ | refine x_block ?_)
        by_cases hr : c.claim < 0 ∨ (m : Int) ≤ c.claim
        · refine c_yes h55 (decide_eq_true hr) ?_
          repeat (with_reducible first | refine c_seq ?_ | refine c_block ?_ | refine c_skip ?_ | refine x_then ?_ | refine x_block ?_)
          have he1 : chErr m c = 1 := by unfold chErr; rw [if_pos hr]
          repeat (with_reducible first | refine c_seq ?_ | refine c_block ?_ | refine c_skip ?_ | refine x_then ?_ | refine x_block ?_)
          refine c_reg ?_
          refine l_pure rfl (s_asg  rfl ?_)
          refine l_nil ?_
          repeat (with_reducible first | refine c_seq ?_ | refine c_block ?_ | refine c_skip ?_ | refine x_then ?_ | refine x_block ?_)
          refine c_ret ?_
          repeat (with_reducible first | refine x_then_ret ?_ | refine x_block_ret ?_)
          refine r_one rfl rfl ?_
          exact ⟨vi rfl (by rw [f2 (by rw [e2 (by rw [he1]; decide), he1]; decide), e2 (by rw [he1]; decide), he1]), hS.below⟩
        refine c_no h55 (decide_eq_false hr) ?_
        repeat (with_reducible first | refine c_seq ?_ | refine c_block ?_ | refine c_skip ?_ | refine x_then ?_ | refine x_block ?_)
        refine c_cut1 (fun ρ w' => ρ 1 = vo ∧ ρ 19 = vi_ ∧ ρ 20 = .int .i64 X.length ∧ ρ 21 = .int .i64 i ∧ ρ 40 = .slice ca x.charges.length ccap ∧ ρ 41 = .int .i64 x.charges.length ∧ ρ 42 = .int .i64 k ∧ ρ 63 = .bool (decide (c.lim = true ∧ toQ c.limit < 0)) ∧ St w w' [(b8, 64, encCh c)]) ?_ ?_
        · repeat (with_reducible first | refine c_seq ?_ | refine c_block ?_ | refine c_skip ?_ | refine x_then ?_ | refine x_block ?_)
          by_cases hp : c.lim = true
          · repeat (with_reducible first | refine c_seq ?_ | refine c_block ?_ | refine c_skip ?_ | refine x_then ?_ | refine x_block ?_)
            refine c_reg ?_
            refine l_pure rfl (s_fld  h8 fo_64_2 ?_)
            refine l_read rfl (s_ldo (k := 0)  rfl vi_4 hS rfl rfl rfl (.inr rfl) ?_)
            refine l_pure rfl (s_move  rfl ?_)
            refine l_pure (gd_yes 58 (by kernel_rfl) rfl hp) (s_fld  h8 fo_64_3 ?_)
            refine l_read (gd_yes 58 (by kernel_rfl) rfl hp) (s_ldo (k := 0)  rfl vi_39 hS rfl rfl rfl (.inl rfl) ?_)
            refine l_heavy (gd_yes 58 (by kernel_rfl) rfl hp) (s_call Tryz.call22 rfl (Sign_ok c.limit _ hcl) ?_)
            rintro _ wc11 ⟨rfl, hBc11⟩
            replace hS := hS.grow hBc11
            refine l_pure (gd_yes 58 (by kernel_rfl) rfl hp) (s_lss  rfl rfl ?_)
            refine l_pure rfl (s_pick (vb rfl hp) rfl ?_)
            refine l_nil ?_
            repeat (with_reducible first | refine c_seq ?_ | refine c_block ?_ | refine c_skip ?_ | refine x_then ?_ | refine x_block ?_)
            exact ⟨_, rfl, h1, h19, h20, h21, h40, h41, h42, vb rfl (by rw [decide_eq_decide, sgnQ_neg]; exact ⟨fun g => ⟨hp, g⟩, fun g => g.2⟩), hS⟩
          · repeat (with_reducible first | refine c_seq ?_ | refine c_block ?_ | refine c_skip ?_ | refine x_then ?_ | refine x_block ?_)
            refine c_reg ?_
            refine l_pure rfl (s_fld  h8 fo_64_2 ?_)
            refine l_read rfl (s_ldo (k := 0)  rfl vi_4 hS rfl rfl rfl (.inr rfl) ?_)
            refine l_pure rfl (s_move  rfl ?_)
            refine l_no (gno_yes 58 (by kernel_rfl) rfl (show c.lim = false from Bool.eq_false_iff.2 hp)) ?_
            refine l_no (gno_yes 58 (by kernel_rfl) rfl (show c.lim = false from Bool.eq_false_iff.2 hp)) ?_
            refine l_no (gno_yes 58 (by kernel_rfl) rfl (show c.lim = false from Bool.eq_false_iff.2 hp)) ?_
            refine l_no (gno_yes 58 (by kernel_rfl) rfl (show c.lim = false from Bool.eq_false_iff.2 hp)) ?_
            refine l_pure rfl (s_pick (vb rfl (show c.lim = false from Bool.eq_false_iff.2 hp)) rfl ?_)
            refine l_nil ?_
            repeat (with_reducible first | refine c_seq ?_ | refine c_block ?_ | refine c_skip ?_ | refine x_then ?_ | refine x_block ?_)
            exact ⟨_, rfl, h1, h19, h20, h21, h40, h41, h42, vb rfl (decide_eq_false (fun g => hp g.1)).symm, hS⟩
        clear hS h1 h8 h19 h20 h21 h40 h41 h42 h55
        rintro ρ w6 ⟨h1, h19, h20, h21, h40, h41, h42, h63, hS⟩
        repeat (with_reducible first | refine c_seq ?_ | refine c_block ?_ | refine c_skip ?_ | refine x_then ?_ | refine x_block ?_)
        by_cases hlm : c.lim = true ∧ toQ c.limit < 0
        · refine c_yes h63 (decide_eq_true hlm) ?_
          repeat (with_reducible first | refine c_seq ?_ | refine c_block ?_ | refine c_skip ?_ | refine x_then ?_ | refine x_block ?_)
          have he1 : chErr m c = 7 := by unfold chErr; rw [if_neg hr, if_pos hlm]
          repeat (with_reducible first | refine c_seq ?_ | refine c_block ?_ | refine c_skip ?_ | refine x_then ?_ | refine x_block ?_)
          refine c_reg ?_
          refine l_pure rfl (s_asg  rfl ?_)
          refine l_nil ?_
          repeat (with_reducible first | refine c_seq ?_ | refine c_block ?_ | refine c_skip ?_ | refine x_then ?_ | refine x_block ?_)
          refine c_ret ?_
          repeat (with_reducible first | refine x_then_ret ?_ | refine x_block_ret ?_)
          refine r_one rfl rfl ?_
          exact ⟨vi rfl (by rw [f2 (by rw [e2 (by rw [he1]; decide), he1]; decide), e2 (by rw [he1]; decide), he1]), hS.below⟩
        refine c_no h63 (decide_eq_false hlm) ?_
        repeat (with_reducible first | refine c_seq ?_ | refine c_block ?_ | refine c_skip ?_ | refine x_then ?_ | refine x_block ?_)
        have he1 : chErr m c = 0 := by unfold chErr; rw [if_neg hr, if_neg hlm]
        repeat (with_reducible first | refine c_seq ?_ | refine c_block ?_ | refine c_skip ?_ | refine x_then ?_ | refine x_block ?_)
        refine c_reg ?_
        refine l_pure rfl (s_add  h42 rfl (IntWalk.i64_in _ (by omega)) ?_)
        refine l_pure rfl (s_move  rfl ?_)
        refine l_nil ?_
        repeat (with_reducible first | refine c_seq ?_ | refine c_block ?_ | refine c_skip ?_ | refine x_then ?_ | refine x_block ?_)
        exact ⟨k + 1, _, rfl, ⟨hk, e1 he1, h1, h19, h20, h21, h40, h41, vi rfl (by omega), hS.drop (List.nil_sublist _)⟩, by omega⟩
      · refine c_no rfl (decide_eq_false (by omega)) ?_
        repeat (with_reducible first | refine c_seq ?_ | refine c_block ?_ | refine c_skip ?_ | refine x_then ?_ | refine x_block ?_)
        refine c_exit ?_
        repeat (with_reducible first | refine x_then_exit ?_ | refine x_block_exit ?_ | refine x_block_pass rfl ?_)
        repeat (with_reducible first | refine c_seq ?_ | refine c_block ?_ | refine c_skip ?_ | refine x_then ?_ | refine x_block ?_)
        obtain rfl : k = x.charges.length := by omega
        rw [List.take_length] at hok
        exact ⟨_, rfl, hok, h1, h19, h20, h21, hS⟩
    clear hS h1 h6 h19 h20 h21 h38
    rintro ρ w7 ⟨hok2, h1, h19, h20, h21, hS⟩
    repeat (with_reducible first | refine c_seq ?_ | refine c_block ?_ | refine c_skip ?_ | refine x_then ?_ | refine x_block ?_)
    refine c_reg ?_
    refine l_pure rfl (s_add  h21 rfl (IntWalk.i64_in _ (by omega)) ?_)
    refine l_pure rfl (s_move  rfl ?_)
    refine l_nil ?_
    repeat (with_reducible first | refine c_seq ?_ | refine c_block ?_ | refine c_skip ?_ | refine x_then ?_ | refine x_block ?_)
    exact ⟨i + 1, _, rfl, ⟨hlt, f1 hok2, h1, h19, h20, vi rfl (by omega), hS⟩, by omega⟩
  · refine c_no rfl (decide_eq_false (by omega)) ?_
    repeat (with_reducible first | refine c_seq ?_ | refine c_block ?_ | refine c_skip ?_ | refine x_then ?_ | refine x_block ?_)
    refine c_exit ?_
    repeat (with_reducible first | refine x_then_exit ?_ | refine x_block_exit ?_ | refine x_block_pass rfl ?_)
    repeat (with_reducible first | refine c_seq ?_ | refine c_block ?_ | refine c_skip ?_ | refine x_then ?_ | refine x_block ?_)
    obtain rfl : i = X.length := by omega
    rw [List.take_length] at hok1
    repeat (with_reducible first | refine c_seq ?_ | refine c_block ?_ | refine c_skip ?_ | refine x_then ?_ | refine x_block ?_)
    refine c_reg ?_
    refine l_pure rfl (s_asg  rfl ?_)
    refine l_nil ?_
    repeat (with_reducible first | refine c_seq ?_ | refine c_block ?_ | refine c_skip ?_ | refine x_then ?_ | refine x_block ?_)
    refine c_ret ?_
    repeat (with_reducible first | refine x_then_ret ?_ | refine x_block_ret ?_)
    refine r_one rfl rfl ?_
    exact ⟨vi rfl hok1.symm, hS.below⟩
end Go.Proofs.YtfocimgpahjkmaaGreatDoor
namespace Go.Proofs.YtfocimgpahjkmaaGreatDoor
open Go Go.RowKit Go.Sx

set_option maxHeartbeats 1000000 in
theorem rCheck_ok (vi_ vo : Value) (X : List It) (cvs : List Value) (owed : List RR) (w : World) (hX : Its w vi_ X cvs) (ho : Sl encR 3 w vo owed) (hXB : ItB MX X) (hoB : RB MX owed) :
    Ret Tryz.prog 31 #[vi_, vo] w fun r w' => r = .int .i64 (checkE X owed) ∧ Below w.heap.size w w' := by
  have hmo := ho.maxLen
  have hmX := hX.sl.maxLen
  rw [hX.zlen] at hmX
  have hzl := hX.zlen
  have hS := St.init w
  obtain ⟨m, hm⟩ : ∃ m, m = owed.length := ⟨_, rfl⟩
  refine enter Tryz.func31 rfl Tryz.ntmps31 rfl ?_
  repeat (with_reducible first | refine c_seq ?_ | refine c_block ?_ | refine c_skip ?_ | refine x_then ?_ | refine x_block ?_)
  refine c_reg ?_
  refine l_pure rfl (s_asg  rfl ?_)
  refine l_nil ?_
  repeat (with_reducible first | refine c_seq ?_ | refine c_block ?_ | refine c_skip ?_ | refine x_then ?_ | refine x_block ?_)
  refine c_cut1 (fun ρ w' => ρ 0 = vi_ ∧ ρ 1 = vo ∧ ρ 17 = .bool (decide (8 < X.length ∨ 24 < owed.length)) ∧ w = w') ?_ ?_
  · by_cases h1 : 8 < X.length
    · repeat (with_reducible first | refine c_seq ?_ | refine c_block ?_ | refine c_skip ?_ | refine x_then ?_ | refine x_block ?_)
      refine c_reg ?_
      refine l_pure rfl (s_move  rfl ?_)
      refine l_pure rfl (s_lenr  rfl (hX.sl.below hS.below) ⟨_, Tryz.underlying26⟩ ?_)
      refine l_pure rfl (s_gtr  rfl rfl ?_)
      refine l_pure rfl (s_move  rfl ?_)
      refine l_no (gno_yes 13 (by kernel_rfl) rfl (decide_eq_true (by omega))) ?_
      refine l_no (gno_yes 13 (by kernel_rfl) rfl (decide_eq_true (by omega))) ?_
      refine l_no (gno_yes 13 (by kernel_rfl) rfl (decide_eq_true (by omega))) ?_
      refine l_pure rfl (s_pick (vb rfl (decide_eq_true (by omega))) rfl ?_)
      refine l_nil ?_
      repeat (with_reducible first | refine c_seq ?_ | refine c_block ?_ | refine c_skip ?_ | refine x_then ?_ | refine x_block ?_)
      exact ⟨_, rfl, rfl, rfl, vb rfl (decide_eq_true (.inl h1)).symm, rfl⟩
    · repeat (with_reducible first | refine c_seq ?_ | refine c_block ?_ | refine c_skip ?_ | refine x_then ?_ | refine x_block ?_)
      refine c_reg ?_
      refine l_pure rfl (s_move  rfl ?_)
      refine l_pure rfl (s_lenr  rfl (hX.sl.below hS.below) ⟨_, Tryz.underlying26⟩ ?_)
      refine l_pure rfl (s_gtr  rfl rfl ?_)
      refine l_pure rfl (s_move  rfl ?_)
      refine l_pure (gd_yes 13 (by kernel_rfl) rfl (decide_eq_false (by omega))) (s_move  rfl ?_)
      refine l_pure (gd_yes 13 (by kernel_rfl) rfl (decide_eq_false (by omega))) (s_lenr  rfl (ho.below hS.below) ⟨_, Tryz.underlying24⟩ ?_)
      refine l_pure (gd_yes 13 (by kernel_rfl) rfl (decide_eq_false (by omega))) (s_gtr  rfl rfl ?_)
      refine l_pure rfl (s_pick (vb rfl (decide_eq_false (by omega))) rfl ?_)
      refine l_nil ?_
      repeat (with_reducible first | refine c_seq ?_ | refine c_block ?_ | refine c_skip ?_ | refine x_then ?_ | refine x_block ?_)
      exact ⟨_, rfl, rfl, rfl, vb rfl (by rw [decide_eq_decide]; omega), rfl⟩
  rintro ρ w' ⟨h0, h1, h17, rfl⟩
  repeat (with_reducible first | refine c_seq ?_ | refine c_block ?_ | refine c_skip ?_ | refine x_then ?_ | refine x_block ?_)
  by_cases hlong : 8 < X.length ∨ 24 < owed.length
  · refine c_yes h17 (decide_eq_true hlong) ?_
    repeat (with_reducible first | refine c_seq ?_ | refine c_block ?_ | refine c_skip ?_ | refine x_then ?_ | refine x_block ?_)
    refine c_reg ?_
    refine l_pure rfl (s_asg  rfl ?_)
    refine l_nil ?_
    repeat (with_reducible first | refine c_seq ?_ | refine c_block ?_ | refine c_skip ?_ | refine x_then ?_ | refine x_block ?_)
    refine c_ret ?_
    repeat (with_reducible first | refine x_then_ret ?_ | refine x_block_ret ?_)
    refine r_one rfl rfl ?_
    exact ⟨vi rfl (by unfold checkE; rw [if_pos hlong]), hS.below⟩
  refine c_no h17 (decide_eq_false hlong) ?_
  repeat (with_reducible first | refine c_seq ?_ | refine c_block ?_ | refine c_skip ?_ | refine x_then ?_ | refine x_block ?_)
  refine c_reg ?_
  refine l_pure rfl (s_asg  rfl ?_)
  refine l_nil ?_
  repeat (with_reducible first | refine c_seq ?_ | refine c_skip ?_ | refine x_then ?_ | refine x_block ?_)
  refine c_cut1 (fun ρ w' => negs owed = false ∧ ρ 0 = vi_ ∧ ρ 1 = vo ∧ St w w' []) ?_ ?_
  · repeat (with_reducible first | refine c_seq ?_ | refine c_block ?_ | refine c_skip ?_ | refine x_then ?_ | refine x_block ?_)
    refine c_loop (σ := Nat) (fun i ρ w' => i ≤ owed.length ∧ negs (owed.take i) = false ∧ ρ 0 = vi_ ∧ ρ 1 = vo ∧ ρ 5 = .int .i64 i ∧ St w w' []) (fun i => owed.length - i) 0
      ⟨Nat.zero_le _, rfl, h0, h1, rfl, hS⟩ ?_
    clear hS h0 h1 h17
    rintro i ρ w2 ⟨hi, hn, h0, h1, h5, hS⟩
    repeat (with_reducible first | refine c_seq ?_ | refine c_block ?_ | refine c_skip ?_ | refine x_then ?_ | refine x_block ?_)
    refine c_reg ?_
    refine l_pure rfl (s_move  h5 ?_)
    refine l_pure rfl (s_move  h1 ?_)
    refine l_pure rfl (s_lenr  rfl (ho.below hS.below) ⟨_, Tryz.underlying24⟩ ?_)
    refine l_pure rfl (s_lss  rfl rfl ?_)
    refine l_nil ?_
    repeat (with_reducible first | refine c_seq ?_ | refine c_block ?_ | refine c_skip ?_ | refine x_then ?_ | refine x_block ?_)
    by_cases hlt : i < owed.length
    · refine c_yes rfl (decide_eq_true (by omega)) ?_
      repeat (with_reducible first | refine c_seq ?_ | refine c_block ?_ | refine c_skip ?_ | refine x_then ?_ | refine x_block ?_)
      obtain ⟨t1, t2⟩ := negs_take owed hlt hn
      repeat (with_reducible first | refine c_seq ?_ | refine c_block ?_ | refine c_skip ?_ | refine x_then ?_ | refine x_block ?_)
      refine c_reg ?_
      refine l_pure rfl (s_move  h1 ?_)
      refine l_pure rfl (s_move  h5 ?_)
      refine l_pure rfl (s_ixr (i := i)  rfl rfl (ho.below hS.below) (by omega) (by first | omega | (simp; done) | (simp; omega)) si_24 ?_)
      refine l_read rfl (s_lde (i := i) zRR  rfl vi_39 (ho.below hS.below) (by first | omega | (simp; done) | (simp; omega)) rfl rfl (.inl rfl) ?_)
      refine l_heavy rfl (s_call Tryz.call59 rfl (rSign_ok (owed.getD i zRR) _ (hoB _ (getD_mem owed i zRR hlt))) ?_)
      rintro _ wc1 ⟨rfl, hBc1⟩
      replace hS := hS.grow hBc1
      refine l_pure rfl (s_lss  rfl rfl ?_)
      refine l_nil ?_
      repeat (with_reducible first | refine c_seq ?_ | refine c_block ?_ | refine c_skip ?_ | refine x_then ?_ | refine x_block ?_)
      by_cases hneg : toQ (owed.getD i zRR) < 0
      · refine c_yes rfl (decide_eq_true (sgnQ_neg.2 hneg)) ?_
        repeat (with_reducible first | refine c_seq ?_ | refine c_block ?_ | refine c_skip ?_ | refine x_then ?_ | refine x_block ?_)
        refine c_reg ?_
        refine l_pure rfl (s_asg  rfl ?_)
        refine l_nil ?_
        repeat (with_reducible first | refine c_seq ?_ | refine c_block ?_ | refine c_skip ?_ | refine x_then ?_ | refine x_block ?_)
        refine c_ret ?_
        repeat (with_reducible first | refine x_then_ret ?_ | refine x_block_ret ?_)
        refine r_one rfl rfl ?_
        exact ⟨vi rfl (by unfold checkE; rw [if_neg hlong, if_pos (t2 hneg)]), hS.below⟩
      · refine c_no rfl (decide_eq_false (fun g => hneg (sgnQ_neg.1 g))) ?_
        repeat (with_reducible first | refine c_seq ?_ | refine c_block ?_ | refine c_skip ?_ | refine x_then ?_ | refine x_block ?_)
        refine c_reg ?_
        refine l_pure rfl (s_move  h5 ?_)
        refine l_pure rfl (s_add  rfl rfl (IntWalk.i64_in _ (by omega)) ?_)
        refine l_pure rfl (s_asg  rfl ?_)
        refine l_nil ?_
        repeat (with_reducible first | refine c_seq ?_ | refine c_block ?_ | refine c_skip ?_ | refine x_then ?_ | refine x_block ?_)
        exact ⟨i + 1, _, rfl, ⟨hlt, t1 hneg, h0, h1, vi rfl (by omega), hS⟩, by omega⟩
    · refine c_no rfl (decide_eq_false (by omega)) ?_
      repeat (with_reducible first | refine c_seq ?_ | refine c_block ?_ | refine c_skip ?_ | refine x_then ?_ | refine x_block ?_)
      refine c_exit ?_
      repeat (with_reducible first | refine x_then_exit ?_ | refine x_block_exit ?_ | refine x_block_pass rfl ?_)
      repeat (with_reducible first | refine c_seq ?_ | refine c_block ?_ | refine c_skip ?_ | refine x_then ?_ | refine x_block ?_)
      obtain rfl : i = owed.length := by omega
      rw [List.take_length] at hn
      exact ⟨_, rfl, hn, h0, h1, hS⟩
  clear hS h0 h1 h17
  rintro ρ w2 ⟨hneg, h0, h1, hS⟩
  have hfin : checkE X owed = firstE (itErr m) X := by unfold checkE; rw [if_neg hlong, if_neg (by rw [hneg]; decide), hm]
  rw [hfin]
  repeat (with_reducible first | refine c_seq ?_ | refine c_block ?_ | refine c_skip ?_ | refine x_then ?_ | refine x_block ?_)
  refine c_reg ?_
  refine l_pure rfl (s_asg  rfl ?_)
  refine l_nil ?_
  repeat (with_reducible first | refine c_seq ?_ | refine c_block ?_ | refine c_skip ?_ | refine x_then ?_ | refine x_block ?_)
  refine c_loop (σ := Nat) (fun i ρ w' => i ≤ X.length ∧ firstE (itErr m) (X.take i) = 0 ∧ ρ 0 = vi_ ∧ ρ 1 = vo ∧ ρ 6 = .int .i64 i ∧ St w w' []) (fun i => X.length - i) 0
    ⟨Nat.zero_le _, rfl, h0, h1, rfl, hS⟩ ?_
  clear hS h0 h1
  rintro i ρ w2 ⟨hi, hok1, h0, h1, h6, hS⟩
  repeat (with_reducible first | refine c_seq ?_ | refine c_block ?_ | refine c_skip ?_ | refine x_then ?_ | refine x_block ?_)
  refine c_reg ?_
  refine l_pure rfl (s_move  h6 ?_)
  refine l_pure rfl (s_move  h0 ?_)
  refine l_pure rfl (s_lenr  rfl (hX.sl.below hS.below) ⟨_, Tryz.underlying26⟩ ?_)
  refine l_pure rfl (s_lss  rfl rfl ?_)
  refine l_nil ?_
  repeat (with_reducible first | refine c_seq ?_ | refine c_block ?_ | refine c_skip ?_ | refine x_then ?_ | refine x_block ?_)
  by_cases hlt : i < X.length
  · refine c_yes rfl (decide_eq_true (by omega)) ?_
    repeat (with_reducible first | refine c_seq ?_ | refine c_block ?_ | refine c_skip ?_ | refine x_then ?_ | refine x_block ?_)
    obtain ⟨x, hx⟩ : ∃ x, x = X.getD i zIt := ⟨_, rfl⟩
    obtain ⟨cv, hcv⟩ : ∃ cv, cv = cvs.getD i undef := ⟨_, rfl⟩
    have hmem : x ∈ X := by rw [hx]; exact getD_mem X i zIt hlt
    have hxB := hXB x hmem
    have hch := hX.ch i hlt
    rw [← hx, ← hcv] at hch
    have hmc := hch.maxLen
    obtain ⟨ca, ccap, hcve, _⟩ := hch.form
    subst hcve
    have hzg := hX.zget hlt
    rw [← hx, ← hcv] at hzg
    obtain ⟨f1, f2⟩ := firstE_step (itErr m) X zIt hlt hok1
    rw [← hx] at f1 f2
    repeat (with_reducible first | refine c_seq ?_ | refine c_block ?_ | refine c_skip ?_ | refine x_then ?_ | refine x_block ?_)
    refine c_reg ?_
    refine l_pure rfl (s_move  h0 ?_)
    refine l_pure rfl (s_move  h6 ?_)
    refine l_pure rfl (s_ixr (i := i)  rfl rfl (hX.sl.below hS.below) (by omega) (by first | omega | (simp; done) | (simp; omega)) si_26 ?_)
    refine l_read rfl (s_lde (v := aggIt x (.slice ca x.charges.length ccap)) (i := i) (zIt, undef)  rfl vi_53 (hX.sl.below hS.below) (by omega) rfl (by rw [hzg]; rfl) (.inl rfl) ?_)
    refine l_heavy rfl (s_alloc  vi_53 hS ?_)
    intro bi wz2 hS hBz2
    refine l_heavy rfl (s_sta (k := 0)  rfl rfl vi_53 hS rfl rfl rfl (Nat.le_of_ble_eq_true rfl) rfl ?_)
    intro wz3 hS
    refine l_nil ?_
    repeat (with_reducible first | refine c_seq ?_ | refine c_block ?_ | refine c_skip ?_ | refine x_then ?_ | refine x_block ?_)
    replace hS : St w _ [(bi, 53, encIt (x, .slice ca x.charges.length ccap))] := hS
    repeat (with_reducible first | refine c_seq ?_ | refine c_block ?_ | refine c_skip ?_ | refine x_then ?_ | refine x_block ?_)
    refine c_reg ?_
    refine l_pure rfl (s_fld  rfl fo_53_2 ?_)
    refine l_read rfl (s_ldo (k := 0)  rfl vi_51 hS rfl rfl rfl (.inr rfl) ?_)
    refine l_pure rfl (s_lenr  rfl (hch.below hS.below) ⟨_, Tryz.underlying51⟩ ?_)
    refine l_pure rfl (s_gtr  rfl rfl ?_)
    refine l_nil ?_
    repeat (with_reducible first | refine c_seq ?_ | refine c_block ?_ | refine c_skip ?_ | refine x_then ?_ | refine x_block ?_)
    by_cases hl8 : 8 < x.charges.length
    · refine c_yes rfl (decide_eq_true (by omega)) ?_
      repeat (with_reducible first | refine c_seq ?_ | refine c_block ?_ | refine c_skip ?_ | refine x_then ?_ | refine x_block ?_)
      have he : itErr m x = 2 := by unfold itErr; rw [if_pos hl8]
      repeat (with_reducible first | refine c_seq ?_ | refine c_block ?_ | refine c_skip ?_ | refine x_then ?_ | refine x_block ?_)
      refine c_reg ?_
      refine l_pure rfl (s_asg  rfl ?_)
      refine l_nil ?_
      repeat (with_reducible first | refine c_seq ?_ | refine c_block ?_ | refine c_skip ?_ | refine x_then ?_ | refine x_block ?_)
      refine c_ret ?_
      repeat (with_reducible first | refine x_then_ret ?_ | refine x_block_ret ?_)
      refine r_one rfl rfl ?_
      exact ⟨vi rfl (by rw [f2 (by rw [he]; decide), he]), hS.below⟩
    refine c_no rfl (decide_eq_false (by omega)) ?_
    repeat (with_reducible first | refine c_seq ?_ | refine c_block ?_ | refine c_skip ?_ | refine x_then ?_ | refine x_block ?_)
    refine c_cut1 (fun ρ w' => ρ 0 = vi_ ∧ ρ 1 = vo ∧ ρ 6 = .int .i64 i ∧ ρ 7 = .pointer (some ⟨bi, 0, none⟩) ∧ ρ 53 = .bool (decide (toQ x.price < 0 ∨ toQ x.costs < 0)) ∧ St w w' [(bi, 53, encIt (x, .slice ca x.charges.length ccap))]) ?_ ?_
    · repeat (with_reducible first | refine c_seq ?_ | refine c_block ?_ | refine c_skip ?_ | refine x_then ?_ | refine x_block ?_)
      by_cases hp : toQ x.price < 0
      · repeat (with_reducible first | refine c_seq ?_ | refine c_block ?_ | refine c_skip ?_ | refine x_then ?_ | refine x_block ?_)
        refine c_reg ?_
        refine l_pure rfl (s_fld  rfl fo_53_0 ?_)
        refine l_read rfl (s_ldo (k := 0)  rfl vi_39 hS rfl rfl rfl (.inl rfl) ?_)
        refine l_heavy rfl (s_call Tryz.call59 rfl (rSign_ok x.price _ hxB.1) ?_)
        rintro _ wc4 ⟨rfl, hBc4⟩
        replace hS := hS.grow hBc4
        refine l_pure rfl (s_lss  rfl rfl ?_)
        refine l_pure rfl (s_move  rfl ?_)
        refine l_no (gno_yes 48 (by kernel_rfl) rfl (decide_eq_true (sgnQ_neg.2 hp))) ?_
        refine l_no (gno_yes 48 (by kernel_rfl) rfl (decide_eq_true (sgnQ_neg.2 hp))) ?_
        refine l_no (gno_yes 48 (by kernel_rfl) rfl (decide_eq_true (sgnQ_neg.2 hp))) ?_
        refine l_no (gno_yes 48 (by kernel_rfl) rfl (decide_eq_true (sgnQ_neg.2 hp))) ?_
        refine l_pure rfl (s_pick (vb rfl (decide_eq_true (sgnQ_neg.2 hp))) rfl ?_)
        refine l_nil ?_
        repeat (with_reducible first | refine c_seq ?_ | refine c_block ?_ | refine c_skip ?_ | refine x_then ?_ | refine x_block ?_)
        exact ⟨_, rfl, h0, h1, h6, rfl, vb rfl (decide_eq_true (.inl hp)).symm, hS⟩
      · repeat (with_reducible first | refine c_seq ?_ | refine c_block ?_ | refine c_skip ?_ | refine x_then ?_ | refine x_block ?_)
        refine c_reg ?_
        refine l_pure rfl (s_fld  rfl fo_53_0 ?_)
        refine l_read rfl (s_ldo (k := 0)  rfl vi_39 hS rfl rfl rfl (.inl rfl) ?_)
        refine l_heavy rfl (s_call Tryz.call59 rfl (rSign_ok x.price _ hxB.1) ?_)
        rintro _ wc5 ⟨rfl, hBc5⟩
        replace hS := hS.grow hBc5
        refine l_pure rfl (s_lss  rfl rfl ?_)
        refine l_pure rfl (s_move  rfl ?_)
        refine l_pure (gd_yes 48 (by kernel_rfl) rfl (decide_eq_false (fun g => hp (sgnQ_neg.1 g)))) (s_fld  rfl fo_53_1 ?_)
        refine l_read (gd_yes 48 (by kernel_rfl) rfl (decide_eq_false (fun g => hp (sgnQ_neg.1 g)))) (s_ldo (k := 0)  rfl vi_39 hS rfl rfl rfl (.inl rfl) ?_)
        refine l_heavy (gd_yes 48 (by kernel_rfl) rfl (decide_eq_false (fun g => hp (sgnQ_neg.1 g)))) (s_call Tryz.call59 rfl (rSign_ok x.costs _ hxB.2.1) ?_)
        rintro _ wc6 ⟨rfl, hBc6⟩
        replace hS := hS.grow hBc6
        refine l_pure (gd_yes 48 (by kernel_rfl) rfl (decide_eq_false (fun g => hp (sgnQ_neg.1 g)))) (s_lss  rfl rfl ?_)
        refine l_pure rfl (s_pick (vb rfl (decide_eq_false (fun g => hp (sgnQ_neg.1 g)))) rfl ?_)
        refine l_nil ?_
        repeat (with_reducible first | refine c_seq ?_ | refine c_block ?_ | refine c_skip ?_ | refine x_then ?_ | refine x_block ?_)
        exact ⟨_, rfl, h0, h1, h6, rfl, vb rfl (by rw [decide_eq_decide, sgnQ_neg]; exact ⟨.inr, fun g => g.resolve_left hp⟩), hS⟩
    clear hS h0 h1 h6
    rintro ρ w3 ⟨h0, h1, h6, h7, h53, hS⟩
    repeat (with_reducible first | refine c_seq ?_ | refine c_block ?_ | refine c_skip ?_ | refine x_then ?_ | refine x_block ?_)
    by_cases hneg2 : toQ x.price < 0 ∨ toQ x.costs < 0
    · refine c_yes h53 (decide_eq_true hneg2) ?_
      repeat (with_reducible first | refine c_seq ?_ | refine c_block ?_ | refine c_skip ?_ | refine x_then ?_ | refine x_block ?_)
      have he : itErr m x = 7 := by unfold itErr; rw [if_neg hl8, if_pos hneg2]
      repeat (with_reducible first | refine c_seq ?_ | refine c_block ?_ | refine c_skip ?_ | refine x_then ?_ | refine x_block ?_)
      refine c_reg ?_
      refine l_pure rfl (s_asg  rfl ?_)
      refine l_nil ?_
      repeat (with_reducible first | refine c_seq ?_ | refine c_block ?_ | refine c_skip ?_ | refine x_then ?_ | refine x_block ?_)
      refine c_ret ?_
      repeat (with_reducible first | refine x_then_ret ?_ | refine x_block_ret ?_)
      refine r_one rfl rfl ?_
      exact ⟨vi rfl (by rw [f2 (by rw [he]; decide), he]), hS.below⟩
    refine c_no h53 (decide_eq_false hneg2) ?_
    repeat (with_reducible first | refine c_seq ?_ | refine c_block ?_ | refine c_skip ?_ | refine x_then ?_ | refine x_block ?_)
    have he : itErr m x = firstE (chErr m) x.charges := by unfold itErr; rw [if_neg hl8, if_neg hneg2]
    rw [he] at f1 f2
    repeat (with_reducible first | refine c_seq ?_ | refine c_block ?_ | refine c_skip ?_ | refine x_then ?_ | refine x_block ?_)
    refine c_reg ?_
    refine l_pure rfl (s_asg  rfl ?_)
    refine l_nil ?_
    repeat (with_reducible first | refine c_seq ?_ | refine c_skip ?_ | refine x_then ?_ | refine x_block ?_)
    refine c_cut1 (fun ρ w' => firstE (chErr m) x.charges = 0 ∧ ρ 0 = vi_ ∧ ρ 1 = vo ∧ ρ 6 = .int .i64 i ∧ St w w' []) ?_ ?_
    · repeat (with_reducible first | refine c_seq ?_ | refine c_block ?_ | refine c_skip ?_ | refine x_then ?_ | refine x_block ?_)
      refine c_loop (σ := Nat) (fun k ρ w' => k ≤ x.charges.length ∧ firstE (chErr m) (x.charges.take k) = 0 ∧ ρ 0 = vi_ ∧ ρ 1 = vo ∧ ρ 6 = .int .i64 i ∧ ρ 7 = .pointer (some ⟨bi, 0, none⟩) ∧ ρ 8 = .int .i64 k ∧ St w w' [(bi, 53, encIt (x, .slice ca x.charges.length ccap))]) (fun k => x.charges.length - k) 0
        ⟨Nat.zero_le _, rfl, h0, h1, h6, h7, rfl, hS⟩ ?_
      clear hS h0 h1 h6 h7 h53
      rintro k ρ w4 ⟨hk1, hok, h0, h1, h6, h7, h8, hS⟩
      repeat (with_reducible first | refine c_seq ?_ | refine c_block ?_ | refine c_skip ?_ | refine x_then ?_ | refine x_block ?_)
      refine c_reg ?_
      refine l_pure rfl (s_move  h8 ?_)
      refine l_pure rfl (s_fld  h7 fo_53_2 ?_)
      refine l_read rfl (s_ldo (k := 0)  rfl vi_51 hS rfl rfl rfl (.inr rfl) ?_)
      refine l_pure rfl (s_lenr  rfl (hch.below hS.below) ⟨_, Tryz.underlying51⟩ ?_)
      refine l_pure rfl (s_lss  rfl rfl ?_)
      refine l_nil ?_
      repeat (with_reducible first | refine c_seq ?_ | refine c_block ?_ | refine c_skip ?_ | refine x_then ?_ | refine x_block ?_)
      by_cases hk : k < x.charges.length
      · refine c_yes rfl (decide_eq_true (by omega)) ?_
        repeat (with_reducible first | refine c_seq ?_ | refine c_block ?_ | refine c_skip ?_ | refine x_then ?_ | refine x_block ?_)
        obtain ⟨c, hc⟩ : ∃ c, c = x.charges.getD k zCh := ⟨_, rfl⟩
        have hm2 : c ∈ x.charges := by rw [hc]; exact getD_mem x.charges k zCh hk
        have hcl : Lr c.limit ≤ MX := hxB.2.2 c hm2
        obtain ⟨e1, e2⟩ := firstE_step (chErr m) x.charges zCh hk hok
        rw [← hc] at e1 e2
        repeat (with_reducible first | refine c_seq ?_ | refine c_block ?_ | refine c_skip ?_ | refine x_then ?_ | refine x_block ?_)
        refine c_reg ?_
        refine l_pure rfl (s_fld  h7 fo_53_2 ?_)
        refine l_read rfl (s_ldo (k := 0)  rfl vi_51 hS rfl rfl rfl (.inr rfl) ?_)
        refine l_pure rfl (s_move  h8 ?_)
        refine l_pure rfl (s_ixr (i := k)  rfl rfl (hch.below hS.below) (by omega) (by first | omega | (simp; done) | (simp; omega)) si_51 ?_)
        refine l_read rfl (s_lde (i := k) zCh  rfl vi_64 (hch.below hS.below) (by first | omega | (simp; done) | (simp; omega)) rfl rfl (.inl rfl) ?_)
        refine l_heavy rfl (s_alloc  vi_64 hS ?_)
        intro bc wz7 hS hBz7
        refine l_heavy rfl (s_sta (k := 0)  rfl rfl vi_64 hS rfl rfl rfl (Nat.le_of_ble_eq_true rfl) rfl ?_)
        intro wz8 hS
        refine l_nil ?_
        repeat (with_reducible first | refine c_seq ?_ | refine c_block ?_ | refine c_skip ?_ | refine x_then ?_ | refine x_block ?_)
        rw [← hc] at hS
        replace hS : St w _ [(bc, 64, encCh c), (bi, 53, encIt (x, .slice ca x.charges.length ccap))] := hS
        refine c_cut1 (fun ρ w' => ρ 0 = vi_ ∧ ρ 1 = vo ∧ ρ 6 = .int .i64 i ∧ ρ 7 = .pointer (some ⟨bi, 0, none⟩) ∧ ρ 8 = .int .i64 k ∧ ρ 9 = .pointer (some ⟨bc, 0, none⟩) ∧ ρ 75 = .bool (decide (c.claim < 0 ∨ (m : Int) ≤ c.claim)) ∧ St w w' [(bc, 64, encCh c), (bi, 53, encIt (x, .slice ca x.charges.length ccap))]) ?_ ?_
        · repeat (with_reducible first | refine c_seq ?_ | refine c_block ?_ | refine c_skip ?_ | refine x_then ?_ | refine x_block ?_)
          by_cases hp : c.claim < 0
          · repeat (with_reducible first | refine c_seq ?_ | refine c_block ?_ | refine c_skip ?_ | refine x_then ?_ | refine x_block ?_)
            refine c_reg ?_
            refine l_pure rfl (s_fld  rfl fo_64_0 ?_)
            refine l_read rfl (s_ldo (k := 0)  rfl vi_3 hS rfl rfl rfl (.inr rfl) ?_)
            refine l_pure rfl (s_lss  rfl rfl ?_)
            refine l_pure rfl (s_move  rfl ?_)
            refine l_no (gno_yes 69 (by kernel_rfl) rfl (decide_eq_true hp)) ?_
            refine l_no (gno_yes 69 (by kernel_rfl) rfl (decide_eq_true hp)) ?_
            refine l_no (gno_yes 69 (by kernel_rfl) rfl (decide_eq_true hp)) ?_
            refine l_no (gno_yes 69 (by kernel_rfl) rfl (decide_eq_true hp)) ?_
            refine l_no (gno_yes 69 (by kernel_rfl) rfl (decide_eq_true hp)) ?_
            refine l_pure rfl (s_pick (vb rfl (decide_eq_true hp)) rfl ?_)
            refine l_nil ?_
            repeat (with_reducible first | refine c_seq ?_ | refine c_block ?_ | refine c_skip ?_ | refine x_then ?_ | refine x_block ?_)
            exact ⟨_, rfl, h0, h1, h6, h7, h8, rfl, vb rfl (decide_eq_true (.inl hp)).symm, hS⟩
          · repeat (with_reducible first | refine c_seq ?_ | refine c_block ?_ | refine c_skip ?_ | refine x_then ?_ | refine x_block ?_)
            refine c_reg ?_
            refine l_pure rfl (s_fld  rfl fo_64_0 ?_)
            refine l_read rfl (s_ldo (k := 0)  rfl vi_3 hS rfl rfl rfl (.inr rfl) ?_)
            refine l_pure rfl (s_lss  rfl rfl ?_)
            refine l_pure rfl (s_move  rfl ?_)
            refine l_pure (gd_yes 69 (by kernel_rfl) rfl (decide_eq_false hp)) (s_fld  rfl fo_64_0 ?_)
            refine l_read (gd_yes 69 (by kernel_rfl) rfl (decide_eq_false hp)) (s_ldo (k := 0)  rfl vi_3 hS rfl rfl rfl (.inr rfl) ?_)
            refine l_pure (gd_yes 69 (by kernel_rfl) rfl (decide_eq_false hp)) (s_move  h1 ?_)
            refine l_pure (gd_yes 69 (by kernel_rfl) rfl (decide_eq_false hp)) (s_lenr  rfl (ho.below hS.below) ⟨_, Tryz.underlying24⟩ ?_)
            refine l_pure (gd_yes 69 (by kernel_rfl) rfl (decide_eq_false hp)) (s_geq  rfl rfl ?_)
            refine l_pure rfl (s_pick (vb rfl (decide_eq_false hp)) rfl ?_)
            refine l_nil ?_
            repeat (with_reducible first | refine c_seq ?_ | refine c_block ?_ | refine c_skip ?_ | refine x_then ?_ | refine x_block ?_)
            exact ⟨_, rfl, h0, h1, h6, h7, h8, rfl, vb rfl (by rw [decide_eq_decide]; omega), hS⟩
        clear hS h0 h1 h6 h7 h8
        rintro ρ w5 ⟨h0, h1, h6, h7, h8, h9, h75, hS⟩
        repeat (with_reducible first | refine c_seq ?_ | refine c_block ?_ | refine c_skip ?_ | refine x_then ?_ | refine x_block ?_)
        by_cases hr : c.claim < 0 ∨ (m : Int) ≤ c.claim
        · refine c_yes h75 (decide_eq_true hr) ?_
          repeat (with_reducible first | refine c_seq ?_ | refine c_block ?_ | refine c_skip ?_ | refine x_then ?_ | refine x_block ?_)
          have he1 : chErr m c = 1 := by unfold chErr; rw [if_pos hr]
          repeat (with_reducible first | refine c_seq ?_ | refine c_block ?_ | refine c_skip ?_ | refine x_then ?_ | refine x_block ?_)
          refine c_reg ?_
          refine l_pure rfl (s_asg  rfl ?_)
          refine l_nil ?_
          repeat (with_reducible first | refine c_seq ?_ | refine c_block ?_ | refine c_skip ?_ | refine x_then ?_ | refine x_block ?_)
          refine c_ret ?_
          repeat (with_reducible first | refine x_then_ret ?_ | refine x_block_ret ?_)
          refine r_one rfl rfl ?_
          exact ⟨vi rfl (by rw [f2 (by rw [e2 (by rw [he1]; decide), he1]; decide), e2 (by rw [he1]; decide), he1]), hS.below⟩
        refine c_no h75 (decide_eq_false hr) ?_
        repeat (with_reducible first | refine c_seq ?_ | refine c_block ?_ | refine c_skip ?_ | refine x_then ?_ | refine x_block ?_)
        refine c_cut1 (fun ρ w' => ρ 0 = vi_ ∧ ρ 1 = vo ∧ ρ 6 = .int .i64 i ∧ ρ 7 = .pointer (some ⟨bi, 0, none⟩) ∧ ρ 8 = .int .i64 k ∧ ρ 83 = .bool (decide (c.lim = true ∧ toQ c.limit < 0)) ∧ St w w' [(bc, 64, encCh c), (bi, 53, encIt (x, .slice ca x.charges.length ccap))]) ?_ ?_
        · repeat (with_reducible first | refine c_seq ?_ | refine c_block ?_ | refine c_skip ?_ | refine x_then ?_ | refine x_block ?_)
          by_cases hp : c.lim = true
          · repeat (with_reducible first | refine c_seq ?_ | refine c_block ?_ | refine c_skip ?_ | refine x_then ?_ | refine x_block ?_)
            refine c_reg ?_
            refine l_pure rfl (s_fld  h9 fo_64_2 ?_)
            refine l_read rfl (s_ldo (k := 0)  rfl vi_4 hS rfl rfl rfl (.inr rfl) ?_)
            refine l_pure rfl (s_move  rfl ?_)
            refine l_pure (gd_yes 78 (by kernel_rfl) rfl hp) (s_fld  h9 fo_64_3 ?_)
            refine l_read (gd_yes 78 (by kernel_rfl) rfl hp) (s_ldo (k := 0)  rfl vi_39 hS rfl rfl rfl (.inl rfl) ?_)
            refine l_heavy (gd_yes 78 (by kernel_rfl) rfl hp) (s_call Tryz.call59 rfl (rSign_ok c.limit _ hcl) ?_)
            rintro _ wc9 ⟨rfl, hBc9⟩
            replace hS := hS.grow hBc9
            refine l_pure (gd_yes 78 (by kernel_rfl) rfl hp) (s_lss  rfl rfl ?_)
            refine l_pure rfl (s_pick (vb rfl hp) rfl ?_)
            refine l_nil ?_
            repeat (with_reducible first | refine c_seq ?_ | refine c_block ?_ | refine c_skip ?_ | refine x_then ?_ | refine x_block ?_)
            exact ⟨_, rfl, h0, h1, h6, h7, h8, vb rfl (by rw [decide_eq_decide, sgnQ_neg]; exact ⟨fun g => ⟨hp, g⟩, fun g => g.2⟩), hS⟩
          · repeat (with_reducible first | refine c_seq ?_ | refine c_block ?_ | refine c_skip ?_ | refine x_then ?_ | refine x_block ?_)
            refine c_reg ?_
            refine l_pure rfl (s_fld  h9 fo_64_2 ?_)
            refine l_read rfl (s_ldo (k := 0)  rfl vi_4 hS rfl rfl rfl (.inr rfl) ?_)
            refine l_pure rfl (s_move  rfl ?_)
            refine l_no (gno_yes 78 (by kernel_rfl) rfl (show c.lim = false from Bool.eq_false_iff.2 hp)) ?_
            refine l_no (gno_yes 78 (by kernel_rfl) rfl (show c.lim = false from Bool.eq_false_iff.2 hp)) ?_
            refine l_no (gno_yes 78 (by kernel_rfl) rfl (show c.lim = false from Bool.eq_false_iff.2 hp)) ?_
            refine l_no (gno_yes 78 (by kernel_rfl) rfl (show c.lim = false from Bool.eq_false_iff.2 hp)) ?_
            refine l_pure rfl (s_pick (vb rfl (show c.lim = false from Bool.eq_false_iff.2 hp)) rfl ?_)
            refine l_nil ?_
            repeat (with_reducible first | refine c_seq ?_ | refine c_block ?_ | refine c_skip ?_ | refine x_then ?_ | refine x_block ?_)
            exact ⟨_, rfl, h0, h1, h6, h7, h8, vb rfl (decide_eq_false (fun g => hp g.1)).symm, hS⟩
        clear hS h0 h1 h6 h7 h8 h9 h75
        rintro ρ w6 ⟨h0, h1, h6, h7, h8, h83, hS⟩
        repeat (with_reducible first | refine c_seq ?_ | refine c_block ?_ | refine c_skip ?_ | refine x_then ?_ | refine x_block ?_)
        by_cases hlm : c.lim = true ∧ toQ c.limit < 0
        · refine c_yes h83 (decide_eq_true hlm) ?_
          repeat (with_reducible first | refine c_seq ?_ | refine c_block ?_ | refine c_skip ?_ | refine x_then ?_ | refine x_block ?_)
          have he1 : chErr m c = 7 := by unfold chErr; rw [if_neg hr, if_pos hlm]
          repeat (with_reducible first | refine c_seq ?_ | refine c_block ?_ | refine c_skip ?_ | refine x_then ?_ | refine x_block ?_)
          refine c_reg ?_
          refine l_pure rfl (s_asg  rfl ?_)
          refine l_nil ?_
          repeat (with_reducible first | refine c_seq ?_ | refine c_block ?_ | refine c_skip ?_ | refine x_then ?_ | refine x_block ?_)
          refine c_ret ?_
          repeat (with_reducible first | refine x_then_ret ?_ | refine x_block_ret ?_)
          refine r_one rfl rfl ?_
          exact ⟨vi rfl (by rw [f2 (by rw [e2 (by rw [he1]; decide), he1]; decide), e2 (by rw [he1]; decide), he1]), hS.below⟩
        refine c_no h83 (decide_eq_false hlm) ?_
        repeat (with_reducible first | refine c_seq ?_ | refine c_block ?_ | refine c_skip ?_ | refine x_then ?_ | refine x_block ?_)
        have he1 : chErr m c = 0 := by unfold chErr; rw [if_neg hr, if_neg hlm]
        repeat (with_reducible first | refine c_seq ?_ | refine c_block ?_ | refine c_skip ?_ | refine x_then ?_ | refine x_block ?_)
        refine c_reg ?_
        refine l_pure rfl (s_move  h8 ?_)
        refine l_pure rfl (s_add  rfl rfl (IntWalk.i64_in _ (by omega)) ?_)
        refine l_pure rfl (s_asg  rfl ?_)
        refine l_nil ?_
        repeat (with_reducible first | refine c_seq ?_ | refine c_block ?_ | refine c_skip ?_ | refine x_then ?_ | refine x_block ?_)
        exact ⟨k + 1, _, rfl, ⟨hk, e1 he1, h0, h1, h6, h7, vi rfl (by omega), hS.drop (List.sublist_cons_self _ _)⟩, by omega⟩
      · refine c_no rfl (decide_eq_false (by omega)) ?_
        repeat (with_reducible first | refine c_seq ?_ | refine c_block ?_ | refine c_skip ?_ | refine x_then ?_ | refine x_block ?_)
        refine c_exit ?_
        repeat (with_reducible first | refine x_then_exit ?_ | refine x_block_exit ?_ | refine x_block_pass rfl ?_)
        repeat (with_reducible first | refine c_seq ?_ | refine c_block ?_ | refine c_skip ?_ | refine x_then ?_ | refine x_block ?_)
        obtain rfl : k = x.charges.length := by omega
        rw [List.take_length] at hok
        exact ⟨_, rfl, hok, h0, h1, h6, hS.drop (List.nil_sublist _)⟩
    clear hS h0 h1 h6 h7 h53
    rintro ρ w7 ⟨hok2, h0, h1, h6, hS⟩
    repeat (with_reducible first | refine c_seq ?_ | refine c_block ?_ | refine c_skip ?_ | refine x_then ?_ | refine x_block ?_)
    refine c_reg ?_
    refine l_pure rfl (s_move  h6 ?_)
    refine l_pure rfl (s_add  rfl rfl (IntWalk.i64_in _ (by omega)) ?_)
    refine l_pure rfl (s_asg  rfl ?_)
    refine l_nil ?_
    repeat (with_reducible first | refine c_seq ?_ | refine c_block ?_ | refine c_skip ?_ | refine x_then ?_ | refine x_block ?_)
    exact ⟨i + 1, _, rfl, ⟨hlt, f1 hok2, h0, h1, vi rfl (by omega), hS⟩, by omega⟩
  · refine c_no rfl (decide_eq_false (by omega)) ?_
    repeat (with_reducible first | refine c_seq ?_ | refine c_block ?_ | refine c_skip ?_ | refine x_then ?_ | refine x_block ?_)
    refine c_exit ?_
    repeat (with_reducible first | refine x_then_exit ?_ | refine x_block_exit ?_ | refine x_block_pass rfl ?_)
    repeat (with_reducible first | refine c_seq ?_ | refine c_block ?_ | refine c_skip ?_ | refine x_then ?_ | refine x_block ?_)
    obtain rfl : i = X.length := by omega
    rw [List.take_length] at hok1
    repeat (with_reducible first | refine c_seq ?_ | refine c_block ?_ | refine c_skip ?_ | refine x_then ?_ | refine x_block ?_)
    refine c_reg ?_
    refine l_pure rfl (s_asg  rfl ?_)
    refine l_nil ?_
    repeat (with_reducible first | refine c_seq ?_ | refine c_block ?_ | refine c_skip ?_ | refine x_then ?_ | refine x_block ?_)
    refine c_ret ?_
    repeat (with_reducible first | refine x_then_ret ?_ | refine x_block_ret ?_)
    refine r_one rfl rfl ?_
    exact ⟨vi rfl hok1.symm, hS.below⟩

theorem positive_ok (r : RR) (w : World) (hr : Lr r + 1 ≤ MX) :
    Ret Tryz.prog 52 #[aggR r] w fun v w' => v = aggR (ofQ (maxQ (toQ r) 0)) ∧ Below w.heap.size w w' := by
  have hz : toQ zRR = 0 := by rw [← toQ_ofQ 0, ofQ_zero]; rfl
  have hzl : Lr zRR = 1 := by decide
  have hS := St.init w
  refine enter Tryz.func52 rfl Tryz.ntmps52 rfl ?_
  repeat (with_reducible first | refine c_seq ?_ | refine c_block ?_ | refine c_skip ?_ | refine x_then ?_ | refine x_block ?_)
  refine c_reg ?_
  refine l_heavy rfl (s_box (new := encR r)  rfl rfl hS ?_)
  intro b1 wz2 hS hBz2
  refine l_heavy rfl (s_alloc  vi_39 hS ?_)
  intro b3 wz4 hS hBz4
  refine l_nil ?_
  repeat (with_reducible first | refine c_seq ?_ | refine c_block ?_ | refine c_skip ?_ | refine x_then ?_ | refine x_block ?_)
  refine c_reg ?_
  refine l_read rfl (s_ldo (k := 1)  rfl vi_39 hS rfl rfl rfl (.inl rfl) ?_)
  refine l_pure rfl (s_build  rfl bz_39 ?_)
  refine l_heavy rfl (s_call Tryz.call85 rfl (QMax_ok r zRR _ (by omega)) ?_)
  rintro _ wc5 ⟨rfl, hBc5⟩
  replace hS := hS.grow hBc5
  refine l_heavy rfl (s_sta (k := 0)  rfl rfl vi_39 hS rfl rfl rfl (Nat.le_of_ble_eq_true rfl) rfl ?_)
  intro wz6 hS
  refine l_nil ?_
  repeat (with_reducible first | refine c_seq ?_ | refine c_block ?_ | refine c_skip ?_ | refine x_then ?_ | refine x_block ?_)
  refine c_ret ?_
  repeat (with_reducible first | refine x_then_ret ?_ | refine x_block_ret ?_)
  refine r_cell (k := 0) rfl rfl vi_39 hS rfl rfl ?_
  rw [hz]
  exact ⟨rfl, hS.below⟩
theorem posQ_max (q : Rat) : posQ q = maxQ q 0 := by
  unfold posQ maxQ
  by_cases h : q < 0
  · rw [if_pos h, if_neg (Rat.not_le.2 h)]
  · rw [if_neg h, if_pos (Rat.not_lt.1 h)]
theorem L_max (p q : Rat) : L (maxQ p q) ≤ max (L p) (L q) := by unfold maxQ; split <;> omega
theorem L_min (p q : Rat) : L (minQ p q) ≤ max (L p) (L q) := by unfold minQ; split <;> omega
theorem L_max0 (p : Rat) : L (maxQ p 0) ≤ L p := by
  have h1 := L_max p 0
  have h2 := L_pos p
  rw [L_zero] at h1
  omega
/-- The proceeds of an item. -/
def procQ (x : It) : Rat := maxQ (maxQ (toQ x.price) 0 - maxQ (toQ x.costs) 0) 0
theorem L_proc (x : It) : L (procQ x) ≤ Lr x.price + Lr x.costs + 1 := by
  unfold procQ
  have h1 := L_max0 (maxQ (toQ x.price) 0 - maxQ (toQ x.costs) 0)
  have h2 := L_sub (maxQ (toQ x.price) 0) (maxQ (toQ x.costs) 0)
  have h3 := L_max0 (toQ x.price)
  have h4 := L_max0 (toQ x.costs)
  have h5 := L_toQ x.price
  have h6 := L_toQ x.costs
  omega
theorem Proceeds_ok (x : It) (ca : Option Addr) (n cap : Nat) (w : World) (hr : Lr x.price + Lr x.costs + 2 ≤ MX) :
    Ret Tryz.prog 21 #[aggIt x (.slice ca n cap)] w fun v w' => v = aggR (ofQ (procQ x)) ∧ Below w.heap.size w w' := by
  have h1 := L_max0 (toQ x.price)
  have h2 := L_max0 (toQ x.costs)
  have h3 := L_toQ x.price
  have h4 := L_toQ x.costs
  have h5 := L_sub (maxQ (toQ x.price) 0) (maxQ (toQ x.costs) 0)
  have hS := St.init w
  refine enter Tryz.func21 rfl Tryz.ntmps21 rfl ?_
  repeat (with_reducible first | refine c_seq ?_ | refine c_block ?_ | refine c_skip ?_ | refine x_then ?_ | refine x_block ?_)
  refine c_reg ?_
  refine l_heavy rfl (s_box (new := encIt (x, .slice ca n cap))  rfl rfl hS ?_)
  intro b1 wz2 hS hBz2
  refine l_heavy rfl (s_alloc  vi_39 hS ?_)
  intro b3 wz4 hS hBz4
  refine l_nil ?_
  repeat (with_reducible first | refine c_seq ?_ | refine c_block ?_ | refine c_skip ?_ | refine x_then ?_ | refine x_block ?_)
  refine c_draw [(0, .pure), (1, .read), (3, .pure), (4, .read), (2, .grow), (5, .grow), (6, .grow), (7, .grow), (8, .free)] (by kernel_rfl) (by kernel_rfl) hS ?_
  intro wz5 hS hBz5
  refine w_pure rfl rfl (s_fld  rfl fo_53_0 ?_)
  refine w_read rfl rfl (s_ldo (k := 1)  rfl vi_39 hS rfl rfl rfl (.inl rfl) ?_)
  refine w_pure rfl rfl (s_fld  rfl fo_53_1 ?_)
  refine w_read rfl rfl (s_ldo (k := 1)  rfl vi_39 hS rfl rfl rfl (.inl rfl) ?_)
  refine w_grow rfl rfl (s_call Tryz.call52 rfl (positive_ok x.price _ (by omega)) ?_)
  rintro _ wc6 ⟨rfl, hBc6⟩
  replace hS := hS.grow hBc6
  refine ⟨hBc6, ?_⟩
  refine w_grow rfl rfl (s_call Tryz.call52 rfl (positive_ok x.costs _ (by omega)) ?_)
  rintro _ wc7 ⟨rfl, hBc7⟩
  replace hS := hS.grow hBc7
  refine ⟨hBc7, ?_⟩
  refine w_grow rfl rfl (s_call Tryz.call35 rfl (QSubtract_ok (ofQ (maxQ (toQ x.price) 0)) (ofQ (maxQ (toQ x.costs) 0)) _ (by rw [Lr_ofQ, Lr_ofQ]; omega)) ?_)
  rintro _ wc8 ⟨rfl, hBc8⟩
  replace hS := hS.grow hBc8
  refine ⟨hBc8, ?_⟩
  rw [toQ_ofQ, toQ_ofQ]
  refine w_grow rfl rfl (s_call Tryz.call52 rfl (positive_ok (ofQ (maxQ (toQ x.price) 0 - maxQ (toQ x.costs) 0)) _ (by rw [Lr_ofQ]; omega)) ?_)
  rintro _ wc9 ⟨rfl, hBc9⟩
  replace hS := hS.grow hBc9
  refine ⟨hBc9, ?_⟩
  refine w_free rfl rfl (s_sta (k := 0)  rfl rfl vi_39 hS rfl rfl rfl (Nat.le_of_ble_eq_true rfl) rfl ?_)
  intro wz10 hS
  refine w_end ?_
  repeat (with_reducible first | refine c_seq ?_ | refine c_block ?_ | refine c_skip ?_ | refine x_then ?_ | refine x_block ?_)
  refine c_ret ?_
  repeat (with_reducible first | refine x_then_ret ?_ | refine x_block_ret ?_)
  refine r_cell (k := 0) rfl rfl vi_39 hS rfl rfl ?_
  rw [toQ_ofQ]
  exact ⟨rfl, hS.below⟩

theorem rpositive_ok (r : RR) (w : World) (hr : Lr r ≤ MX) :
    Ret Tryz.prog 64 #[aggR r] w fun v w' => v = aggR (ofQ (maxQ (toQ r) 0)) ∧ Below w.heap.size w w' := by
  have hS := St.init w
  refine enter Tryz.func64 rfl Tryz.ntmps64 rfl ?_
  repeat (with_reducible first | refine c_seq ?_ | refine c_block ?_ | refine c_skip ?_ | refine x_then ?_ | refine x_block ?_)
  refine c_reg ?_
  refine l_heavy rfl (s_box (new := encR r)  rfl rfl hS ?_)
  intro b1 wz2 hS hBz2
  refine l_heavy rfl (s_alloc  vi_39 hS ?_)
  intro b3 wz4 hS hBz4
  refine l_nil ?_
  repeat (with_reducible first | refine c_seq ?_ | refine c_block ?_ | refine c_skip ?_ | refine x_then ?_ | refine x_block ?_)
  refine c_reg ?_
  refine l_read rfl (s_ldo (k := 1)  rfl vi_39 hS rfl rfl rfl (.inl rfl) ?_)
  refine l_heavy rfl (s_call Tryz.call37 rfl (rFix_ok r _ hr) ?_)
  rintro _ wc5 ⟨rfl, hBc5⟩
  replace hS := hS.grow hBc5
  refine l_heavy rfl (s_call Tryz.call63 rfl (rPositive_ok (toQ r) _) ?_)
  rintro _ wc6 ⟨rfl, hBc6⟩
  replace hS := hS.grow hBc6
  refine l_heavy rfl (s_sta (k := 0)  rfl rfl vi_39 hS rfl rfl rfl (Nat.le_of_ble_eq_true rfl) rfl ?_)
  intro wz7 hS
  refine l_nil ?_
  repeat (with_reducible first | refine c_seq ?_ | refine c_block ?_ | refine c_skip ?_ | refine x_then ?_ | refine x_block ?_)
  refine c_ret ?_
  repeat (with_reducible first | refine x_then_ret ?_ | refine x_block_ret ?_)
  refine r_cell (k := 0) rfl rfl vi_39 hS rfl rfl ?_
  rw [posQ_max]
  exact ⟨rfl, hS.below⟩
theorem rProceeds_ok (x : It) (ca : Option Addr) (n cap : Nat) (w : World) (hr : Lr x.price + Lr x.costs + 2 ≤ MX) :
    Ret Tryz.prog 36 #[aggIt x (.slice ca n cap)] w fun v w' => v = aggR (ofQ (procQ x)) ∧ Below w.heap.size w w' := by
  have h1 := L_max0 (toQ x.price)
  have h2 := L_max0 (toQ x.costs)
  have h3 := L_toQ x.price
  have h4 := L_toQ x.costs
  have hS := St.init w
  refine enter Tryz.func36 rfl Tryz.ntmps36 rfl ?_
  repeat (with_reducible first | refine c_seq ?_ | refine c_block ?_ | refine c_skip ?_ | refine x_then ?_ | refine x_block ?_)
  refine c_reg ?_
  refine l_heavy rfl (s_box (new := encIt (x, .slice ca n cap))  rfl rfl hS ?_)
  intro b1 wz2 hS hBz2
  refine l_heavy rfl (s_alloc  vi_39 hS ?_)
  intro b3 wz4 hS hBz4
  refine l_nil ?_
  repeat (with_reducible first | refine c_seq ?_ | refine c_block ?_ | refine c_skip ?_ | refine x_then ?_ | refine x_block ?_)
  refine c_draw [(0, .pure), (1, .read), (3, .pure), (4, .read), (2, .grow), (5, .grow), (6, .grow), (7, .grow), (8, .free)] (by kernel_rfl) (by kernel_rfl) hS ?_
  intro wz5 hS hBz5
  refine w_pure rfl rfl (s_fld  rfl fo_53_0 ?_)
  refine w_read rfl rfl (s_ldo (k := 1)  rfl vi_39 hS rfl rfl rfl (.inl rfl) ?_)
  refine w_pure rfl rfl (s_fld  rfl fo_53_1 ?_)
  refine w_read rfl rfl (s_ldo (k := 1)  rfl vi_39 hS rfl rfl rfl (.inl rfl) ?_)
  refine w_grow rfl rfl (s_call Tryz.call64 rfl (rpositive_ok x.price _ (by omega)) ?_)
  rintro _ wc6 ⟨rfl, hBc6⟩
  replace hS := hS.grow hBc6
  refine ⟨hBc6, ?_⟩
  refine w_grow rfl rfl (s_call Tryz.call64 rfl (rpositive_ok x.costs _ (by omega)) ?_)
  rintro _ wc7 ⟨rfl, hBc7⟩
  replace hS := hS.grow hBc7
  refine ⟨hBc7, ?_⟩
  refine w_grow rfl rfl (s_call Tryz.call33 rfl (rMinus_ok (maxQ (toQ x.price) 0) (maxQ (toQ x.costs) 0) _ (by omega)) ?_)
  rintro _ wc8 ⟨rfl, hBc8⟩
  replace hS := hS.grow hBc8
  refine ⟨hBc8, ?_⟩
  refine w_grow rfl rfl (s_call Tryz.call63 rfl (rPositive_ok (maxQ (toQ x.price) 0 - maxQ (toQ x.costs) 0) _) ?_)
  rintro _ wc9 ⟨rfl, hBc9⟩
  replace hS := hS.grow hBc9
  refine ⟨hBc9, ?_⟩
  refine w_free rfl rfl (s_sta (k := 0)  rfl rfl vi_39 hS rfl rfl rfl (Nat.le_of_ble_eq_true rfl) rfl ?_)
  intro wz10 hS
  refine w_end ?_
  repeat (with_reducible first | refine c_seq ?_ | refine c_block ?_ | refine c_skip ?_ | refine x_then ?_ | refine x_block ?_)
  refine c_ret ?_
  repeat (with_reducible first | refine x_then_ret ?_ | refine x_block_ret ?_)
  refine r_cell (k := 0) rfl rfl vi_39 hS rfl rfl ?_
  rw [posQ_max]
  exact ⟨rfl, hS.below⟩

/-- Has a claim a charge on an item? -/
def secures (x : It) (c : Int) : Bool := x.charges.any fun k => decide (k.claim = c)
theorem secures_take (l : List Ch) (c : Int) {i : Nat} (hi : i < l.length) (h : (l.take i).any (fun k => decide (k.claim = c)) = false) :
    ((l.getD i zCh).claim ≠ c → (l.take (i + 1)).any (fun k => decide (k.claim = c)) = false) ∧ ((l.getD i zCh).claim = c → l.any (fun k => decide (k.claim = c)) = true) := by
  have ht := take_succ' l i zCh hi
  constructor
  · intro h1
    rw [ht, List.any_append, h]
    simpa using h1
  · intro h1
    rw [List.any_eq_true]
    exact ⟨_, getD_mem l i zCh hi, decide_eq_true h1⟩
theorem Secures_ok (x : It) (cv : Value) (c : Int) (w : World) (hch : Sl encCh 6 w cv x.charges) :
    Ret Tryz.prog 23 #[aggIt x cv, .int .i64 c] w fun v w' => v = .bool (secures x c) ∧ Below w.heap.size w w' := by
  have hmc := hch.maxLen
  obtain ⟨ca, ccap, hcve, _⟩ := hch.form
  subst hcve
  have hS := St.init w
  refine enter Tryz.func23 rfl Tryz.ntmps23 rfl ?_
  repeat (with_reducible first | refine c_seq ?_ | refine c_block ?_ | refine c_skip ?_ | refine x_then ?_ | refine x_block ?_)
  refine c_reg ?_
  refine l_heavy rfl (s_box (new := encIt (x, .slice ca x.charges.length ccap))  rfl rfl hS ?_)
  intro b1 wz2 hS hBz2
  refine l_pure rfl (s_asg  rfl ?_)
  refine l_nil ?_
  repeat (with_reducible first | refine c_seq ?_ | refine c_block ?_ | refine c_skip ?_ | refine x_then ?_ | refine x_block ?_)
  refine c_reg ?_
  refine l_pure rfl (s_asg  rfl ?_)
  refine l_nil ?_
  repeat (with_reducible first | refine c_seq ?_ | refine c_block ?_ | refine c_skip ?_ | refine x_then ?_ | refine x_block ?_)
  refine c_loop (σ := Nat) (fun k ρ w' => k ≤ x.charges.length ∧ (x.charges.take k).any (fun k => decide (k.claim = c)) = false ∧ ρ 1 = .int .i64 c ∧ ρ 2 = .pointer (some ⟨b1, 0, none⟩) ∧ ρ 5 = .int .i64 k ∧ St w w' [(b1, 53, encIt (x, .slice ca x.charges.length ccap))]) (fun k => x.charges.length - k) 0
    ⟨Nat.zero_le _, rfl, rfl, rfl, rfl, hS⟩ ?_
  clear hS
  rintro k ρ w2 ⟨hk1, hok, h1, h2, h5, hS⟩
  repeat (with_reducible first | refine c_seq ?_ | refine c_block ?_ | refine c_skip ?_ | refine x_then ?_ | refine x_block ?_)
  refine c_reg ?_
  refine l_pure rfl (s_move  h5 ?_)
  refine l_pure rfl (s_fld  h2 fo_53_2 ?_)
  refine l_read rfl (s_ldo (k := 0)  rfl vi_51 hS rfl rfl rfl (.inr rfl) ?_)
  refine l_pure rfl (s_lenr  rfl (hch.below hS.below) ⟨_, Tryz.underlying51⟩ ?_)
  refine l_pure rfl (s_lss  rfl rfl ?_)
  refine l_nil ?_
  repeat (with_reducible first | refine c_seq ?_ | refine c_block ?_ | refine c_skip ?_ | refine x_then ?_ | refine x_block ?_)
  by_cases hk : k < x.charges.length
  · refine c_yes rfl (decide_eq_true (by omega)) ?_
    repeat (with_reducible first | refine c_seq ?_ | refine c_block ?_ | refine c_skip ?_ | refine x_then ?_ | refine x_block ?_)
    obtain ⟨e1, e2⟩ := secures_take x.charges c hk hok
    repeat (with_reducible first | refine c_seq ?_ | refine c_block ?_ | refine c_skip ?_ | refine x_then ?_ | refine x_block ?_)
    refine c_reg ?_
    refine l_pure rfl (s_fld  h2 fo_53_2 ?_)
    refine l_read rfl (s_ldo (k := 0)  rfl vi_51 hS rfl rfl rfl (.inr rfl) ?_)
    refine l_pure rfl (s_move  h5 ?_)
    refine l_pure rfl (s_ixr (i := k)  rfl rfl (hch.below hS.below) (by omega) (by first | omega | (simp; done) | (simp; omega)) si_51 ?_)
    refine l_pure rfl (s_fldr  rfl (spot_el (hch.below hS.below) (fun _ => rfl) (by decide) (by first | omega | (simp; done) | (simp; omega))) fo_64_0 ?_)
    refine l_read rfl (s_ldfe (i := k) (off := 0) zCh  rfl vi_3 (hch.below hS.below) (fun _ => rfl) (by decide) (by first | omega | (simp; done) | (simp; omega)) rfl rfl (.inr rfl) ?_)
    refine l_pure rfl (s_move  h1 ?_)
    refine l_pure rfl (s_eql  rfl rfl ?_)
    refine l_nil ?_
    repeat (with_reducible first | refine c_seq ?_ | refine c_block ?_ | refine c_skip ?_ | refine x_then ?_ | refine x_block ?_)
    by_cases he : (x.charges.getD k zCh).claim = c
    · refine c_yes rfl (decide_eq_true he) ?_
      repeat (with_reducible first | refine c_seq ?_ | refine c_block ?_ | refine c_skip ?_ | refine x_then ?_ | refine x_block ?_)
      refine c_reg ?_
      refine l_pure rfl (s_asg  rfl ?_)
      refine l_nil ?_
      repeat (with_reducible first | refine c_seq ?_ | refine c_block ?_ | refine c_skip ?_ | refine x_then ?_ | refine x_block ?_)
      refine c_ret ?_
      repeat (with_reducible first | refine x_then_ret ?_ | refine x_block_ret ?_)
      refine r_one rfl rfl ?_
      exact ⟨congrArg Value.bool (e2 he).symm, hS.below⟩
    · refine c_no rfl (decide_eq_false he) ?_
      repeat (with_reducible first | refine c_seq ?_ | refine c_block ?_ | refine c_skip ?_ | refine x_then ?_ | refine x_block ?_)
      refine c_reg ?_
      refine l_pure rfl (s_move  h5 ?_)
      refine l_pure rfl (s_add  rfl rfl (IntWalk.i64_in _ (by omega)) ?_)
      refine l_pure rfl (s_asg  rfl ?_)
      refine l_nil ?_
      repeat (with_reducible first | refine c_seq ?_ | refine c_block ?_ | refine c_skip ?_ | refine x_then ?_ | refine x_block ?_)
      exact ⟨k + 1, _, rfl, ⟨hk, e1 he, h1, h2, vi rfl (by omega), hS⟩, by omega⟩
  · refine c_no rfl (decide_eq_false (by omega)) ?_
    repeat (with_reducible first | refine c_seq ?_ | refine c_block ?_ | refine c_skip ?_ | refine x_then ?_ | refine x_block ?_)
    refine c_exit ?_
    repeat (with_reducible first | refine x_then_exit ?_ | refine x_block_exit ?_ | refine x_block_pass rfl ?_)
    repeat (with_reducible first | refine c_seq ?_ | refine c_block ?_ | refine c_skip ?_ | refine x_then ?_ | refine x_block ?_)
    obtain rfl : k = x.charges.length := by omega
    rw [List.take_length] at hok
    repeat (with_reducible first | refine c_seq ?_ | refine c_block ?_ | refine c_skip ?_ | refine x_then ?_ | refine x_block ?_)
    refine c_reg ?_
    refine l_pure rfl (s_asg  rfl ?_)
    refine l_nil ?_
    repeat (with_reducible first | refine c_seq ?_ | refine c_block ?_ | refine c_skip ?_ | refine x_then ?_ | refine x_block ?_)
    refine c_ret ?_
    repeat (with_reducible first | refine x_then_ret ?_ | refine x_block_ret ?_)
    refine r_one rfl rfl ?_
    exact ⟨congrArg Value.bool hok.symm, hS.below⟩
end Go.Proofs.YtfocimgpahjkmaaGreatDoor
namespace Go.Proofs.YtfocimgpahjkmaaGreatDoor
open Go Go.RowKit Go.Sx

def sumIf (n : Nat) (p : Nat → Bool) (f : Nat → Rat) : Rat :=
  match n with
  | 0 => 0
  | n + 1 => sumIf n p f + (if p n = true then f n else 0)
theorem sumIf_congr {n : Nat} {p q : Nat → Bool} {f g : Nat → Rat} (h : ∀ i, i < n → p i = q i ∧ f i = g i) : sumIf n p f = sumIf n q g := by
  induction n with
  | zero => rfl
  | succ n ih =>
    rw [sumIf, sumIf, ih (fun i hi => h i (by omega)), (h n (by omega)).1, (h n (by omega)).2]
theorem sumIf_none (n : Nat) (f : Nat → Rat) : sumIf n (fun _ => false) f = 0 := by
  induction n with
  | zero => rfl
  | succ n ih => rw [sumIf, ih]; simp [Rat.add_zero]
theorem L_sumIf (n : Nat) (p : Nat → Bool) (f : Nat → Rat) (K : Nat) (h : ∀ i, i < n → L (f i) ≤ K) : L (sumIf n p f) ≤ n * (K + 1) + 1 := by
  induction n with
  | zero => rw [sumIf, L_zero]; omega
  | succ n ih =>
    have h1 := ih (fun i hi => h i (by omega))
    have h2 := h n (by omega)
    rw [sumIf, Nat.add_mul]
    split
    · have := L_add (sumIf n p f) (f n); omega
    · rw [Rat.add_zero]; omega
/-- One more member of the set. -/
theorem sumIf_add {n : Nat} {p q : Nat → Bool} {f : Nat → Rat} {j : Nat} (hj : j < n) (hp : p j = false) (hq : q j = true) (h : ∀ i, i < n → i ≠ j → p i = q i) : sumIf n q f = sumIf n p f + f j := by
  induction n with
  | zero => omega
  | succ n ih =>
    rw [sumIf, sumIf]
    by_cases hjn : j = n
    · subst hjn
      rw [sumIf_congr (p := q) (q := p) (g := f) (fun i hi => ⟨(h i (by omega) (by omega)).symm, rfl⟩), hp, hq]
      simp [Rat.add_zero]
    · rw [ih (by omega) (fun i hi hne => h i (by omega) hne), h n (by omega) (fun e => hjn e.symm)]
      grind
def mins (f : Nat → Rat) : Nat → Rat
  | 0 => f 0
  | k + 1 => minQ (mins f k) (f k)
theorem L_mins (f : Nat → Rat) (K N : Nat) (h : ∀ i, i < N ∨ i = 0 → L (f i) ≤ K) : L (mins f N) ≤ K := by
  induction N with
  | zero => exact h 0 (.inr rfl)
  | succ N ih =>
    have h1 := ih (fun i hi => h i (by omega))
    have h2 := h N (.inl (by omega))
    have := L_min (mins f N) (f N)
    rw [mins]; omega
theorem mins_one (f : Nat → Rat) : mins f 1 = f 0 := by unfold mins mins minQ; split <;> rfl
/-- Does a claim have a charge on an item outside of the cut? -/
def outs (X : List It) (cut c : Nat) : Bool := (List.range X.length).any fun i => !cut.testBit i && secures (X.getD i zIt) c
def prF (X : List It) (i : Nat) : Rat := procQ (X.getD i zIt)
def owF (owed : List RR) (c : Nat) : Rat := toQ (owed.getD c zRR)
def capF (X : List It) (owed : List RR) (set : Nat → Bool) (cut : Nat) : Rat :=
  sumIf X.length (fun i => cut.testBit i) (prF X) + sumIf owed.length (fun c => set c && outs X cut c) (owF owed)
def capQ (X : List It) (owed : List RR) (set : Nat → Bool) : Rat := mins (capF X owed set) (2 ^ X.length)
def preQ (X : List It) (owed : List RR) (k : Nat) : Rat := if k = 0 then 0 else capQ X owed (fun i => decide (i < k))
def totQ (X : List It) (owed : List RR) : List Rat := (List.range owed.length).map fun c => preQ X owed (c + 1) - preQ X owed c
theorem L_prF {X : List It} {K : Nat} (h : ItB K X) {i : Nat} (hi : i < X.length) : L (prF X i) ≤ 2 * K + 1 := by
  have h1 := h _ (getD_mem X i zIt hi)
  have h2 := L_proc (X.getD i zIt)
  unfold prF; omega
theorem L_owF {owed : List RR} {K : Nat} (h : RB K owed) {c : Nat} (hc : c < owed.length) : L (owF owed c) ≤ K :=
  Nat.le_trans (L_toQ _) (h _ (getD_mem owed c zRR hc))
theorem L_capF {X : List It} {owed : List RR} {K : Nat} (hX : ItB K X) (ho : RB K owed) (hx8 : X.length ≤ 8) (ho24 : owed.length ≤ 24) (set : Nat → Bool) (cut : Nat) : L (capF X owed set cut) ≤ 40 * K + 45 := by
  unfold capF
  have h1 := L_sumIf X.length (fun i => cut.testBit i) (prF X) (2 * K + 1) (fun i hi => L_prF hX hi)
  have h2 := L_sumIf owed.length (fun c => set c && outs X cut c) (owF owed) K (fun c hc => L_owF ho hc)
  have h3 := L_add (sumIf X.length (fun i => cut.testBit i) (prF X)) (sumIf owed.length (fun c => set c && outs X cut c) (owF owed))
  have h4 : X.length * (2 * K + 1 + 1) ≤ 8 * (2 * K + 1 + 1) := Nat.mul_le_mul_right _ hx8
  have h5 : owed.length * (K + 1) ≤ 24 * (K + 1) := Nat.mul_le_mul_right _ ho24
  omega
theorem L_capQ {X : List It} {owed : List RR} {K : Nat} (hX : ItB K X) (ho : RB K owed) (hx8 : X.length ≤ 8) (ho24 : owed.length ≤ 24) (set : Nat → Bool) : L (capQ X owed set) ≤ 40 * K + 45 :=
  L_mins _ _ _ (fun i _ => L_capF hX ho hx8 ho24 set i)
theorem L_preQ {X : List It} {owed : List RR} {K : Nat} (hX : ItB K X) (ho : RB K owed) (hx8 : X.length ≤ 8) (ho24 : owed.length ≤ 24) (k : Nat) : L (preQ X owed k) ≤ 40 * K + 45 := by
  unfold preQ
  split
  · rw [L_zero]; omega
  · exact L_capQ hX ho hx8 ho24 _

/-! ### Bits -/
/-- The lowest bit that is set. -/
def low (x : Nat) : Nat := ((List.range 8).find? fun i => x.testBit i).getD 0
theorem low_fin : ∀ x : Fin 256, x.val ≠ 0 → low x.val < 8 ∧ x.val.testBit (low x.val) = true ∧ (x.val &&& (x.val - 1)) < x.val ∧ ∀ i : Fin 8, (x.val &&& (x.val - 1)).testBit i.val = (x.val.testBit i.val && decide (i.val ≠ low x.val)) := by decide +kernel
theorem low_spec {x n : Nat} (hx : x ≠ 0) (hn : n ≤ 8) (h : x < 2 ^ n) : low x < n ∧ x.testBit (low x) = true ∧ (x &&& (x - 1)) < x ∧ (∀ i, i < n → (x &&& (x - 1)).testBit i = (x.testBit i && decide (i ≠ low x))) := by
  have h8 : x < 256 := Nat.lt_of_lt_of_le h (show 2 ^ n ≤ 2 ^ 8 from Nat.pow_le_pow_right (by decide) hn)
  obtain ⟨a, b, c, d⟩ := low_fin ⟨x, h8⟩ hx
  refine ⟨?_, b, c, fun i hi => d ⟨i, by omega⟩⟩
  rcases Nat.lt_or_ge (low x) n with g | g
  · exact g
  · exfalso
    have : x.testBit (low x) = false := Nat.testBit_lt_two_pow (Nat.lt_of_lt_of_le h (Nat.pow_le_pow_right (by decide) g))
    rw [this] at b; cases b
/-- What a cut pays: by its lowest item. -/
theorem cut_step (f : Nat → Rat) {n x : Nat} (hx : x ≠ 0) (hn : n ≤ 8) (h : x < 2 ^ n) : sumIf n (fun i => x.testBit i) f = sumIf n (fun i => (x &&& (x - 1)).testBit i) f + f (low x) := by
  obtain ⟨a, b, _, d⟩ := low_spec hx hn h
  refine sumIf_add a ?_ b (fun i hi hne => ?_)
  · rw [d _ a]; simp
  · rw [d i hi]; simp [hne]
end Go.Proofs.YtfocimgpahjkmaaGreatDoor
namespace Go.Proofs.YtfocimgpahjkmaaGreatDoor
open Go Go.RowKit Go.Sx

def tzTab : List Nat := [0, 1, 56, 2, 57, 49, 28, 3, 61, 58, 42, 50, 38, 29, 17, 4, 62, 47, 59, 36, 45, 43, 51, 22, 53, 39, 33, 30, 24, 18, 12, 5, 63, 55, 48, 27, 60, 41, 37, 16, 46, 35, 44, 21, 52, 32, 23, 11, 54, 26, 40, 15, 34, 20, 31, 10, 25, 14, 19, 9, 13, 8, 7, 6]
theorem tz_fin : ∀ x : Fin 256, x.val ≠ 0 → ((x.val &&& (18446744073709551616 - x.val)) * 285870213051353865) % 18446744073709551616 / 2 ^ 58 < 64 ∧
    tzTab.getD (((x.val &&& (18446744073709551616 - x.val)) * 285870213051353865) % 18446744073709551616 / 2 ^ 58) 0 = low x.val ∧ (x.val &&& (18446744073709551616 - x.val)) ≤ 128 := by decide +kernel
section
variable {P : Program} {N : Nat} {ρ : Nat → Value} {w : World}
  {d : Option Tmp} {ty : TypeId} {pos : String} {aft : Array Edge} {g : Option (Nat × Bool)} {x y : Operand} {t e : TypeId} {K : Value → Prop}
/-- A place in an array that is a variable of the program's. -/
theorem s_ixg {b n i sz : Nat} {zz : List Value} {kk : IntKind} {m : Int} (hx : ev N ρ x = .pointer (some ⟨b, 0, none⟩)) (hy : ev N ρ y = .int kk m) (hm : m = (i : Int)) (hi : i < n)
    (ht : P.underlying t = some (.array n e)) (he : vinfo P e = some (sz, false, zz)) (h : K (.pointer (some ⟨b, i * sz, none⟩))) :
    Pure1 P N ρ ⟨d, .indexAddr t x y, ty, pos, aft, g⟩ K := by
  obtain ⟨ii, dd, zv, hi1, hu, _, hsz, _⟩ := vinfo_parts he
  subst hm hsz
  refine ⟨_, fun w => ?_, h⟩
  simp [execOp, hx, hy, Instr.indexAt, asIntOf, run_underlying ht, hi, sizeOf, typeInfo, hi1, add_lit, Instr.sureAddr]
end
theorem TrailingZeros64_ok (x : Nat) (w : World) (h0 : x ≠ 0) (h8 : x < 256) (hT : At w ⟨1, 0, none⟩ (Kr .u8 tzTab)) :
    Ret Tryz.prog 101 #[.int .u64 x] w fun v w' => v = .int .i64 (low x) ∧ w' = w := by
  obtain ⟨a, b, c⟩ := tz_fin ⟨x, h8⟩ h0
  simp only at a b c
  obtain ⟨y, hy⟩ : ∃ y, y = x &&& (18446744073709551616 - x) := ⟨_, rfl⟩
  rw [← hy] at a b c
  obtain ⟨i, hi⟩ : ∃ i, i = y * 285870213051353865 % 18446744073709551616 / 2 ^ 58 := ⟨_, rfl⟩
  rw [← hi] at a b
  have hl : low x < 8 := (low_fin ⟨x, h8⟩ h0).1
  have hge : (Kr .u8 tzTab)[i]? = some (.int .u8 (low x : Nat)) := by rw [Kr_get _ _ (by show i < 64; exact a), b]
  have hcell := hT i _ hge
  rw [add_lit, Nat.zero_add] at hcell
  refine enter Tryz.func101 rfl Tryz.ntmps101 rfl ?_
  repeat (with_reducible first | refine c_seq ?_ | refine c_block ?_ | refine c_skip ?_ | refine x_then ?_ | refine x_block ?_)
  refine c_reg ?_
  refine l_pure rfl (s_asg  rfl ?_)
  refine l_nil ?_
  repeat (with_reducible first | refine c_seq ?_ | refine c_block ?_ | refine c_skip ?_ | refine x_then ?_ | refine x_block ?_)
  refine c_reg ?_
  refine l_pure rfl (s_move  rfl ?_)
  refine l_pure rfl (s_eql  rfl rfl ?_)
  refine l_nil ?_
  repeat (with_reducible first | refine c_seq ?_ | refine c_block ?_ | refine c_skip ?_ | refine x_then ?_ | refine x_block ?_)
  refine c_no rfl (decide_eq_false (by omega)) ?_
  repeat (with_reducible first | refine c_seq ?_ | refine c_block ?_ | refine c_skip ?_ | refine x_then ?_ | refine x_block ?_)
  refine c_reg ?_
  refine l_pure rfl (s_move  rfl ?_)
  refine l_pure rfl (s_move  rfl ?_)
  refine l_pure rfl (s_neg  rfl (r := ((18446744073709551616 - x : Nat) : Int)) (by rw [wrapm_u64]; omega) ?_)
  refine l_pure rfl (s_and  rfl rfl (r := ((y : Nat) : Int)) (by rw [hy]; exact and_nat rfl _ _ (by show x < 18446744073709551616; omega) (by show _ < 18446744073709551616; omega)) ?_)
  refine l_pure rfl (s_mul  rfl rfl (r := ((y * 285870213051353865 % 18446744073709551616 : Nat) : Int)) (by rw [wrapm_u64]; omega) ?_)
  refine l_pure rfl (s_shr  rfl rfl (by omega) (r := ((i : Nat) : Int)) (by rw [hi]; exact shr_v _ 58 (by decide)) ?_)
  refine l_pure rfl (s_ixg (n := 64) (i := i) rfl rfl rfl a Tryz.underlying135 vi_5 ?_)
  refine l_read rfl (s_ld (v := .int .u8 (low x : Nat))  rfl vi_5 (At.one (by rw [Nat.mul_one]; exact hcell)) rfl rfl (.inr rfl) ?_)
  refine l_pure rfl (s_conv  rfl Tryz.underlying3 ⟨_, Tryz.underlying5⟩ (r := ((low x : Nat) : Int)) (by exact wr_i64 _ ⟨rfl, by omega, by omega⟩) ?_)
  refine l_pure rfl (s_asg  rfl ?_)
  refine l_nil ?_
  repeat (with_reducible first | refine c_seq ?_ | refine c_block ?_ | refine c_skip ?_ | refine x_then ?_ | refine x_block ?_)
  refine c_ret ?_
  repeat (with_reducible first | refine x_then_ret ?_ | refine x_block_ret ?_)
  refine r_one rfl rfl ?_
  exact ⟨rfl, rfl⟩
theorem TrailingZeros_ok (x : Nat) (w : World) (h0 : x ≠ 0) (h8 : x < 256) (hT : At w ⟨1, 0, none⟩ (Kr .u8 tzTab)) :
    Ret Tryz.prog 75 #[.int .u64 x] w fun v w' => v = .int .i64 (low x) ∧ w' = w := by
  refine enter Tryz.func75 rfl Tryz.ntmps75 rfl ?_
  repeat (with_reducible first | refine c_seq ?_ | refine c_block ?_ | refine c_skip ?_ | refine x_then ?_ | refine x_block ?_)
  refine c_reg ?_
  refine l_pure rfl (s_asg  rfl ?_)
  refine l_nil ?_
  repeat (with_reducible first | refine c_seq ?_ | refine c_block ?_ | refine c_skip ?_ | refine x_then ?_ | refine x_block ?_)
  refine c_no rfl (rfl) ?_
  repeat (with_reducible first | refine c_seq ?_ | refine c_block ?_ | refine c_skip ?_ | refine x_then ?_ | refine x_block ?_)
  refine c_reg ?_
  refine l_pure rfl (s_move  rfl ?_)
  refine l_heavy rfl (s_call Tryz.call101 rfl (TrailingZeros64_ok x w h0 h8 hT) ?_)
  rintro v w' ⟨rfl, rfl⟩
  refine l_pure rfl (s_asg  rfl ?_)
  refine l_nil ?_
  repeat (with_reducible first | refine c_seq ?_ | refine c_block ?_ | refine c_skip ?_ | refine x_then ?_ | refine x_block ?_)
  refine c_ret ?_
  repeat (with_reducible first | refine x_then_ret ?_ | refine x_block_ret ?_)
  refine r_one rfl rfl ?_
  exact ⟨rfl, rfl⟩
end Go.Proofs.YtfocimgpahjkmaaGreatDoor
namespace Go.Proofs.YtfocimgpahjkmaaGreatDoor
open Go Go.RowKit Go.Sx

theorem encR_one (xs : List RR) : ∀ u ∈ xs.flatMap encR, u.oneCell' = true := by
  intro u hu
  obtain ⟨x, _, hx⟩ := List.mem_flatMap.1 hu
  simp only [encR, List.mem_cons, List.not_mem_nil, or_false] at hx
  rcases hx with rfl | rfl | rfl <;> rfl
theorem toQ_zRR : toQ zRR = 0 := by rw [← toQ_ofQ 0, ofQ_zero]; rfl
theorem Lr_zRR : Lr zRR = 1 := by decide
theorem built_Net (a : Option Addr) (n c : Nat) : Tryz.prog.built 68 [(2, .slice a n c)] = some #[.slice none 0 0, .slice none 0 0, .slice a n c] := by kernel_rfl

/-- What the claims' masks say, when the first i items are done, and of the next one its first k charges. -/
structure Masks (X : List It) (m i k : Nat) (R : List Nat) : Prop where
  len : R.length = m
  lt : ∀ c, c < m → R.getD c 0 < 256
  bit : ∀ c, c < m → ∀ j, (R.getD c 0).testBit j = ((decide (j < i) && secures (X.getD j zIt) c) || (decide (j = i) && ((X.getD i zIt).charges.take k).any (fun q => decide (q.claim = (c : Int)))))
theorem Masks.start (X : List It) (m : Nat) : Masks X m 0 0 (List.replicate m 0) := by
  have h : ∀ c, (List.replicate m 0).getD c 0 = 0 := by
    intro c
    rw [List.getD_eq_getElem?_getD, List.getElem?_replicate]
    split <;> rfl
  refine ⟨by simp, fun c _ => by rw [h]; decide, fun c _ j => ?_⟩
  rw [h]; simp
theorem Masks.next {X : List It} {m i : Nat} {R : List Nat} (h : Masks X m i (X.getD i zIt).charges.length R) : Masks X m (i + 1) 0 R := by
  refine ⟨h.len, h.lt, fun c hc j => ?_⟩
  rw [h.bit c hc j, List.take_length, List.take_zero, List.any_nil, Bool.and_false, Bool.or_false]
  by_cases h1 : j = i
  · subst h1; simp [secures]
  · by_cases h2 : j < i
    · have h3 : j < i + 1 := by omega
      simp [h1, h2, h3]
    · have h3 : ¬ j < i + 1 := by omega
      simp [h1, h2, h3]
theorem Masks.charge {X : List It} {m i k c0 : Nat} {R : List Nat} (h : Masks X m i k R) (hi : i < 8) (hk : k < (X.getD i zIt).charges.length) (hcl0 : ((X.getD i zIt).charges.getD k zCh).claim = (c0 : Int)) (hc0 : c0 < m) :
    Masks X m i (k + 1) (R.set c0 (R.getD c0 0 ||| 2 ^ i)) := by
  have ht := take_succ' (X.getD i zIt).charges k zCh hk
  have hg : ∀ c, c < m → (R.set c0 (R.getD c0 0 ||| 2 ^ i)).getD c 0 = if c = c0 then R.getD c0 0 ||| 2 ^ i else R.getD c 0 := by
    intro c hcm
    rw [List.getD_eq_getElem?_getD, List.getElem?_set]
    by_cases he : c = c0
    · subst he; rw [if_pos rfl, if_pos rfl, if_pos (by rw [h.len]; exact hcm)]; rfl
    · rw [if_neg (fun g => he g.symm), if_neg he, List.getD_eq_getElem?_getD]
  have hp : 2 ^ i < 256 := Nat.lt_of_lt_of_le (Nat.pow_lt_pow_right (by decide) hi) (by decide)
  refine ⟨by simp [h.len], fun c hcm => ?_, fun c hcm j => ?_⟩
  · rw [hg c hcm]
    split
    · exact Nat.or_lt_two_pow (n := 8) (h.lt c0 hc0) hp
    · exact h.lt c hcm
  · rw [hg c hcm, ht, List.any_append]
    simp only [List.any_cons, List.any_nil, Bool.or_false, hcl0]
    by_cases he : c = c0
    · subst he
      rw [if_pos rfl, Nat.testBit_or, h.bit c hcm j, Nat.testBit_two_pow]
      by_cases hj : j = i
      · subst hj; simp
      · have : ¬ i = j := fun e => hj e.symm
        simp [hj, this]
    · rw [if_neg he, h.bit c hcm j]
      have : ¬ ((c0 : Int) = (c : Int)) := by omega
      simp [this]

def procsR (X : List It) : List RR := X.map fun x => ofQ (procQ x)
def owedR (owed : List RR) : List RR := owed.map fx
theorem procs_take (X : List It) {i : Nat} (hi : i < X.length) : procsR (X.take (i + 1)) = procsR (X.take i) ++ [ofQ (procQ (X.getD i zIt))] := by
  unfold procsR; rw [take_succ' X i zIt hi, List.map_append]; rfl
theorem owed_take (l : List RR) {i : Nat} (hi : i < l.length) : owedR (l.take (i + 1)) = owedR (l.take i) ++ [fx (l.getD i zRR)] := by
  unfold owedR; rw [take_succ' l i zRR hi, List.map_append]; rfl

set_option maxHeartbeats 1000000 in
theorem build_ok (vi_ vo : Value) (X : List It) (cvs : List Value) (owed : List RR) (K : Nat) (w : World) (hX : Its w vi_ X cvs) (ho : Sl encR 3 w vo owed) (hXB : ItB K X) (hoB : RB K owed) (hK : 2 * K + 2 ≤ MX) (hX8 : X.length ≤ 8) (ho24 : owed.length ≤ 24)
    (hcl : ∀ x ∈ X, ∀ c ∈ x.charges, 0 ≤ c.claim ∧ c.claim < owed.length) :
    Ret Tryz.prog 29 #[vi_, vo] w fun v w' => ∃ sP sO LP LO bI R, v = .agg #[sP, sO, .slice (some ⟨bI, 0, none⟩) owed.length owed.length] ∧ Gl encR 39 3 sP (procsR X) LP ∧ Gl encR 39 3 sO (owedR owed) LO ∧ Masks X owed.length X.length 0 R ∧
      St w w' ([(bI, 74, Kr .u64 R)] ++ LO ++ LP) := by
  have hM : MX = 1099511627776 := rfl
  have hmo := ho.maxLen
  have hzl := hX.zlen
  obtain ⟨m, hm⟩ : ∃ m, m = owed.length := ⟨_, rfl⟩
  have hS := St.init w
  refine enter Tryz.func29 rfl Tryz.ntmps29 rfl ?_
  repeat (with_reducible first | refine c_seq ?_ | refine c_block ?_ | refine c_skip ?_ | refine x_then ?_ | refine x_block ?_)
  refine c_reg ?_
  refine l_heavy rfl (s_alloc  vi_68 hS ?_)
  intro b4 wz1 hS hBz1
  refine l_nil ?_
  repeat (with_reducible first | refine c_seq ?_ | refine c_block ?_ | refine c_skip ?_ | refine x_then ?_ | refine x_block ?_)
  refine c_reg ?_
  refine l_pure rfl (s_move  rfl ?_)
  refine l_pure rfl (s_lenr  rfl (ho.below hS.below) ⟨_, Tryz.underlying24⟩ ?_)
  refine l_heavy rfl (s_makek (n := owed.length)  rfl rfl si_66 (by omega) (by omega) (by omega) (by omega) hS ?_)
  intro bI wz2 hS hBz2
  refine l_pure rfl (s_build  rfl (built_Net _ _ _) ?_)
  refine l_heavy rfl (s_alloc  vi_68 hS ?_)
  intro bn wz3 hS hBz3
  refine l_heavy rfl (s_sta (k := 0)  rfl rfl vi_68 hS rfl rfl rfl (Nat.le_of_ble_eq_true rfl) rfl ?_)
  intro wz4 hS
  refine l_nil ?_
  repeat (with_reducible first | refine c_seq ?_ | refine c_block ?_ | refine c_skip ?_ | refine x_then ?_ | refine x_block ?_)
  rw [← hm]
  rw [← hm] at hS
  replace hS : St w _ ([(bn, 68, [.slice none 0 0, .slice none 0 0, .slice (some ⟨bI, 0, none⟩) m m]), (bI, 74, Kr .u64 (List.replicate m 0)), (b4, 68, [.slice none 0 0, .slice none 0 0, .slice none 0 0])] ++ []) := hS
  repeat (with_reducible first | refine c_seq ?_ | refine c_block ?_ | refine c_skip ?_ | refine x_then ?_ | refine x_block ?_)
  refine c_reg ?_
  refine l_pure rfl (s_move  rfl ?_)
  refine l_pure rfl (s_lenr  rfl (ho.below hS.below) ⟨_, Tryz.underlying24⟩ ?_)
  refine l_pure rfl (s_move  rfl ?_)
  refine l_nil ?_
  repeat (with_reducible first | refine c_seq ?_ | refine c_skip ?_ | refine x_then ?_ | refine x_block ?_)
  refine c_cut1 (fun ρ w' => ρ 0 = vi_ ∧ ρ 1 = vo ∧ ρ 4 = .pointer (some ⟨b4, 0, none⟩) ∧ ρ 5 = .pointer (some ⟨bn, 0, none⟩) ∧ ∃ sO LO, Gl encR 39 3 sO (owedR owed) LO ∧
      St w w' ([(bn, 68, [.slice none 0 0, sO, .slice (some ⟨bI, 0, none⟩) m m]), (bI, 74, Kr .u64 (List.replicate m 0)), (b4, 68, [.slice none 0 0, .slice none 0 0, .slice none 0 0])] ++ LO)) ?_ ?_
  · repeat (with_reducible first | refine c_seq ?_ | refine c_block ?_ | refine c_skip ?_ | refine x_then ?_ | refine x_block ?_)
    refine c_loop (σ := Nat) (fun i ρ w' => i ≤ owed.length ∧ ρ 0 = vi_ ∧ ρ 1 = vo ∧ ρ 4 = .pointer (some ⟨b4, 0, none⟩) ∧ ρ 5 = .pointer (some ⟨bn, 0, none⟩) ∧ ρ 16 = vo ∧ ρ 17 = .int .i64 owed.length ∧ ρ 18 = .int .i64 i ∧ ∃ sO LO, Gl encR 39 3 sO (owedR (owed.take i)) LO ∧
        St w w' ([(bn, 68, [.slice none 0 0, sO, .slice (some ⟨bI, 0, none⟩) m m]), (bI, 74, Kr .u64 (List.replicate m 0)), (b4, 68, [.slice none 0 0, .slice none 0 0, .slice none 0 0])] ++ LO)) (fun i => owed.length - i) 0
      ⟨Nat.zero_le _, rfl, rfl, rfl, rfl, rfl, rfl, rfl, ⟨_, [], Gl.nil _ _ _, hS⟩⟩ ?_
    clear hS
    rintro i ρ w2 ⟨hi, h0, h1, h4, h5, h16, h17, h18, sO, LO, hG, hS⟩
    obtain ⟨aO, cO, hsO⟩ := hG.len
    subst hsO
    repeat (with_reducible first | refine c_seq ?_ | refine c_block ?_ | refine c_skip ?_ | refine x_then ?_ | refine x_block ?_)
    refine c_reg ?_
    refine l_pure rfl (s_lss  h18 h17 ?_)
    refine l_nil ?_
    repeat (with_reducible first | refine c_seq ?_ | refine c_block ?_ | refine c_skip ?_ | refine x_then ?_ | refine x_block ?_)
    by_cases hlt : i < owed.length
    · refine c_yes rfl (decide_eq_true (by omega)) ?_
      repeat (with_reducible first | refine c_seq ?_ | refine c_block ?_ | refine c_skip ?_ | refine x_then ?_ | refine x_block ?_)
      have hr := hoB _ (getD_mem owed i zRR hlt)
      have hlen : (owedR (owed.take i)).length = i := by simp [owedR]; omega
      repeat (with_reducible first | refine c_seq ?_ | refine c_block ?_ | refine c_skip ?_ | refine x_then ?_ | refine x_block ?_)
      refine c_reg ?_
      refine l_pure rfl (s_ixr (i := i)  h16 h18 (ho.below hS.below) (by omega) (by first | omega | (simp; done) | (simp; omega)) si_24 ?_)
      refine l_read rfl (s_lde (i := i) zRR  rfl vi_39 (ho.below hS.below) (by first | omega | (simp; done) | (simp; omega)) rfl rfl (.inl rfl) ?_)
      refine l_heavy rfl (s_alloc  vi_39 hS ?_)
      intro b7 wz5 hS hBz5
      refine l_heavy rfl (s_sta (k := 0)  rfl rfl vi_39 hS rfl rfl rfl (Nat.le_of_ble_eq_true rfl) rfl ?_)
      intro wz6 hS
      refine l_nil ?_
      repeat (with_reducible first | refine c_seq ?_ | refine c_block ?_ | refine c_skip ?_ | refine x_then ?_ | refine x_block ?_)
      replace hS : St w _ ([(b7, 39, encR (owed.getD i zRR)), (bn, 68, [.slice none 0 0, .slice aO (owedR (owed.take i)).length cO, .slice (some ⟨bI, 0, none⟩) m m]), (bI, 74, Kr .u64 (List.replicate m 0)), (b4, 68, [.slice none 0 0, .slice none 0 0, .slice none 0 0])] ++ LO) := hS
      repeat (with_reducible first | refine c_seq ?_ | refine c_block ?_ | refine c_skip ?_ | refine x_then ?_ | refine x_block ?_)
      refine c_draw [(0, .pure), (1, .read), (2, .read), (3, .pure), (4, .grow), (5, .grow), (6, .free), (7, .pure), (8, .free)] (by kernel_rfl) (by kernel_rfl) hS ?_
      intro wz7 hS hBz7
      refine w_pure rfl rfl (s_fld  h5 fo_68_1 ?_)
      refine w_read rfl rfl (s_ldo (k := 1)  rfl vi_24 hS rfl rfl rfl (.inr rfl) ?_)
      refine w_read rfl rfl (s_ldo (k := 0)  rfl vi_39 hS rfl rfl rfl (.inl rfl) ?_)
      refine w_pure rfl rfl (s_build  rfl bz_39 ?_)
      refine w_grow rfl rfl (s_call Tryz.call24 rfl (QAdd_ok (owed.getD i zRR) zRR _ (by rw [Lr_zRR]; omega)) ?_)
      rintro r w3 ⟨rfl, hB3⟩
      refine ⟨hB3, ?_⟩
      rw [toQ_zRR, Rat.add_zero]
      replace hS := hS.grow hB3
      replace hS : St w _ ([(b7, 39, encR (owed.getD i zRR)), (bn, 68, [.slice none 0 0, .slice aO (owedR (owed.take i)).length cO, .slice (some ⟨bI, 0, none⟩) m m]), (bI, 74, Kr .u64 (List.replicate m 0)), (b4, 68, [.slice none 0 0, .slice none 0 0, .slice none 0 0])] ++ LO) := hS
      refine w_grow rfl rfl (s_bsl (vs := [aggR (ofQ (toQ (owed.getD i zRR)))])  rfl si_24 rfl (by decide) (by decide) (by decide) (by simp [Value.cells, aggR]) rfl hS ?_)
      intro b8 wz9 hS hBz9
      refine ⟨hBz9, ?_⟩
      refine w_free rfl rfl (s_appl [fx (owed.getD i zRR)]  rfl rfl si_24 (by decide) hG hS rfl rfl encR_len (encR_one [fx (owed.getD i zRR)]) (by first | omega | (simp only [List.length_cons, List.length_nil]; omega)) (by first | omega | (simp only [List.length_cons, List.length_nil]; omega)) ?_)
      intro va10 La10 wa10 hG hS hga10
      refine w_pure rfl rfl (s_fld  h5 fo_68_1 ?_)
      refine w_free rfl rfl (s_stc (k := 1)  rfl rfl vi_24 hS rfl (Nat.le_of_ble_eq_true rfl) (by obtain ⟨a, c, h⟩ := hG.len; rw [h]; rfl) ?_)
      intro wz11 hS
      refine w_end ?_
      repeat (with_reducible first | refine c_seq ?_ | refine c_block ?_ | refine c_skip ?_ | refine x_then ?_ | refine x_block ?_)
      replace hS : St w _ ((b7, 39, encR (owed.getD i zRR)) :: ([(bn, 68, [.slice none 0 0, _, .slice (some ⟨bI, 0, none⟩) m m]), (bI, 74, Kr .u64 (List.replicate m 0)), (b4, 68, [.slice none 0 0, .slice none 0 0, .slice none 0 0])] ++ _)) := hS
      repeat (with_reducible first | refine c_seq ?_ | refine c_block ?_ | refine c_skip ?_ | refine x_then ?_ | refine x_block ?_)
      refine c_reg ?_
      refine l_pure rfl (s_add  h18 rfl (IntWalk.i64_in _ (by omega)) ?_)
      refine l_pure rfl (s_move  rfl ?_)
      refine l_nil ?_
      repeat (with_reducible first | refine c_seq ?_ | refine c_block ?_ | refine c_skip ?_ | refine x_then ?_ | refine x_block ?_)
      refine ⟨i + 1, _, rfl, ⟨hlt, h0, h1, h4, h5, h16, h17, vi rfl (by omega), ⟨_, _, ?_, hS.drop (List.sublist_cons_self _ _)⟩⟩, by omega⟩
      rw [owed_take owed hlt]; exact hG
    · refine c_no rfl (decide_eq_false (by omega)) ?_
      repeat (with_reducible first | refine c_seq ?_ | refine c_block ?_ | refine c_skip ?_ | refine x_then ?_ | refine x_block ?_)
      refine c_exit ?_
      repeat (with_reducible first | refine x_then_exit ?_ | refine x_block_exit ?_ | refine x_block_pass rfl ?_)
      repeat (with_reducible first | refine c_seq ?_ | refine c_block ?_ | refine c_skip ?_ | refine x_then ?_ | refine x_block ?_)
      obtain rfl : i = owed.length := by omega
      rw [List.take_length] at hG hS
      exact ⟨_, rfl, h0, h1, h4, h5, ⟨_, _, hG, hS⟩⟩
  clear hS
  rintro ρ w2 ⟨h0, h1, h4, h5, sO, LO, hGO, hS⟩
  obtain ⟨aO, cO, hsO⟩ := hGO.len
  rw [hsO] at hS
  repeat (with_reducible first | refine c_seq ?_ | refine c_block ?_ | refine c_skip ?_ | refine x_then ?_ | refine x_block ?_)
  refine c_reg ?_
  refine l_pure rfl (s_move  h0 ?_)
  refine l_pure rfl (s_lenr  rfl (hX.sl.below hS.below) ⟨_, Tryz.underlying26⟩ ?_)
  refine l_pure rfl (s_move  rfl ?_)
  refine l_nil ?_
  repeat (with_reducible first | refine c_seq ?_ | refine c_block ?_ | refine c_skip ?_ | refine x_then ?_ | refine x_block ?_)
  rw [hzl]
  refine c_loop (σ := Nat) (fun i ρ w' => i ≤ X.length ∧ ρ 4 = .pointer (some ⟨b4, 0, none⟩) ∧ ρ 5 = .pointer (some ⟨bn, 0, none⟩) ∧ ρ 31 = vi_ ∧ ρ 32 = .int .i64 X.length ∧ ρ 33 = .int .i64 i ∧ ∃ sP LP R, Gl encR 39 3 sP (procsR (X.take i)) LP ∧ Masks X m i 0 R ∧
      St w w' ([(bn, 68, [sP, .slice aO (owedR owed).length cO, .slice (some ⟨bI, 0, none⟩) m m]), (bI, 74, Kr .u64 R), (b4, 68, [.slice none 0 0, .slice none 0 0, .slice none 0 0])] ++ LO ++ LP)) (fun i => X.length - i) 0
    ⟨Nat.zero_le _, h4, h5, rfl, rfl, rfl, ⟨_, [], _, Gl.nil _ _ _, Masks.start X m, by rw [List.append_nil]; exact hS⟩⟩ ?_
  clear hS h0 h1 h4 h5
  rintro i ρ w3 ⟨hi, h4, h5, h31, h32, h33, sP, LP, R, hG, hR, hS⟩
  obtain ⟨aP, cP, hsP⟩ := hG.len
  subst hsP
  repeat (with_reducible first | refine c_seq ?_ | refine c_block ?_ | refine c_skip ?_ | refine x_then ?_ | refine x_block ?_)
  refine c_reg ?_
  refine l_pure rfl (s_lss  h33 h32 ?_)
  refine l_nil ?_
  repeat (with_reducible first | refine c_seq ?_ | refine c_block ?_ | refine c_skip ?_ | refine x_then ?_ | refine x_block ?_)
  by_cases hlt : i < X.length
  · refine c_yes rfl (decide_eq_true (by omega)) ?_
    repeat (with_reducible first | refine c_seq ?_ | refine c_block ?_ | refine c_skip ?_ | refine x_then ?_ | refine x_block ?_)
    obtain ⟨x, hx⟩ : ∃ x, x = X.getD i zIt := ⟨_, rfl⟩
    obtain ⟨cv, hcv⟩ : ∃ cv, cv = cvs.getD i undef := ⟨_, rfl⟩
    have hmem : x ∈ X := by rw [hx]; exact getD_mem X i zIt hlt
    have hxB := hXB x hmem
    have hch := hX.ch i hlt
    rw [← hx, ← hcv] at hch
    have hmc := hch.maxLen
    obtain ⟨ca, ccap, hcve, _⟩ := hch.form
    subst hcve
    have hzg := hX.zget hlt
    rw [← hx, ← hcv] at hzg
    have hlen : (procsR (X.take i)).length = i := by simp [procsR]; omega
    repeat (with_reducible first | refine c_seq ?_ | refine c_block ?_ | refine c_skip ?_ | refine x_then ?_ | refine x_block ?_)
    refine c_reg ?_
    refine l_pure rfl (s_move  h33 ?_)
    refine l_pure rfl (s_ixr (i := i)  h31 h33 (hX.sl.below hS.below) (by omega) (by first | omega | (simp; done) | (simp; omega)) si_26 ?_)
    refine l_read rfl (s_lde (v := aggIt x (.slice ca x.charges.length ccap)) (i := i) (zIt, undef)  rfl vi_53 (hX.sl.below hS.below) (by omega) rfl (by rw [hzg]; rfl) (.inl rfl) ?_)
    refine l_heavy rfl (s_alloc  vi_53 hS ?_)
    intro b9 wz12 hS hBz12
    refine l_pure rfl (s_asg  rfl ?_)
    refine l_heavy rfl (s_sta (k := 0)  rfl rfl vi_53 hS rfl rfl rfl (Nat.le_of_ble_eq_true rfl) rfl ?_)
    intro wz13 hS
    refine l_nil ?_
    repeat (with_reducible first | refine c_seq ?_ | refine c_block ?_ | refine c_skip ?_ | refine x_then ?_ | refine x_block ?_)
    replace hS : St w _ ([(b9, 53, encIt (x, .slice ca x.charges.length ccap)), (bn, 68, [.slice aP (procsR (X.take i)).length cP, .slice aO (owedR owed).length cO, .slice (some ⟨bI, 0, none⟩) m m]), (bI, 74, Kr .u64 R), (b4, 68, [.slice none 0 0, .slice none 0 0, .slice none 0 0])] ++ LO ++ LP) := hS
    repeat (with_reducible first | refine c_seq ?_ | refine c_block ?_ | refine c_skip ?_ | refine x_then ?_ | refine x_block ?_)
    refine c_draw [(0, .pure), (1, .read), (2, .read), (3, .grow), (4, .grow), (5, .free), (6, .pure), (7, .free)] (by kernel_rfl) (by kernel_rfl) hS ?_
    intro wz14 hS hBz14
    refine w_pure rfl rfl (s_fld  h5 fo_68_0 ?_)
    refine w_read rfl rfl (s_ldo (k := 1)  rfl vi_24 hS rfl rfl rfl (.inr rfl) ?_)
    refine w_read rfl rfl (s_ldo (k := 0)  rfl vi_53 hS rfl rfl rfl (.inl rfl) ?_)
    refine w_grow rfl rfl (s_call Tryz.call21 rfl (Proceeds_ok x ca x.charges.length ccap _ (by have := hxB.1; have := hxB.2.1; omega)) ?_)
    rintro r w4 ⟨rfl, hB4⟩
    refine ⟨hB4, ?_⟩
    replace hS := hS.grow hB4
    replace hS : St w _ ([(b9, 53, encIt (x, .slice ca x.charges.length ccap)), (bn, 68, [.slice aP (procsR (X.take i)).length cP, .slice aO (owedR owed).length cO, .slice (some ⟨bI, 0, none⟩) m m]), (bI, 74, Kr .u64 R), (b4, 68, [.slice none 0 0, .slice none 0 0, .slice none 0 0])] ++ LO ++ LP) := hS
    refine w_grow rfl rfl (s_bsl (vs := [aggR (ofQ (procQ x))])  rfl si_24 rfl (by decide) (by decide) (by decide) (by simp [Value.cells, aggR]) rfl hS ?_)
    intro b15 wz16 hS hBz16
    refine ⟨hBz16, ?_⟩
    refine w_free rfl rfl (s_appl [ofQ (procQ x)]  rfl rfl si_24 (by decide) hG hS rfl rfl encR_len (encR_one [ofQ (procQ x)]) (by first | omega | (simp only [List.length_cons, List.length_nil]; omega)) (by first | omega | (simp only [List.length_cons, List.length_nil]; omega)) ?_)
    intro va17 La17 wa17 hG hS hga17
    refine w_pure rfl rfl (s_fld  h5 fo_68_0 ?_)
    refine w_free rfl rfl (s_stc (k := 1)  rfl rfl vi_24 hS rfl (Nat.le_of_ble_eq_true rfl) (by obtain ⟨a, c, h⟩ := hG.len; rw [h]; rfl) ?_)
    intro wz18 hS
    refine w_end ?_
    repeat (with_reducible first | refine c_seq ?_ | refine c_block ?_ | refine c_skip ?_ | refine x_then ?_ | refine x_block ?_)
    rw [hx, ← procs_take X hlt] at hG
    obtain ⟨aP2, cP2, hsP2⟩ := hG.len
    subst hsP2
    replace hS : St w _ ([(b9, 53, encIt (x, .slice ca x.charges.length ccap)), (bn, 68, [.slice aP2 (procsR (X.take (i + 1))).length cP2, .slice aO (owedR owed).length cO, .slice (some ⟨bI, 0, none⟩) m m]), (bI, 74, Kr .u64 R), (b4, 68, [.slice none 0 0, .slice none 0 0, .slice none 0 0])] ++ LO ++ _) := hS
    repeat (with_reducible first | refine c_seq ?_ | refine c_block ?_ | refine c_skip ?_ | refine x_then ?_ | refine x_block ?_)
    refine c_reg ?_
    refine l_pure rfl (s_fld  rfl fo_53_2 ?_)
    refine l_read rfl (s_ldo (k := 0)  rfl vi_51 hS rfl rfl rfl (.inr rfl) ?_)
    refine l_pure rfl (s_lenr  rfl (hch.below hS.below) ⟨_, Tryz.underlying51⟩ ?_)
    refine l_pure rfl (s_move  rfl ?_)
    refine l_nil ?_
    repeat (with_reducible first | refine c_seq ?_ | refine c_skip ?_ | refine x_then ?_ | refine x_block ?_)
    refine c_cut1 (fun ρ w' => ρ 4 = .pointer (some ⟨b4, 0, none⟩) ∧ ρ 5 = .pointer (some ⟨bn, 0, none⟩) ∧ ρ 31 = vi_ ∧ ρ 32 = .int .i64 X.length ∧ ρ 33 = .int .i64 i ∧ ∃ R, Masks X m i x.charges.length R ∧
      St w w' ([(bn, 68, [.slice aP2 (procsR (X.take (i + 1))).length cP2, .slice aO (owedR owed).length cO, .slice (some ⟨bI, 0, none⟩) m m]), (bI, 74, Kr .u64 R), (b4, 68, [.slice none 0 0, .slice none 0 0, .slice none 0 0])] ++ LO ++ La17)) ?_ ?_
    · repeat (with_reducible first | refine c_seq ?_ | refine c_block ?_ | refine c_skip ?_ | refine x_then ?_ | refine x_block ?_)
      refine c_loop (σ := Nat) (fun k ρ w' => k ≤ x.charges.length ∧ ρ 4 = .pointer (some ⟨b4, 0, none⟩) ∧ ρ 5 = .pointer (some ⟨bn, 0, none⟩) ∧ ρ 31 = vi_ ∧ ρ 32 = .int .i64 X.length ∧ ρ 33 = .int .i64 i ∧ ρ 8 = .int .i64 i ∧ ρ 46 = .slice ca x.charges.length ccap ∧ ρ 47 = .int .i64 x.charges.length ∧ ρ 48 = .int .i64 k ∧ ∃ R, Masks X m i k R ∧
          St w w' ([(bn, 68, [.slice aP2 (procsR (X.take (i + 1))).length cP2, .slice aO (owedR owed).length cO, .slice (some ⟨bI, 0, none⟩) m m]), (bI, 74, Kr .u64 R), (b4, 68, [.slice none 0 0, .slice none 0 0, .slice none 0 0])] ++ LO ++ La17)) (fun k => x.charges.length - k) 0
        ⟨Nat.zero_le _, h4, h5, h31, h32, h33, rfl, rfl, rfl, rfl, ⟨R, hR, hS.drop (List.sublist_cons_self _ _)⟩⟩ ?_
      clear hS
      rintro k ρ w5 ⟨hk, h4, h5, h31, h32, h33, h8, h46, h47, h48, R, hR, hS⟩
      repeat (with_reducible first | refine c_seq ?_ | refine c_block ?_ | refine c_skip ?_ | refine x_then ?_ | refine x_block ?_)
      refine c_reg ?_
      refine l_pure rfl (s_lss  h48 h47 ?_)
      refine l_nil ?_
      repeat (with_reducible first | refine c_seq ?_ | refine c_block ?_ | refine c_skip ?_ | refine x_then ?_ | refine x_block ?_)
      by_cases hlk : k < x.charges.length
      · refine c_yes rfl (decide_eq_true (by omega)) ?_
        repeat (with_reducible first | refine c_seq ?_ | refine c_block ?_ | refine c_skip ?_ | refine x_then ?_ | refine x_block ?_)
        have hcm := hcl x hmem _ (getD_mem x.charges k zCh hlk)
        obtain ⟨c0, hc0⟩ : ∃ c0 : Nat, (x.charges.getD k zCh).claim = (c0 : Int) := ⟨_, (Int.toNat_of_nonneg hcm.1).symm⟩
        have hc0m : c0 < m := by omega
        have hRl := hR.len
        have hRlt := hR.lt c0 hc0m
        have hp : 2 ^ i < 256 := Nat.lt_of_lt_of_le (Nat.pow_lt_pow_right (by decide) (show i < 8 by omega)) (by decide)
        have hnew := hR.charge (by omega) (by rw [← hx]; exact hlk) (by rw [← hx]; exact hc0) hc0m
        obtain ⟨nv, hnv⟩ : ∃ nv, nv = R.getD c0 0 ||| 2 ^ i := ⟨_, rfl⟩
        have hnv8 : nv < 256 := by rw [hnv]; exact Nat.or_lt_two_pow (n := 8) hRlt hp
        rw [← hnv] at hnew
        obtain ⟨cc, hcc⟩ : ∃ cc, cc = x.charges.getD k zCh := ⟨_, rfl⟩
        rw [← hcc] at hc0
        obtain ⟨cl, pr, lm, li⟩ := cc
        have hc1 : cl = (c0 : Int) := hc0
        subst hc1
        repeat (with_reducible first | refine c_seq ?_ | refine c_block ?_ | refine c_skip ?_ | refine x_then ?_ | refine x_block ?_)
        refine c_reg ?_
        refine l_pure rfl (s_ixr (i := k)  h46 h48 (hch.below hS.below) (by omega) (by first | omega | (simp; done) | (simp; omega)) si_51 ?_)
        refine l_read rfl (s_lde (i := k) zCh  rfl vi_64 (hch.below hS.below) (by first | omega | (simp; done) | (simp; omega)) rfl rfl (.inl rfl) ?_)
        refine l_heavy rfl (s_alloc  vi_64 hS ?_)
        intro b11 wz19 hS hBz19
        refine l_heavy rfl (s_sta (k := 0)  rfl rfl vi_64 hS rfl rfl rfl (Nat.le_of_ble_eq_true rfl) rfl ?_)
        intro wz20 hS
        refine l_nil ?_
        repeat (with_reducible first | refine c_seq ?_ | refine c_block ?_ | refine c_skip ?_ | refine x_then ?_ | refine x_block ?_)
        replace hS : St w _ ([(b11, 64, encCh (x.charges.getD k zCh)), (bn, 68, [.slice aP2 (procsR (X.take (i + 1))).length cP2, .slice aO (owedR owed).length cO, .slice (some ⟨bI, 0, none⟩) m m]), (bI, 74, Kr .u64 R), (b4, 68, [.slice none 0 0, .slice none 0 0, .slice none 0 0])] ++ LO ++ La17) := hS
        rw [← hcc] at hS
        repeat (with_reducible first | refine c_seq ?_ | refine c_block ?_ | refine c_skip ?_ | refine x_then ?_ | refine x_block ?_)
        refine c_draw [(0, .pure), (1, .read), (2, .pure), (3, .read), (4, .pure), (5, .read), (6, .pure), (7, .pure), (8, .pure), (9, .pure), (10, .free)] (by kernel_rfl) (by kernel_rfl) hS ?_
        intro wz21 hS hBz21
        refine w_pure rfl rfl (s_fld  h5 fo_68_2 ?_)
        refine w_read rfl rfl (s_ldo (k := 1)  rfl vi_66 hS rfl rfl rfl (.inr rfl) ?_)
        refine w_pure rfl rfl (s_fld  rfl fo_64_0 ?_)
        refine w_read rfl rfl (s_ldo (k := 0)  rfl vi_3 hS rfl rfl rfl (.inr rfl) ?_)
        refine w_pure rfl rfl (s_ixo (i := c0)  rfl rfl (by omega) (by first | omega | (simp; done) | (simp; omega)) si_66 ?_)
        refine w_read rfl rfl (s_ldk (k := 2) (i := c0)  rfl vi_74 hS rfl (by omega) (by first | omega | (simp; done) | (simp; omega)) ?_)
        refine w_pure rfl rfl (s_move  h8 ?_)
        refine w_pure rfl rfl (s_shl  rfl rfl (by omega) (shl_v 1 i ((2 ^ i : Nat) : Int) (by show i ≤ 64; omega) (wr_u64 _ ⟨by rw [Nat.one_mul], Int.natCast_nonneg _, by omega⟩)) ?_)
        refine w_pure rfl rfl (s_or  rfl rfl (r := ((nv : Nat) : Int)) (by rw [hnv]; exact or_nat rfl _ _ (by show _ < 18446744073709551616; omega) (by show _ < 18446744073709551616; omega)) ?_)
        refine w_pure rfl rfl (s_ixo (i := c0)  rfl rfl (by omega) (by first | omega | (simp; done) | (simp; omega)) si_66 ?_)
        refine w_free rfl rfl (s_stk (k := 2) (i := c0) (a := nv)  rfl rfl (by omega) vi_74 hS rfl (by omega) (by first | omega | (simp; done) | (simp; omega)) ?_)
        intro wz22 hS
        refine w_end ?_
        repeat (with_reducible first | refine c_seq ?_ | refine c_block ?_ | refine c_skip ?_ | refine x_then ?_ | refine x_block ?_)
        refine c_reg ?_
        refine l_pure rfl (s_add  h48 rfl (IntWalk.i64_in _ (by omega)) ?_)
        refine l_pure rfl (s_move  rfl ?_)
        refine l_nil ?_
        repeat (with_reducible first | refine c_seq ?_ | refine c_block ?_ | refine c_skip ?_ | refine x_then ?_ | refine x_block ?_)
        exact ⟨k + 1, _, rfl, ⟨hlk, h4, h5, h31, h32, h33, h8, h46, h47, vi rfl (by omega), ⟨_, hnew, hS.drop (List.sublist_cons_self _ _)⟩⟩, by omega⟩
      · refine c_no rfl (decide_eq_false (by omega)) ?_
        repeat (with_reducible first | refine c_seq ?_ | refine c_block ?_ | refine c_skip ?_ | refine x_then ?_ | refine x_block ?_)
        refine c_exit ?_
        repeat (with_reducible first | refine x_then_exit ?_ | refine x_block_exit ?_ | refine x_block_pass rfl ?_)
        repeat (with_reducible first | refine c_seq ?_ | refine c_block ?_ | refine c_skip ?_ | refine x_then ?_ | refine x_block ?_)
        obtain rfl : k = x.charges.length := by omega
        exact ⟨_, rfl, h4, h5, h31, h32, h33, ⟨_, hR, hS⟩⟩
    clear hS
    rintro ρ w5 ⟨h4, h5, h31, h32, h33, R, hR, hS⟩
    repeat (with_reducible first | refine c_seq ?_ | refine c_block ?_ | refine c_skip ?_ | refine x_then ?_ | refine x_block ?_)
    refine c_reg ?_
    refine l_pure rfl (s_add  h33 rfl (IntWalk.i64_in _ (by omega)) ?_)
    refine l_pure rfl (s_move  rfl ?_)
    refine l_nil ?_
    repeat (with_reducible first | refine c_seq ?_ | refine c_block ?_ | refine c_skip ?_ | refine x_then ?_ | refine x_block ?_)
    rw [hx] at hR
    exact ⟨i + 1, _, rfl, ⟨hlt, h4, h5, h31, h32, vi rfl (by omega), ⟨_, _, R, hG, hR.next, hS⟩⟩, by omega⟩
  · refine c_no rfl (decide_eq_false (by omega)) ?_
    repeat (with_reducible first | refine c_seq ?_ | refine c_block ?_ | refine c_skip ?_ | refine x_then ?_ | refine x_block ?_)
    refine c_exit ?_
    repeat (with_reducible first | refine x_then_exit ?_ | refine x_block_exit ?_ | refine x_block_pass rfl ?_)
    repeat (with_reducible first | refine c_seq ?_ | refine c_block ?_ | refine c_skip ?_ | refine x_then ?_ | refine x_block ?_)
    obtain rfl : i = X.length := by omega
    rw [List.take_length] at hG hS
    repeat (with_reducible first | refine c_seq ?_ | refine c_block ?_ | refine c_skip ?_ | refine x_then ?_ | refine x_block ?_)
    refine c_reg ?_
    refine l_read rfl (s_ldo (k := 0)  h5 vi_68 hS rfl rfl rfl (.inl rfl) ?_)
    refine l_heavy rfl (s_sta (k := 2)  h4 rfl vi_68 hS rfl rfl rfl (Nat.le_of_ble_eq_true rfl) rfl ?_)
    intro wz23 hS
    refine l_nil ?_
    repeat (with_reducible first | refine c_seq ?_ | refine c_block ?_ | refine c_skip ?_ | refine x_then ?_ | refine x_block ?_)
    refine c_ret ?_
    repeat (with_reducible first | refine x_then_ret ?_ | refine x_block_ret ?_)
    refine r_cell (k := 2) rfl h4 vi_68 hS rfl rfl ?_
    subst hm
    rw [hsO] at hGO
    refine ⟨_, _, _, _, bI, R, rfl, hG, hGO, hR, ?_⟩
    exact hS.drop (H' := [(bI, 74, Kr .u64 R)] ++ LO ++ LP) (.cons _ (.cons_cons _ (.cons _ (List.Sublist.refl _))))
end Go.Proofs.YtfocimgpahjkmaaGreatDoor
namespace Go.Sx
open Go Go.RowKit Go.Proofs.YtfocimgpahjkmaaGreatDoor

def tab {α : Type} (n : Nat) (f : Nat → α) : List α := (List.range n).map f
theorem tab_len {α : Type} (n : Nat) (f : Nat → α) : (tab n f).length = n := by simp [tab]
theorem tab_get {α : Type} {n : Nat} (f : Nat → α) (d : α) {i : Nat} (h : i < n) : (tab n f).getD i d = f i := by
  simp [tab, List.getD_eq_getElem?_getD, h]
theorem tab_congr {α : Type} {n : Nat} {f g : Nat → α} (h : ∀ i, i < n → f i = g i) : tab n f = tab n g := by
  unfold tab; exact List.map_congr_left fun i hi => h i (List.mem_range.1 hi)
theorem tab_rep {α : Type} (n : Nat) (d : α) : List.replicate n d = tab n fun _ => d := by
  refine List.ext_getElem (by simp [tab]) fun i h1 h2 => ?_
  simp [tab]
theorem tab_set {α : Type} {n : Nat} (f : Nat → α) (i : Nat) (v : α) : (tab n f).set i v = tab n fun j => if j = i then v else f j := by
  refine List.ext_getElem (by simp [tab]) fun j h1 h2 => ?_
  rw [List.getElem_set]
  simp only [tab, List.getElem_map, List.getElem_range]
  by_cases h : i = j
  · subst h; simp
  · rw [if_neg h, if_neg (fun e => h e.symm)]
theorem tab_of {α : Type} (l : List α) (d : α) : l = tab l.length fun i => l.getD i d := by
  refine List.ext_getElem (by simp [tab]) fun i h1 h2 => ?_
  simp [tab, List.getD_eq_getElem?_getD, h1]
theorem tab_mem {α : Type} {n : Nat} {f : Nat → α} {x : α} (h : x ∈ tab n f) : ∃ i, i < n ∧ f i = x := by
  obtain ⟨i, hi, e⟩ := List.mem_map.1 h
  exact ⟨i, List.mem_range.1 hi, e⟩
theorem tab_succ {α : Type} (n : Nat) (f : Nat → α) : tab (n + 1) f = tab n f ++ [f n] := by
  simp [tab, List.range_succ]

theorem and_i64 (m n : Nat) (hm : m < 2 ^ 63) (hn : n < 2 ^ 63) : bitres .and .i64 m n = ((m &&& n : Nat) : Int) := by
  have hlt : m &&& n < 2 ^ 63 := Nat.lt_of_le_of_lt Nat.and_le_left hm
  show IntKind.wrap .i64 (((BitVec.ofInt 64 (m : Int) &&& BitVec.ofInt 64 (n : Int)).toNat : Nat) : Int) = _
  rw [BitVec.ofInt_natCast, BitVec.ofInt_natCast, BitVec.toNat_and, BitVec.toNat_ofNat, BitVec.toNat_ofNat, Nat.mod_eq_of_lt (by omega), Nat.mod_eq_of_lt (by omega)]
  exact wr_i64 _ ⟨rfl, by omega, by omega⟩
/-- The bits of m that n has not. -/
def andn (m n : Nat) : Nat := (BitVec.ofNat 64 m &&& ~~~ BitVec.ofNat 64 n).toNat
theorem andn_bit (m n i : Nat) (hi : i < 64) : (andn m n).testBit i = (m.testBit i && !n.testBit i) := by
  unfold andn
  rw [BitVec.testBit_toNat, BitVec.getLsbD_and, BitVec.getLsbD_not, BitVec.getLsbD_ofNat, BitVec.getLsbD_ofNat]
  simp [hi]
theorem andn_lt (m n : Nat) : andn m n < 2 ^ 64 := (BitVec.ofNat 64 m &&& ~~~ BitVec.ofNat 64 n).isLt
theorem andn_nat (m n : Nat) : bitres .andNot .u64 m n = ((andn m n : Nat) : Int) := by
  show IntKind.wrap .u64 (((BitVec.ofInt 64 (m : Int) &&& ~~~ BitVec.ofInt 64 (n : Int)).toNat : Nat) : Int) = _
  rw [BitVec.ofInt_natCast, BitVec.ofInt_natCast]
  have h := andn_lt m n
  unfold andn at h ⊢
  exact wr_u64 _ ⟨rfl, by omega, by omega⟩
theorem andn_ne {m n : Nat} : andn m n ≠ 0 ↔ ∃ i, i < 64 ∧ m.testBit i = true ∧ n.testBit i = false := by
  constructor
  · intro h
    refine Classical.byContradiction fun hn => h (Nat.eq_of_testBit_eq fun i => ?_)
    rw [Nat.zero_testBit]
    by_cases hi : i < 64
    · rw [andn_bit m n i hi]
      cases h1 : m.testBit i with
      | false => rfl
      | true =>
        cases h2 : n.testBit i with
        | true => rfl
        | false => exact absurd ⟨i, hi, h1, h2⟩ hn
    · exact Nat.testBit_lt_two_pow (Nat.lt_of_lt_of_le (andn_lt m n) (Nat.pow_le_pow_right (by decide) (by omega)))
  · rintro ⟨i, hi, h1, h2⟩ h0
    have := andn_bit m n i hi
    rw [h0, h1, h2] at this
    simp at this
end Go.Sx
namespace Go.Proofs.YtfocimgpahjkmaaGreatDoor
open Go Go.RowKit Go.Sx

/-- What the cut's items pay. -/
def payF (X : List It) (cut : Nat) : Rat := sumIf X.length (fun i => cut.testBit i) (prF X)
def cutT (X : List It) (J : Nat) (j : Nat) : RR := if j < J then ofQ (payF X j) else zRR
theorem payF_zero (X : List It) : payF X 0 = 0 := by
  unfold payF
  rw [sumIf_congr (q := fun _ => false) (g := prF X) (fun i _ => ⟨Nat.zero_testBit i, rfl⟩), sumIf_none]
theorem L_payF {X : List It} {K : Nat} (hX : ItB K X) (hx8 : X.length ≤ 8) (cut : Nat) : L (payF X cut) ≤ 16 * K + 17 := by
  have h1 := L_sumIf X.length (fun i => cut.testBit i) (prF X) (2 * K + 1) (fun i hi => L_prF hX hi)
  have h4 : X.length * (2 * K + 1 + 1) ≤ 8 * (2 * K + 1 + 1) := Nat.mul_le_mul_right _ hx8
  unfold payF
  omega
theorem procs_len (X : List It) : (procsR X).length = X.length := by simp [procsR]
theorem procs_get (X : List It) {i : Nat} (h : i < X.length) : (procsR X).getD i zRR = ofQ (prF X i) := by
  unfold procsR prF
  simp [List.getD_eq_getElem?_getD, h]
theorem owed_len (l : List RR) : (owedR l).length = l.length := by simp [owedR]
theorem owed_get (l : List RR) {c : Nat} (h : c < l.length) : (owedR l).getD c zRR = ofQ (owF l c) := by
  unfold owedR owF
  simp [List.getD_eq_getElem?_getD, h, fx]

set_option maxHeartbeats 1000000 in
theorem cuts_ok (sP sO sM : Value) (X : List It) (K : Nat) (w : World) (hP : Sl encR 3 w sP (procsR X)) (hXB : ItB K X) (hK : 18 * K + 18 ≤ MX) (hX8 : X.length ≤ 8)
    (hT : At w ⟨1, 0, none⟩ (Kr .u8 tzTab)) :
    Ret Tryz.prog 41 #[.agg #[sP, sO, sM]] w fun v w' => ∃ b, v = .slice (some ⟨b, 0, none⟩) (2 ^ X.length) (2 ^ X.length) ∧ St w w' [(b, 39, (tab (2 ^ X.length) fun j => ofQ (payF X j)).flatMap encR)] := by
  have hM : MX = 1099511627776 := rfl
  have hpl := procs_len X
  obtain ⟨n, hn⟩ : ∃ n, n = 2 ^ X.length := ⟨_, rfl⟩
  have hn1 : 1 ≤ n := by rw [hn]; exact Nat.one_le_two_pow
  have hn256 : n ≤ 256 := by rw [hn]; exact Nat.pow_le_pow_right (n := 2) (by decide) hX8
  have hzero : (List.replicate n zRR) = tab n (cutT X 1) := by
    rw [tab_rep]
    refine tab_congr fun i _ => ?_
    unfold cutT
    split
    · obtain rfl : i = 0 := by omega
      rw [payF_zero, ofQ_zero]; rfl
    · rfl
  have hS := St.init w
  refine enter Tryz.func41 rfl Tryz.ntmps41 rfl ?_
  repeat (with_reducible first | refine c_seq ?_ | refine c_block ?_ | refine c_skip ?_ | refine x_then ?_ | refine x_block ?_)
  refine c_reg ?_
  refine l_heavy rfl (s_box (new := [sP, sO, sM])  rfl rfl hS ?_)
  intro b1 wz1 hS hBz1
  refine l_pure rfl (s_asg  rfl ?_)
  refine l_nil ?_
  repeat (with_reducible first | refine c_seq ?_ | refine c_block ?_ | refine c_skip ?_ | refine x_then ?_ | refine x_block ?_)
  refine c_reg ?_
  refine l_pure rfl (s_fld  rfl fo_68_0 ?_)
  refine l_read rfl (s_ldo (k := 0)  rfl vi_24 hS rfl rfl rfl (.inr rfl) ?_)
  refine l_pure rfl (s_lenr  rfl (hP.below hS.below) ⟨_, Tryz.underlying24⟩ ?_)
  refine l_pure rfl (s_shl  rfl rfl (by omega) (shl_v 1 (procsR X).length ((n : Nat) : Int) (by show _ ≤ 64; omega) (wr_i64 _ ⟨by rw [Nat.one_mul, hpl, hn], by omega, by omega⟩)) ?_)
  refine l_heavy rfl (s_makeE (enc := encR) (n := n) zRR  rfl rfl si_24 rfl (by omega) (by omega) (by omega) (by omega) hS ?_)
  intro bc wz2 hS hBz2
  refine l_pure rfl (s_asg  rfl ?_)
  refine l_nil ?_
  repeat (with_reducible first | refine c_seq ?_ | refine c_block ?_ | refine c_skip ?_ | refine x_then ?_ | refine x_block ?_)
  refine c_reg ?_
  refine l_pure rfl (s_asg  rfl ?_)
  refine l_nil ?_
  repeat (with_reducible first | refine c_seq ?_ | refine c_block ?_ | refine c_skip ?_ | refine x_then ?_ | refine x_block ?_)
  rw [hzero] at hS
  refine c_loop (σ := Nat) (fun j ρ w' => 1 ≤ j ∧ j ≤ n ∧ ρ 1 = .pointer (some ⟨b1, 0, none⟩) ∧ ρ 3 = .slice (some ⟨bc, 0, none⟩) n n ∧ ρ 4 = .int .i64 j ∧
      St w w' [(bc, 39, (tab n (cutT X j)).flatMap encR), (b1, 68, [sP, sO, sM])]) (fun j => n - j) 1
    ⟨Nat.le_refl _, hn1, rfl, rfl, rfl, hS⟩ ?_
  clear hS
  rintro j ρ w2 ⟨hj1, hj, h1, h3, h4, hS⟩
  have htl := tab_len n (cutT X j)
  repeat (with_reducible first | refine c_seq ?_ | refine c_block ?_ | refine c_skip ?_ | refine x_then ?_ | refine x_block ?_)
  refine c_reg ?_
  refine l_pure rfl (s_move  h4 ?_)
  refine l_pure rfl (s_move  h3 ?_)
  refine l_pure rfl (s_leno  rfl ⟨_, Tryz.underlying24⟩ ?_)
  refine l_pure rfl (s_lss  rfl rfl ?_)
  refine l_nil ?_
  repeat (with_reducible first | refine c_seq ?_ | refine c_block ?_ | refine c_skip ?_ | refine x_then ?_ | refine x_block ?_)
  by_cases hlt : j < n
  · refine c_yes rfl (decide_eq_true (by omega)) ?_
    repeat (with_reducible first | refine c_seq ?_ | refine c_block ?_ | refine c_skip ?_ | refine x_then ?_ | refine x_block ?_)
    have hj2 : j < 2 ^ X.length := by rw [← hn]; exact hlt
    obtain ⟨hl1, hl2, hl3, hl4⟩ := low_spec (show j ≠ 0 by omega) hX8 hj2
    have hcut := cut_step (prF X) (show j ≠ 0 by omega) hX8 hj2
    have hval : toQ ((tab n (cutT X j)).getD (j &&& (j - 1)) zRR) + toQ ((procsR X).getD (low j) zRR) = payF X j := by
      rw [tab_get _ _ (by omega), procs_get X hl1, toQ_ofQ]
      unfold cutT
      rw [if_pos hl3, toQ_ofQ]
      unfold payF
      rw [← hcut]
    have hLp := L_payF hXB hX8 (j &&& (j - 1))
    have hLq := L_prF hXB hl1
    have hL1 : Lr ((tab n (cutT X j)).getD (j &&& (j - 1)) zRR) ≤ 16 * K + 17 := by
      rw [tab_get _ _ (by omega)]
      unfold cutT
      rw [if_pos hl3, Lr_ofQ]; exact hLp
    have hL2 : Lr ((procsR X).getD (low j) zRR) ≤ 2 * K + 1 := by rw [procs_get X hl1, Lr_ofQ]; exact hLq
    repeat (with_reducible first | refine c_seq ?_ | refine c_block ?_ | refine c_skip ?_ | refine x_then ?_ | refine x_block ?_)
    refine c_draw [(0, .pure), (1, .pure), (2, .pure), (3, .pure), (4, .pure), (5, .pure), (6, .pure), (7, .pure), (8, .read), (9, .pure), (10, .read), (11, .pure), (12, .pure), (13, .grow), (14, .pure), (15, .read), (16, .grow), (17, .pure), (18, .free)] (by kernel_rfl) (by kernel_rfl) hS ?_
    intro wz3 hS hBz3
    refine w_pure rfl rfl (s_move  h3 ?_)
    refine w_pure rfl rfl (s_move  h4 ?_)
    refine w_pure rfl rfl (s_move  h3 ?_)
    refine w_pure rfl rfl (s_move  h4 ?_)
    refine w_pure rfl rfl (s_move  h4 ?_)
    refine w_pure rfl rfl (s_sub  rfl rfl (r := ((j - 1 : Nat) : Int)) (by exact wr_i64 _ ⟨by omega, by omega, by omega⟩) ?_)
    refine w_pure rfl rfl (s_and  rfl rfl (r := ((j &&& (j - 1) : Nat) : Int)) (by exact and_i64 _ _ (by omega) (by omega)) ?_)
    refine w_pure rfl rfl (s_ixo (i := (j &&& (j - 1)))  rfl rfl (by omega) (by first | omega | (simp; done) | (simp; omega)) si_24 ?_)
    refine w_read rfl rfl (s_ldE (k := 0) (i := (j &&& (j - 1))) (enc := encR) zRR (fun _ => rfl)  rfl vi_39 hS rfl (by omega) (by first | omega | (simp; done) | (simp; omega)) rfl (.inl rfl) ?_)
    refine w_pure rfl rfl (s_fld  h1 fo_68_0 ?_)
    refine w_read rfl rfl (s_ldo (k := 1)  rfl vi_24 hS rfl rfl rfl (.inr rfl) ?_)
    refine w_pure rfl rfl (s_move  h4 ?_)
    refine w_pure rfl rfl (s_conv  rfl Tryz.underlying74 ⟨_, Tryz.underlying3⟩ (IntWalk.u64_in _ (by omega)) ?_)
    refine w_grow rfl rfl (s_call Tryz.call75 rfl (TrailingZeros_ok j _ (by omega) (by omega) (hT.below hS.below)) ?_)
    rintro r w3 ⟨rfl, rfl⟩
    refine ⟨(Below.refl _ _), ?_⟩
    refine w_pure rfl rfl (s_ixr (i := low j)  rfl rfl (hP.below hS.below) (by omega) (by first | omega | (simp; done) | (simp; omega)) si_24 ?_)
    refine w_read rfl rfl (s_lde (i := low j) zRR  rfl vi_39 (hP.below hS.below) (by first | omega | (simp; done) | (simp; omega)) rfl rfl (.inl rfl) ?_)
    refine w_grow rfl rfl (s_call Tryz.call24 rfl (QAdd_ok ((tab n (cutT X j)).getD (j &&& (j - 1)) zRR) ((procsR X).getD (low j) zRR) _ (by omega)) ?_)
    rintro r w3 ⟨rfl, hB3⟩
    refine ⟨hB3, ?_⟩
    rw [hval]
    replace hS := hS.grow hB3
    refine w_pure rfl rfl (s_ixo (i := j)  rfl rfl (by omega) (by first | omega | (simp; done) | (simp; omega)) si_24 ?_)
    refine w_free rfl rfl (s_stE (k := 0) (i := j) (enc := encR) (ofQ (payF X j)) (fun _ => rfl)  rfl rfl vi_39 hS rfl (by omega) (by first | omega | (simp; done) | (simp; omega)) rfl rfl ?_)
    intro wz4 hS
    refine w_end ?_
    repeat (with_reducible first | refine c_seq ?_ | refine c_block ?_ | refine c_skip ?_ | refine x_then ?_ | refine x_block ?_)
    refine c_reg ?_
    refine l_pure rfl (s_move  h4 ?_)
    refine l_pure rfl (s_add  rfl rfl (IntWalk.i64_in _ (by omega)) ?_)
    refine l_pure rfl (s_asg  rfl ?_)
    refine l_nil ?_
    repeat (with_reducible first | refine c_seq ?_ | refine c_block ?_ | refine c_skip ?_ | refine x_then ?_ | refine x_block ?_)
    refine ⟨j + 1, _, rfl, ⟨by omega, by omega, h1, h3, vi rfl (by omega), hS.cast ?_⟩, by omega⟩
    show [_, _] = _
    rw [tab_set, tab_congr (f := fun i => if i = j then ofQ (payF X j) else cutT X j i) (g := cutT X (j + 1)) fun i hi => ?_]
    unfold cutT
    by_cases e : i = j
    · subst e; rw [if_pos rfl, if_pos (by omega)]
    · rw [if_neg e]
      by_cases e2 : i < j
      · rw [if_pos e2, if_pos (by omega)]
      · rw [if_neg e2, if_neg (by omega)]
  · refine c_no rfl (decide_eq_false (by omega)) ?_
    repeat (with_reducible first | refine c_seq ?_ | refine c_block ?_ | refine c_skip ?_ | refine x_then ?_ | refine x_block ?_)
    refine c_exit ?_
    repeat (with_reducible first | refine x_then_exit ?_ | refine x_block_exit ?_ | refine x_block_pass rfl ?_)
    repeat (with_reducible first | refine c_seq ?_ | refine c_block ?_ | refine c_skip ?_ | refine x_then ?_ | refine x_block ?_)
    obtain rfl : j = n := by omega
    repeat (with_reducible first | refine c_seq ?_ | refine c_block ?_ | refine c_skip ?_ | refine x_then ?_ | refine x_block ?_)
    refine c_reg ?_
    refine l_pure rfl (s_move  h3 ?_)
    refine l_pure rfl (s_asg  rfl ?_)
    refine l_nil ?_
    repeat (with_reducible first | refine c_seq ?_ | refine c_block ?_ | refine c_skip ?_ | refine x_then ?_ | refine x_block ?_)
    refine c_ret ?_
    repeat (with_reducible first | refine x_then_ret ?_ | refine x_block_ret ?_)
    refine r_one rfl rfl ?_
    subst hn
    refine ⟨bc, rfl, ?_⟩
    refine (hS.drop (H' := [_]) (List.sublist_append_left [_] _)).cast ?_
    rw [tab_congr (f := cutT X (2 ^ X.length)) (g := fun j => ofQ (payF X j)) fun i hi => by unfold cutT; rw [if_pos hi]]
end Go.Proofs.YtfocimgpahjkmaaGreatDoor
namespace Go.Proofs.YtfocimgpahjkmaaGreatDoor
open Go Go.RowKit Go.Sx

theorem outs_andn {X : List It} {m c : Nat} {R : List Nat} (hR : Masks X m X.length 0 R) (hX8 : X.length ≤ 8) (hc : c < m) (j : Nat) : andn (R.getD c 0) j ≠ 0 ↔ outs X j c = true := by
  have hlt := hR.lt c hc
  have hbit := hR.bit c hc
  rw [andn_ne, outs, List.any_eq_true]
  constructor
  · rintro ⟨i, _, h1, h2⟩
    rw [hbit] at h1
    simp only [List.take_zero, List.any_nil, Bool.and_false, Bool.or_false, Bool.and_eq_true, decide_eq_true_eq] at h1
    exact ⟨i, List.mem_range.2 h1.1, by rw [h1.2, h2]; rfl⟩
  · rintro ⟨i, hi, h⟩
    have hi := List.mem_range.1 hi
    simp only [Bool.and_eq_true, Bool.not_eq_true'] at h
    refine ⟨i, by omega, ?_, h.1⟩
    rw [hbit, decide_eq_true hi, h.2]; rfl

def dlt (X : List It) (owed : List RR) (c j : Nat) : Rat := if outs X j c = true then owF owed c else 0
def rowT (q : Nat → Rat) (d : Nat → Rat) (J j : Nat) : RR := ofQ (if j < J then q j + d j else q j)
theorem rowT_set {q d : Nat → Rat} {n j : Nat} (hj : j < n) : (tab n (rowT q d j)).set j (ofQ (q j + d j)) = tab n (rowT q d (j + 1)) := by
  rw [tab_set]
  refine tab_congr fun i hi => ?_
  unfold rowT
  by_cases e : i = j
  · subst e; rw [if_pos rfl, if_pos (by omega)]
  · rw [if_neg e]
    by_cases e2 : i < j
    · rw [if_pos e2, if_pos (by omega)]
    · rw [if_neg e2, if_neg (by omega)]

set_option maxHeartbeats 1000000 in
theorem nadd_ok (sP sO sM : Value) (b N c K KL : Nat) (q : Nat → Rat) (X : List It) (owed : List RR) (R : List Nat) (w0 w : World) (H : List Blk) (hS : St w0 w ((b, 39, (tab N fun j => ofQ (q j)).flatMap encR) :: H))
    (hO : ∀ w' C, St w0 w' ((b, 39, C) :: H) → Sl encR 3 w' sO (owedR owed)) (hMr : ∀ w' C, St w0 w' ((b, 39, C) :: H) → Sl (uk .u64) 1 w' sM R)
    (hN : N ≤ 256) (hX8 : X.length ≤ 8) (hc : c < owed.length) (hR : Masks X owed.length X.length 0 R) (hq : ∀ j, j < N → L (q j) ≤ K) (hoB : RB KL owed) (hK : K + KL ≤ MX) :
    Ret Tryz.prog 42 #[.agg #[sP, sO, sM], .slice (some ⟨b, 0, none⟩) N N, .int .i64 c] w fun v w' => v = .tuple #[] ∧ St w0 w' ((b, 39, (tab N fun j => ofQ (q j + dlt X owed c j)).flatMap encR) :: H) := by
  have hM : MX = 1099511627776 := rfl
  have hRl := hR.len
  have hcR : c < R.length := by omega
  have hol := owed_len owed
  have hmx := (hO _ _ hS).maxLen
  have hRlt := hR.lt c hc
  have h00 : (tab N fun j => ofQ (q j)) = tab N (rowT q (dlt X owed c) 0) := tab_congr fun i _ => by unfold rowT; rw [if_neg (Nat.not_lt_zero _)]
  rw [h00] at hS
  refine enter Tryz.func42 rfl Tryz.ntmps42 rfl ?_
  repeat (with_reducible first | refine c_seq ?_ | refine c_block ?_ | refine c_skip ?_ | refine x_then ?_ | refine x_block ?_)
  refine c_reg ?_
  refine l_heavy rfl (s_box (new := [sP, sO, sM])  rfl rfl hS ?_)
  intro b3 wz1 hS hBz1
  refine l_nil ?_
  repeat (with_reducible first | refine c_seq ?_ | refine c_block ?_ | refine c_skip ?_ | refine x_then ?_ | refine x_block ?_)
  refine c_reg ?_
  refine l_pure rfl (s_move  rfl ?_)
  refine l_pure rfl (s_leno  rfl ⟨_, Tryz.underlying24⟩ ?_)
  refine l_pure rfl (s_move  rfl ?_)
  refine l_nil ?_
  repeat (with_reducible first | refine c_seq ?_ | refine c_block ?_ | refine c_skip ?_ | refine x_then ?_ | refine x_block ?_)
  refine c_loop (σ := Nat) (fun j ρ w' => j ≤ N ∧ ρ 1 = .slice (some ⟨b, 0, none⟩) N N ∧ ρ 2 = .int .i64 c ∧ ρ 3 = .pointer (some ⟨b3, 0, none⟩) ∧ ρ 8 = .int .i64 N ∧ ρ 9 = .int .i64 j ∧
      St w0 w' ((b3, 68, [sP, sO, sM]) :: (b, 39, (tab N (rowT q (dlt X owed c) j)).flatMap encR) :: H)) (fun j => N - j) 0
    ⟨Nat.zero_le _, rfl, rfl, rfl, rfl, rfl, hS⟩ ?_
  clear hS
  rintro j ρ w2 ⟨hj, h1, h2, h3, h8, h9, hS⟩
  have htl := tab_len N (rowT q (dlt X owed c) j)
  repeat (with_reducible first | refine c_seq ?_ | refine c_block ?_ | refine c_skip ?_ | refine x_then ?_ | refine x_block ?_)
  refine c_reg ?_
  refine l_pure rfl (s_lss  h9 h8 ?_)
  refine l_nil ?_
  repeat (with_reducible first | refine c_seq ?_ | refine c_block ?_ | refine c_skip ?_ | refine x_then ?_ | refine x_block ?_)
  by_cases hlt : j < N
  · refine c_yes rfl (decide_eq_true (by omega)) ?_
    repeat (with_reducible first | refine c_seq ?_ | refine c_block ?_ | refine c_skip ?_ | refine x_then ?_ | refine x_block ?_)
    refine c_reg ?_
    refine l_pure rfl (s_move  h9 ?_)
    refine l_pure rfl (s_asg  rfl ?_)
    refine l_nil ?_
    repeat (with_reducible first | refine c_seq ?_ | refine c_block ?_ | refine c_skip ?_ | refine x_then ?_ | refine x_block ?_)
    refine c_reg ?_
    refine l_pure rfl (s_fld  h3 fo_68_2 ?_)
    refine l_read rfl (s_ldo (k := 0)  rfl vi_66 hS rfl rfl rfl (.inr rfl) ?_)
    refine l_pure rfl (s_move  h2 ?_)
    refine l_pure rfl (s_ixr (i := c)  rfl rfl (hMr _ _ (hS.drop (List.sublist_cons_self _ _))) (by omega) (by first | omega | (simp; done) | (simp; omega)) si_66 ?_)
    refine l_read rfl (s_lde (i := c) 0  rfl vi_74 (hMr _ _ (hS.drop (List.sublist_cons_self _ _))) (by first | omega | (simp; done) | (simp; omega)) rfl rfl (.inr rfl) ?_)
    refine l_pure rfl (s_move  rfl ?_)
    refine l_pure rfl (s_conv  rfl Tryz.underlying74 ⟨_, Tryz.underlying3⟩ (IntWalk.u64_in _ (by omega)) ?_)
    refine l_pure rfl (s_andn  rfl rfl (r := ((andn (R.getD c 0) j : Nat) : Int)) (by exact andn_nat _ _) ?_)
    refine l_pure rfl (s_neq  rfl rfl ?_)
    refine l_nil ?_
    repeat (with_reducible first | refine c_seq ?_ | refine c_skip ?_ | refine x_then ?_ | refine x_block ?_)
    refine c_cut1 (fun ρ w' => ρ 1 = .slice (some ⟨b, 0, none⟩) N N ∧ ρ 2 = .int .i64 c ∧ ρ 3 = .pointer (some ⟨b3, 0, none⟩) ∧ ρ 8 = .int .i64 N ∧ ρ 9 = .int .i64 j ∧
      St w0 w' ((b3, 68, [sP, sO, sM]) :: (b, 39, (tab N (rowT q (dlt X owed c) (j + 1))).flatMap encR) :: H)) ?_ ?_
    · have han := outs_andn hR hX8 hc j
      repeat (with_reducible first | refine c_seq ?_ | refine c_block ?_ | refine c_skip ?_ | refine x_then ?_ | refine x_block ?_)
      by_cases ho : outs X j c = true
      · have hne := han.2 ho
        refine c_yes rfl (decide_eq_true (by omega)) ?_
        repeat (with_reducible first | refine c_seq ?_ | refine c_block ?_ | refine c_skip ?_ | refine x_then ?_ | refine x_block ?_)
        have hval : toQ ((tab N (rowT q (dlt X owed c) j)).getD j zRR) + toQ ((owedR owed).getD c zRR) = q j + dlt X owed c j := by
          rw [tab_get _ _ hlt, owed_get owed hc, toQ_ofQ]
          unfold rowT dlt
          rw [if_neg (Nat.lt_irrefl _), toQ_ofQ, if_pos ho]
        have hL1 : Lr ((tab N (rowT q (dlt X owed c) j)).getD j zRR) ≤ K := by
          rw [tab_get _ _ hlt]
          unfold rowT
          rw [if_neg (Nat.lt_irrefl _), Lr_ofQ]; exact hq j hlt
        have hL2 : Lr ((owedR owed).getD c zRR) ≤ KL := by rw [owed_get owed hc, Lr_ofQ]; exact L_owF hoB hc
        repeat (with_reducible first | refine c_seq ?_ | refine c_block ?_ | refine c_skip ?_ | refine x_then ?_ | refine x_block ?_)
        refine c_draw [(0, .pure), (1, .pure), (2, .pure), (3, .pure), (4, .pure), (5, .read), (6, .pure), (7, .read), (8, .pure), (9, .pure), (10, .read), (11, .grow), (12, .pure), (13, .free)] (by kernel_rfl) (by kernel_rfl) hS ?_
        intro wz2 hS hBz2
        refine w_pure rfl rfl (s_move  h1 ?_)
        refine w_pure rfl rfl (s_move  rfl ?_)
        refine w_pure rfl rfl (s_move  h1 ?_)
        refine w_pure rfl rfl (s_move  rfl ?_)
        refine w_pure rfl rfl (s_ixo (i := j)  rfl rfl (by omega) (by first | omega | (simp; done) | (simp; omega)) si_24 ?_)
        refine w_read rfl rfl (s_ldE (k := 1) (i := j) (enc := encR) zRR (fun _ => rfl)  rfl vi_39 hS rfl (by omega) (by first | omega | (simp; done) | (simp; omega)) rfl (.inl rfl) ?_)
        refine w_pure rfl rfl (s_fld  h3 fo_68_1 ?_)
        refine w_read rfl rfl (s_ldo (k := 0)  rfl vi_24 hS rfl rfl rfl (.inr rfl) ?_)
        refine w_pure rfl rfl (s_move  h2 ?_)
        refine w_pure rfl rfl (s_ixr (i := c)  rfl rfl (hO _ _ (hS.drop (List.sublist_cons_self _ _))) (by omega) (by first | omega | (simp; done) | (simp; omega)) si_24 ?_)
        refine w_read rfl rfl (s_lde (i := c) zRR  rfl vi_39 (hO _ _ (hS.drop (List.sublist_cons_self _ _))) (by first | omega | (simp; done) | (simp; omega)) rfl rfl (.inl rfl) ?_)
        refine w_grow rfl rfl (s_call Tryz.call24 rfl (QAdd_ok ((tab N (rowT q (dlt X owed c) j)).getD j zRR) ((owedR owed).getD c zRR) _ (by omega)) ?_)
        rintro r w3 ⟨rfl, hB3⟩
        refine ⟨hB3, ?_⟩
        rw [hval]
        replace hS := hS.grow hB3
        refine w_pure rfl rfl (s_ixo (i := j)  rfl rfl (by omega) (by first | omega | (simp; done) | (simp; omega)) si_24 ?_)
        refine w_free rfl rfl (s_stE (k := 1) (i := j) (enc := encR) (ofQ (q j + dlt X owed c j)) (fun _ => rfl)  rfl rfl vi_39 hS rfl (by omega) (by first | omega | (simp; done) | (simp; omega)) rfl rfl ?_)
        intro wz3 hS
        refine w_end ?_
        repeat (with_reducible first | refine c_seq ?_ | refine c_block ?_ | refine c_skip ?_ | refine x_then ?_ | refine x_block ?_)
        refine ⟨_, rfl, h1, h2, h3, h8, h9, hS.cast ?_⟩
        show _ :: _ :: _ = _
        rw [rowT_set hlt]
      · have hne : andn (R.getD c 0) j = 0 := Decidable.not_not.1 (fun h => ho (han.1 h))
        refine c_no rfl (decide_eq_false (by omega)) ?_
        repeat (with_reducible first | refine c_seq ?_ | refine c_block ?_ | refine c_skip ?_ | refine x_then ?_ | refine x_block ?_)
        refine ⟨_, rfl, h1, h2, h3, h8, h9, hS.cast ?_⟩
        have : tab N (rowT q (dlt X owed c) j) = tab N (rowT q (dlt X owed c) (j + 1)) := tab_congr fun i hi => by
          unfold rowT
          by_cases e : i = j
          · subst e; rw [if_neg (Nat.lt_irrefl _), if_pos (Nat.lt_succ_self _)]; unfold dlt; rw [if_neg ho, Rat.add_zero]
          · by_cases e2 : i < j
            · rw [if_pos e2, if_pos (by omega)]
            · rw [if_neg e2, if_neg (by omega)]
        rw [this]
    clear hS
    rintro ρ w3 ⟨h1, h2, h3, h8, h9, hS⟩
    repeat (with_reducible first | refine c_seq ?_ | refine c_block ?_ | refine c_skip ?_ | refine x_then ?_ | refine x_block ?_)
    refine c_reg ?_
    refine l_pure rfl (s_add  h9 rfl (IntWalk.i64_in _ (by omega)) ?_)
    refine l_pure rfl (s_move  rfl ?_)
    refine l_nil ?_
    repeat (with_reducible first | refine c_seq ?_ | refine c_block ?_ | refine c_skip ?_ | refine x_then ?_ | refine x_block ?_)
    exact ⟨j + 1, _, rfl, ⟨hlt, h1, h2, h3, h8, vi rfl (by omega), hS⟩, by omega⟩
  · refine c_no rfl (decide_eq_false (by omega)) ?_
    repeat (with_reducible first | refine c_seq ?_ | refine c_block ?_ | refine c_skip ?_ | refine x_then ?_ | refine x_block ?_)
    refine c_exit ?_
    repeat (with_reducible first | refine x_then_exit ?_ | refine x_block_exit ?_ | refine x_block_pass rfl ?_)
    repeat (with_reducible first | refine c_seq ?_ | refine c_block ?_ | refine c_skip ?_ | refine x_then ?_ | refine x_block ?_)
    obtain rfl : j = N := by omega
    refine r_none rfl ⟨rfl, (hS.drop (List.sublist_cons_self _ _)).cast ?_⟩
    rw [tab_congr (f := rowT q (dlt X owed c) j) (g := fun j => ofQ (q j + dlt X owed c j)) fun i hi => by unfold rowT; rw [if_pos hi]]

theorem least_ok (v : Value) (q : Nat → Rat) (N K : Nat) (w : World) (hv : Sl encR 3 w v (tab N fun j => ofQ (q j))) (hN : 0 < N) (hq : ∀ j, j < N → L (q j) ≤ K) (hK : 2 * K ≤ MX) :
    Ret Tryz.prog 43 #[v] w fun r w' => r = aggR (ofQ (mins q N)) ∧ Below w.heap.size w w' := by
  have hM : MX = 1099511627776 := rfl
  have hmx := hv.maxLen
  have htl := tab_len N fun j => ofQ (q j)
  have hg : ∀ i, i < N → (tab N fun j => ofQ (q j)).getD i zRR = ofQ (q i) := fun i hi => tab_get _ _ hi
  rw [htl] at hmx
  have hS := St.init w
  refine enter Tryz.func43 rfl Tryz.ntmps43 rfl ?_
  repeat (with_reducible first | refine c_seq ?_ | refine c_block ?_ | refine c_skip ?_ | refine x_then ?_ | refine x_block ?_)
  refine c_reg ?_
  refine l_heavy rfl (s_alloc  vi_39 hS ?_)
  intro b2 wz1 hS hBz1
  refine l_nil ?_
  repeat (with_reducible first | refine c_seq ?_ | refine c_block ?_ | refine c_skip ?_ | refine x_then ?_ | refine x_block ?_)
  refine c_reg ?_
  refine l_pure rfl (s_move  rfl ?_)
  refine l_pure rfl (s_ixr (i := 0)  rfl rfl (hv.below hS.below) (by omega) (by first | omega | (simp; done) | (simp; omega)) si_24 ?_)
  refine l_read rfl (s_lde (i := 0) zRR  rfl vi_39 (hv.below hS.below) (by first | omega | (simp; done) | (simp; omega)) rfl rfl (.inl rfl) ?_)
  refine l_heavy rfl (s_alloc  vi_39 hS ?_)
  intro b3 wz2 hS hBz2
  refine l_heavy rfl (s_sta (k := 0)  rfl rfl vi_39 hS rfl rfl rfl (Nat.le_of_ble_eq_true rfl) rfl ?_)
  intro wz3 hS
  refine l_nil ?_
  repeat (with_reducible first | refine c_seq ?_ | refine c_block ?_ | refine c_skip ?_ | refine x_then ?_ | refine x_block ?_)
  refine c_reg ?_
  refine l_pure rfl (s_move  rfl ?_)
  refine l_pure rfl (s_lenr  rfl (hv.below hS.below) ⟨_, Tryz.underlying24⟩ ?_)
  refine l_pure rfl (s_move  rfl ?_)
  refine l_nil ?_
  repeat (with_reducible first | refine c_seq ?_ | refine c_block ?_ | refine c_skip ?_ | refine x_then ?_ | refine x_block ?_)
  rw [htl]
  have hg0 := hg 0 hN
  replace hS : St w _ [(b3, 39, encR ((tab N fun j => ofQ (q j)).getD 0 zRR)), (b2, 39, encR zRR)] := hS
  rw [hg0] at hS
  refine c_loop (σ := Nat) (fun i ρ w' => i ≤ N ∧ ρ 0 = v ∧ ρ 2 = .pointer (some ⟨b2, 0, none⟩) ∧ ρ 3 = .pointer (some ⟨b3, 0, none⟩) ∧ ρ 9 = v ∧ ρ 10 = .int .i64 N ∧ ρ 11 = .int .i64 i ∧
      St w w' [(b3, 39, encR (ofQ (mins q i))), (b2, 39, encR zRR)]) (fun i => N - i) 0
    ⟨Nat.zero_le _, rfl, rfl, rfl, rfl, rfl, rfl, hS⟩ ?_
  clear hS
  rintro i ρ w2 ⟨hi, h0, h2, h3, h9, h10, h11, hS⟩
  repeat (with_reducible first | refine c_seq ?_ | refine c_block ?_ | refine c_skip ?_ | refine x_then ?_ | refine x_block ?_)
  refine c_reg ?_
  refine l_pure rfl (s_lss  h11 h10 ?_)
  refine l_nil ?_
  repeat (with_reducible first | refine c_seq ?_ | refine c_block ?_ | refine c_skip ?_ | refine x_then ?_ | refine x_block ?_)
  by_cases hlt : i < N
  · refine c_yes rfl (decide_eq_true (by omega)) ?_
    repeat (with_reducible first | refine c_seq ?_ | refine c_block ?_ | refine c_skip ?_ | refine x_then ?_ | refine x_block ?_)
    have hgi := hg i hlt
    have hLi := hq i hlt
    have hLm : L (mins q i) ≤ K := L_mins q K i (fun k hk => hq k (by omega))
    repeat (with_reducible first | refine c_seq ?_ | refine c_block ?_ | refine c_skip ?_ | refine x_then ?_ | refine x_block ?_)
    refine c_reg ?_
    refine l_pure rfl (s_ixr (i := i)  h9 h11 (hv.below hS.below) (by omega) (by first | omega | (simp; done) | (simp; omega)) si_24 ?_)
    refine l_read rfl (s_lde (i := i) zRR  rfl vi_39 (hv.below hS.below) (by first | omega | (simp; done) | (simp; omega)) rfl rfl (.inl rfl) ?_)
    refine l_heavy rfl (s_alloc  vi_39 hS ?_)
    intro b5 wz4 hS hBz4
    refine l_heavy rfl (s_sta (k := 0)  rfl rfl vi_39 hS rfl rfl rfl (Nat.le_of_ble_eq_true rfl) rfl ?_)
    intro wz5 hS
    refine l_nil ?_
    repeat (with_reducible first | refine c_seq ?_ | refine c_block ?_ | refine c_skip ?_ | refine x_then ?_ | refine x_block ?_)
    replace hS : St w _ [(b5, 39, encR ((tab N fun j => ofQ (q j)).getD i zRR)), (b3, 39, encR (ofQ (mins q i))), (b2, 39, encR zRR)] := hS
    rw [hgi] at hS
    repeat (with_reducible first | refine c_seq ?_ | refine c_block ?_ | refine c_skip ?_ | refine x_then ?_ | refine x_block ?_)
    refine c_reg ?_
    refine l_read rfl (s_ldo (k := 1)  h3 vi_39 hS rfl rfl rfl (.inl rfl) ?_)
    refine l_read rfl (s_ldo (k := 0)  rfl vi_39 hS rfl rfl rfl (.inl rfl) ?_)
    refine l_heavy rfl (s_call Tryz.call34 rfl (QMin_ok (ofQ (mins q i)) (ofQ (q i)) _ (by rw [Lr_ofQ, Lr_ofQ]; omega)) ?_)
    rintro r w3 ⟨rfl, hB3⟩
    rw [toQ_ofQ, toQ_ofQ]
    replace hS := hS.grow hB3
    refine l_heavy rfl (s_sta (k := 1)  h3 rfl vi_39 hS rfl rfl rfl (Nat.le_of_ble_eq_true rfl) rfl ?_)
    intro wz6 hS
    refine l_nil ?_
    repeat (with_reducible first | refine c_seq ?_ | refine c_block ?_ | refine c_skip ?_ | refine x_then ?_ | refine x_block ?_)
    refine c_reg ?_
    refine l_pure rfl (s_add  h11 rfl (IntWalk.i64_in _ (by omega)) ?_)
    refine l_pure rfl (s_move  rfl ?_)
    refine l_nil ?_
    repeat (with_reducible first | refine c_seq ?_ | refine c_block ?_ | refine c_skip ?_ | refine x_then ?_ | refine x_block ?_)
    exact ⟨i + 1, _, rfl, ⟨hlt, h0, h2, h3, h9, h10, vi rfl (by omega), hS.drop (List.sublist_cons_self _ _)⟩, by omega⟩
  · refine c_no rfl (decide_eq_false (by omega)) ?_
    repeat (with_reducible first | refine c_seq ?_ | refine c_block ?_ | refine c_skip ?_ | refine x_then ?_ | refine x_block ?_)
    refine c_exit ?_
    repeat (with_reducible first | refine x_then_exit ?_ | refine x_block_exit ?_ | refine x_block_pass rfl ?_)
    repeat (with_reducible first | refine c_seq ?_ | refine c_block ?_ | refine c_skip ?_ | refine x_then ?_ | refine x_block ?_)
    obtain rfl : i = N := by omega
    repeat (with_reducible first | refine c_seq ?_ | refine c_block ?_ | refine c_skip ?_ | refine x_then ?_ | refine x_block ?_)
    refine c_reg ?_
    refine l_read rfl (s_ldo (k := 0)  h3 vi_39 hS rfl rfl rfl (.inl rfl) ?_)
    refine l_heavy rfl (s_sta (k := 1)  h2 rfl vi_39 hS rfl rfl rfl (Nat.le_of_ble_eq_true rfl) rfl ?_)
    intro wz7 hS
    refine l_nil ?_
    repeat (with_reducible first | refine c_seq ?_ | refine c_block ?_ | refine c_skip ?_ | refine x_then ?_ | refine x_block ?_)
    refine c_ret ?_
    repeat (with_reducible first | refine x_then_ret ?_ | refine x_block_ret ?_)
    refine r_cell (k := 1) rfl h2 vi_39 hS rfl rfl ?_
    exact ⟨rfl, hS.below⟩
end Go.Proofs.YtfocimgpahjkmaaGreatDoor
