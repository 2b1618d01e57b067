/-
  Part 2 of the texts that the law's proof is made of: the framework and the walks.
-/
import Derived.Test.YtmghobajmhdbfaaGreatDoorPd1
import Derived.Lib.Bytealg
import Derived.Lib.Strings
import Derived.Lib.Slices
import Derived.Lib.Small
import Derived.Lib.Walk
import Derived.Lib.BitFns
namespace Go.Proofs.YtmghobajmhdbfaaGreatDoor
open Go Go.RowKit Go.Sx
def cmpI (m n : Nat) : Int := if m < n then -1 else if n < m then 1 else 0
theorem cmpI_self (n : Nat) : cmpI n n = 0 := by simp [cmpI]
theorem cmpI_lt {m n : Nat} (h : m < n) : cmpI m n = -1 := by simp [cmpI, h]
theorem cmpI_gt {m n : Nat} (h : n < m) : cmpI m n = 1 := by simp [cmpI, h, show ¬ m < n by omega]
theorem div_step (b m i : Nat) : m / b ^ i = b * (m / b ^ (i + 1)) + dgt b m i := by
  unfold dgt
  rw [Nat.pow_succ, ← Nat.div_div_eq_div_mul]
  exact (Nat.div_add_mod _ _).symm
theorem lt_of_div_lt' {b m n i : Nat} (h : m / b ^ i < n / b ^ i) : m < n := by
  rcases Nat.lt_or_ge m n with h1 | h1
  · exact h1
  · have := Nat.div_le_div_right (c := b ^ i) h1; omega
theorem limb_len_lt {m n : Nat} (h : (limb m).length < (limb n).length) : m < n := by
  rcases Nat.lt_or_ge m n with h1 | h1
  · exact h1
  · have := digs_length_mono (b := B32) (by decide) h1; unfold limb at h; omega
theorem sign_ok (n : Int) (w : World) :
    Ret Tryz.prog 60 #[.int .i64 n] w fun r w' => r = .int .i64 (if n < 0 then -1 else if 0 < n then 1 else 0) ∧ w' = w := by
  refine enter Tryz.func60 rfl Tryz.ntmps60 rfl ?_
  repeat (with_reducible first | refine c_seq ?_ | refine c_block ?_ | refine c_skip ?_ | refine x_then ?_ | refine x_block ?_)
  refine c_reg ?_
  refine l_pure rfl (s_asg  rfl ?_)
  refine l_nil ?_
  repeat (with_reducible first | refine c_seq ?_ | refine c_block ?_ | refine c_skip ?_ | refine x_then ?_ | refine x_block ?_)
  refine c_reg ?_
  refine l_pure rfl (s_move  rfl ?_)
  refine l_pure rfl (s_lss  rfl rfl ?_)
  refine l_pure rfl (s_asg  rfl ?_)
  refine l_nil ?_
  repeat (with_reducible first | refine c_seq ?_ | refine c_block ?_ | refine c_skip ?_ | refine x_then ?_ | refine x_block ?_)
  by_cases h1 : n < 0
  · refine c_yes rfl (decide_eq_true h1) ?_
    repeat (with_reducible first | refine c_seq ?_ | refine c_block ?_ | refine c_skip ?_ | refine x_then ?_ | refine x_block ?_)
    refine c_reg ?_
    refine l_pure rfl (s_asg  rfl ?_)
    refine l_nil ?_
    repeat (with_reducible first | refine c_seq ?_ | refine c_block ?_ | refine c_skip ?_ | refine x_then ?_ | refine x_block ?_)
    refine c_ret ?_
    repeat (with_reducible first | refine x_then_ret ?_ | refine x_block_ret ?_)
    refine r_one rfl rfl ?_
    exact ⟨vi rfl (by rw [if_pos h1]), rfl⟩
  · refine c_no rfl (decide_eq_false h1) ?_
    repeat (with_reducible first | refine c_seq ?_ | refine c_block ?_ | refine c_skip ?_ | refine x_then ?_ | refine x_block ?_)
    refine c_reg ?_
    refine l_pure rfl (s_move  rfl ?_)
    refine l_pure rfl (s_gtr  rfl rfl ?_)
    refine l_pure rfl (s_asg  rfl ?_)
    refine l_nil ?_
    repeat (with_reducible first | refine c_seq ?_ | refine c_block ?_ | refine c_skip ?_ | refine x_then ?_ | refine x_block ?_)
    by_cases h2 : 0 < n
    · refine c_yes rfl (decide_eq_true h2) ?_
      repeat (with_reducible first | refine c_seq ?_ | refine c_block ?_ | refine c_skip ?_ | refine x_then ?_ | refine x_block ?_)
      refine c_reg ?_
      refine l_pure rfl (s_asg  rfl ?_)
      refine l_nil ?_
      repeat (with_reducible first | refine c_seq ?_ | refine c_block ?_ | refine c_skip ?_ | refine x_then ?_ | refine x_block ?_)
      refine c_ret ?_
      repeat (with_reducible first | refine x_then_ret ?_ | refine x_block_ret ?_)
      refine r_one rfl rfl ?_
      exact ⟨vi rfl (by rw [if_neg h1, if_pos h2]), rfl⟩
    · refine c_no rfl (decide_eq_false h2) ?_
      repeat (with_reducible first | refine c_seq ?_ | refine c_block ?_ | refine c_skip ?_ | refine x_then ?_ | refine x_block ?_)
      refine c_reg ?_
      refine l_pure rfl (s_asg  rfl ?_)
      refine l_nil ?_
      repeat (with_reducible first | refine c_seq ?_ | refine c_block ?_ | refine c_skip ?_ | refine x_then ?_ | refine x_block ?_)
      refine c_ret ?_
      repeat (with_reducible first | refine x_then_ret ?_ | refine x_block_ret ?_)
      refine r_one rfl rfl ?_
      exact ⟨vi rfl (by rw [if_neg h1, if_neg h2]), rfl⟩
theorem sign_len {m n : Nat} (h : (limb m).length ≠ (limb n).length) : (if ((limb m).length : Int) - ((limb n).length : Int) < 0 then -1 else if 0 < ((limb m).length : Int) - ((limb n).length : Int) then 1 else 0) = cmpI m n := by
  rcases Nat.lt_or_ge (limb m).length (limb n).length with h1 | h1
  · rw [if_pos (by omega), cmpI_lt (limb_len_lt h1)]
  · rw [if_neg (by omega), if_pos (by omega), cmpI_gt (limb_len_lt (by omega))]
theorem compare_ok (u v : Value) (m n : Nat) (w : World) (hu : Sl (uk .u32) 1 w u (limb m)) (hv : Sl (uk .u32) 1 w v (limb n)) :
    Ret Tryz.prog 93 #[u, v] w fun r w' => r = .int .i64 (cmpI m n) ∧ Below w.heap.size w w' := by
  have hlu := hu.maxLen
  have hlv := hv.maxLen
  have hS := St.init w
  refine enter Tryz.func93 rfl Tryz.ntmps93 rfl ?_
  repeat (with_reducible first | refine c_seq ?_ | refine c_block ?_ | refine c_skip ?_ | refine x_then ?_ | refine x_block ?_)
  refine c_reg ?_
  refine l_pure rfl (s_asg  rfl ?_)
  refine l_nil ?_
  repeat (with_reducible first | refine c_seq ?_ | refine c_block ?_ | refine c_skip ?_ | refine x_then ?_ | refine x_block ?_)
  refine c_reg ?_
  refine l_pure rfl (s_move  rfl ?_)
  refine l_pure rfl (s_lenr  rfl (hu.below hS.below) ⟨_, Tryz.underlying92⟩ ?_)
  refine l_pure rfl (s_move  rfl ?_)
  refine l_pure rfl (s_lenr  rfl (hv.below hS.below) ⟨_, Tryz.underlying92⟩ ?_)
  refine l_pure rfl (s_neq  rfl rfl ?_)
  refine l_nil ?_
  repeat (with_reducible first | refine c_seq ?_ | refine c_block ?_ | refine c_skip ?_ | refine x_then ?_ | refine x_block ?_)
  by_cases hl : (limb m).length = (limb n).length
  · refine c_no rfl (decide_eq_false (by simp [hl])) ?_
    repeat (with_reducible first | refine c_seq ?_ | refine c_block ?_ | refine c_skip ?_ | refine x_then ?_ | refine x_block ?_)
    refine c_reg ?_
    refine l_pure rfl (s_move  rfl ?_)
    refine l_pure rfl (s_lenr  rfl (hu.below hS.below) ⟨_, Tryz.underlying92⟩ ?_)
    refine l_pure rfl (s_sub  rfl rfl (IntWalk.i64_in _ (by omega)) ?_)
    refine l_pure rfl (s_asg  rfl ?_)
    refine l_nil ?_
    repeat (with_reducible first | refine c_seq ?_ | refine c_block ?_ | refine c_skip ?_ | refine x_then ?_ | refine x_block ?_)
    refine c_loop (σ := Nat) (fun i ρ w' => i ≤ (limb m).length ∧ m / B32 ^ i = n / B32 ^ i ∧ ρ 0 = u ∧ ρ 1 = v ∧ ρ 5 = .int .i64 ((i : Int) - 1) ∧ St w w' []) (fun i => i) (limb m).length
      ⟨Nat.le_refl _, ?_, rfl, rfl, rfl, hS⟩ ?_
    · have h1 : m < B32 ^ (limb m).length := lt_pow_digs_length (by decide) m
      have h2 : n < B32 ^ (limb n).length := lt_pow_digs_length (by decide) n
      rw [Nat.div_eq_of_lt h1, hl, Nat.div_eq_of_lt h2]
    clear hS
    rintro i ρ w' ⟨hi, hq, h0, h1, h5, hS⟩
    repeat (with_reducible first | refine c_seq ?_ | refine c_block ?_ | refine c_skip ?_ | refine x_then ?_ | refine x_block ?_)
    refine c_reg ?_
    refine l_pure rfl (s_move  h5 ?_)
    refine l_pure rfl (s_geq  rfl rfl ?_)
    refine l_nil ?_
    repeat (with_reducible first | refine c_seq ?_ | refine c_block ?_ | refine c_skip ?_ | refine x_then ?_ | refine x_block ?_)
    by_cases hpos : 0 < i
    · refine c_yes rfl (decide_eq_true (by omega)) ?_
      repeat (with_reducible first | refine c_seq ?_ | refine c_block ?_ | refine c_skip ?_ | refine x_then ?_ | refine x_block ?_)
      have hlen : i - 1 < (limb m).length := by omega
      repeat (with_reducible first | refine c_seq ?_ | refine c_block ?_ | refine c_skip ?_ | refine x_then ?_ | refine x_block ?_)
      refine c_draw [(0, .pure), (1, .pure), (2, .pure), (3, .read), (4, .pure), (5, .pure), (6, .pure), (7, .read), (8, .pure)] (by kernel_rfl) (by kernel_rfl) hS ?_
      intro wz1 hS hBz1
      refine w_pure rfl rfl (s_move  h0 ?_)
      refine w_pure rfl rfl (s_move  h5 ?_)
      refine w_pure rfl rfl (s_ixr (i := i - 1)  rfl rfl (hu.below hS.below) (by omega) (by first | omega | (simp; done) | (simp; omega)) si_92 ?_)
      refine w_read rfl rfl (s_lde (i := i - 1) 0  rfl vi_94 (hu.below hS.below) (by first | omega | (simp; done) | (simp; omega)) rfl rfl (.inr rfl) ?_)
      refine w_pure rfl rfl (s_move  h1 ?_)
      refine w_pure rfl rfl (s_move  h5 ?_)
      refine w_pure rfl rfl (s_ixr (i := i - 1)  rfl rfl (hv.below hS.below) (by omega) (by first | omega | (simp; done) | (simp; omega)) si_92 ?_)
      refine w_read rfl rfl (s_lde (i := i - 1) 0  rfl vi_94 (hv.below hS.below) (by first | omega | (simp; done) | (simp; omega)) rfl rfl (.inr rfl) ?_)
      refine w_pure rfl rfl (s_neq  rfl rfl ?_)
      refine w_end ?_
      repeat (with_reducible first | refine c_seq ?_ | refine c_block ?_ | refine c_skip ?_ | refine x_then ?_ | refine x_block ?_)
      rw [limb_getD, limb_getD]
      have hs1 := div_step B32 m (i - 1)
      have hs2 := div_step B32 n (i - 1)
      rw [show i - 1 + 1 = i by omega] at hs1 hs2
      by_cases hne : dgt B32 m (i - 1) = dgt B32 n (i - 1)
      · refine c_no rfl (decide_eq_false (by omega)) ?_
        repeat (with_reducible first | refine c_seq ?_ | refine c_block ?_ | refine c_skip ?_ | refine x_then ?_ | refine x_block ?_)
        refine c_reg ?_
        refine l_pure rfl (s_move  h5 ?_)
        refine l_pure rfl (s_sub  rfl rfl (IntWalk.i64_in _ (by omega)) ?_)
        refine l_pure rfl (s_asg  rfl ?_)
        refine l_nil ?_
        repeat (with_reducible first | refine c_seq ?_ | refine c_block ?_ | refine c_skip ?_ | refine x_then ?_ | refine x_block ?_)
        exact ⟨i - 1, _, rfl, ⟨by omega, by rw [hs1, hs2, hq, hne], h0, h1, vi rfl (by omega), hS⟩, by omega⟩
      · refine c_yes rfl (decide_eq_true (by omega)) ?_
        repeat (with_reducible first | refine c_seq ?_ | refine c_block ?_ | refine c_skip ?_ | refine x_then ?_ | refine x_block ?_)
        refine c_draw [(0, .pure), (1, .pure), (2, .pure), (3, .read), (4, .pure), (5, .pure), (6, .pure), (7, .read), (8, .pure)] (by kernel_rfl) (by kernel_rfl) hS ?_
        intro wz2 hS hBz2
        refine w_pure rfl rfl (s_move  h0 ?_)
        refine w_pure rfl rfl (s_move  h5 ?_)
        refine w_pure rfl rfl (s_ixr (i := i - 1)  rfl rfl (hu.below hS.below) (by omega) (by first | omega | (simp; done) | (simp; omega)) si_92 ?_)
        refine w_read rfl rfl (s_lde (i := i - 1) 0  rfl vi_94 (hu.below hS.below) (by first | omega | (simp; done) | (simp; omega)) rfl rfl (.inr rfl) ?_)
        refine w_pure rfl rfl (s_move  h1 ?_)
        refine w_pure rfl rfl (s_move  h5 ?_)
        refine w_pure rfl rfl (s_ixr (i := i - 1)  rfl rfl (hv.below hS.below) (by omega) (by first | omega | (simp; done) | (simp; omega)) si_92 ?_)
        refine w_read rfl rfl (s_lde (i := i - 1) 0  rfl vi_94 (hv.below hS.below) (by first | omega | (simp; done) | (simp; omega)) rfl rfl (.inr rfl) ?_)
        refine w_pure rfl rfl (s_lss  rfl rfl ?_)
        refine w_end ?_
        repeat (with_reducible first | refine c_seq ?_ | refine c_block ?_ | refine c_skip ?_ | refine x_then ?_ | refine x_block ?_)
        rw [limb_getD, limb_getD]
        by_cases hlt : dgt B32 m (i - 1) < dgt B32 n (i - 1)
        · refine c_yes rfl (decide_eq_true (by omega)) ?_
          repeat (with_reducible first | refine c_seq ?_ | refine c_block ?_ | refine c_skip ?_ | refine x_then ?_ | refine x_block ?_)
          refine c_reg ?_
          refine l_pure rfl (s_asg  rfl ?_)
          refine l_nil ?_
          repeat (with_reducible first | refine c_seq ?_ | refine c_block ?_ | refine c_skip ?_ | refine x_then ?_ | refine x_block ?_)
          refine c_ret ?_
          repeat (with_reducible first | refine x_then_ret ?_ | refine x_block_ret ?_)
          refine r_one rfl rfl ?_
          refine ⟨vi rfl (cmpI_lt (lt_of_div_lt' (b := B32) (i := i - 1) ?_)).symm, hS.below⟩
          rw [hs1, hs2, hq]; omega
        · refine c_no rfl (decide_eq_false (by omega)) ?_
          repeat (with_reducible first | refine c_seq ?_ | refine c_block ?_ | refine c_skip ?_ | refine x_then ?_ | refine x_block ?_)
          refine c_reg ?_
          refine l_pure rfl (s_asg  rfl ?_)
          refine l_nil ?_
          repeat (with_reducible first | refine c_seq ?_ | refine c_block ?_ | refine c_skip ?_ | refine x_then ?_ | refine x_block ?_)
          refine c_ret ?_
          repeat (with_reducible first | refine x_then_ret ?_ | refine x_block_ret ?_)
          refine r_one rfl rfl ?_
          refine ⟨vi rfl (cmpI_gt (lt_of_div_lt' (b := B32) (i := i - 1) ?_)).symm, hS.below⟩
          rw [hs1, hs2, hq]; omega
    · refine c_no rfl (decide_eq_false (by omega)) ?_
      repeat (with_reducible first | refine c_seq ?_ | refine c_block ?_ | refine c_skip ?_ | refine x_then ?_ | refine x_block ?_)
      refine c_exit ?_
      repeat (with_reducible first | refine x_then_exit ?_ | refine x_block_exit ?_ | refine x_block_pass rfl ?_)
      repeat (with_reducible first | refine c_seq ?_ | refine c_block ?_ | refine c_skip ?_ | refine x_then ?_ | refine x_block ?_)
      refine c_reg ?_
      refine l_pure rfl (s_asg  rfl ?_)
      refine l_nil ?_
      repeat (with_reducible first | refine c_seq ?_ | refine c_block ?_ | refine c_skip ?_ | refine x_then ?_ | refine x_block ?_)
      refine c_ret ?_
      repeat (with_reducible first | refine x_then_ret ?_ | refine x_block_ret ?_)
      refine r_one rfl rfl ?_
      obtain rfl : i = 0 := by omega
      rw [Nat.pow_zero, Nat.div_one, Nat.div_one] at hq
      rw [hq]
      exact ⟨vi rfl (by rw [cmpI_self]), hS.below⟩
  · refine c_yes rfl (decide_eq_true (by omega)) ?_
    repeat (with_reducible first | refine c_seq ?_ | refine c_block ?_ | refine c_skip ?_ | refine x_then ?_ | refine x_block ?_)
    refine c_reg ?_
    refine l_pure rfl (s_move  rfl ?_)
    refine l_pure rfl (s_lenr  rfl (hu.below hS.below) ⟨_, Tryz.underlying92⟩ ?_)
    refine l_pure rfl (s_move  rfl ?_)
    refine l_pure rfl (s_lenr  rfl (hv.below hS.below) ⟨_, Tryz.underlying92⟩ ?_)
    refine l_pure rfl (s_sub  rfl rfl (IntWalk.i64_in _ (by omega)) ?_)
    refine l_heavy rfl (s_call Tryz.call60 rfl (sign_ok _ _) ?_)
    rintro r w' ⟨rfl, rfl⟩
    refine l_pure rfl (s_asg  rfl ?_)
    refine l_nil ?_
    repeat (with_reducible first | refine c_seq ?_ | refine c_block ?_ | refine c_skip ?_ | refine x_then ?_ | refine x_block ?_)
    refine c_ret ?_
    repeat (with_reducible first | refine x_then_ret ?_ | refine x_block_ret ?_)
    refine r_one rfl rfl ?_
    exact ⟨vi rfl (sign_len hl), hS.below⟩
theorem compareBytes_val : ∀ (a b : List UInt8), a.length = b.length → Lib.compareBytes a b = cmpI (ofDigs 256 (a.map UInt8.toNat).reverse) (ofDigs 256 (b.map UInt8.toNat).reverse)
  | [], [], _ => by simp [Lib.compareBytes, cmpI]
  | x :: a, y :: b, h => by
    have hl : a.length = b.length := by simpa using h
    have ih := compareBytes_val a b hl
    rw [List.map_cons, List.map_cons, List.reverse_cons, List.reverse_cons, ofDigs_append, ofDigs_append]
    have h1 := ofDigs_lt (b := 256) (a.map UInt8.toNat).reverse (fun d hd => by obtain ⟨u, _, rfl⟩ := List.mem_map.1 (List.mem_reverse.1 hd); exact u.toNat_lt)
    have h2 := ofDigs_lt (b := 256) (b.map UInt8.toNat).reverse (fun d hd => by obtain ⟨u, _, rfl⟩ := List.mem_map.1 (List.mem_reverse.1 hd); exact u.toNat_lt)
    rw [List.length_reverse, List.length_map] at h1 h2
    rw [List.length_reverse, List.length_reverse, List.length_map, List.length_map]
    rw [hl] at h1 ⊢
    generalize ofDigs 256 (a.map UInt8.toNat).reverse = m at h1 ih
    generalize ofDigs 256 (b.map UInt8.toNat).reverse = n at h2 ih
    generalize 256 ^ b.length = k at h1 h2
    rw [Lib.compareBytes, ih]
    simp only [ofDigs, Nat.mul_zero, Nat.add_zero, UInt8.lt_iff_toNat_lt]
    generalize x.toNat = p
    generalize y.toNat = q
    split
    · rename_i hpq
      have : k * (p + 1) ≤ k * q := Nat.mul_le_mul_left _ hpq
      rw [Nat.mul_add] at this
      rw [cmpI_lt (by omega)]
    · split
      · rename_i hpq
        have : k * (q + 1) ≤ k * p := Nat.mul_le_mul_left _ hpq
        rw [Nat.mul_add] at this
        rw [cmpI_gt (by omega)]
      · obtain rfl : p = q := by omega
        unfold cmpI
        simp
theorem compareBytes_natS {m n : Nat} (h : (natS m).size = (natS n).size) : Lib.compareBytes (natS m).data.toList (natS n).data.toList = cmpI m n := by
  have h' : (natS m).data.toList.length = (natS n).data.toList.length := h
  rw [compareBytes_val _ _ h']
  have h1 := val_natS m
  have h2 := val_natS n
  unfold val sbytes at h1 h2
  rw [h1, h2]
theorem natS_size_lt {m n : Nat} (h : (natS m).size < (natS n).size) : m < n := by
  rcases Nat.lt_or_ge m n with h1 | h1
  · exact h1
  · have := digs_length_mono (b := 256) (by decide) h1; rw [natS_size, natS_size] at h; omega
theorem natS_size_sign {m n : Nat} (h : (natS m).size ≠ (natS n).size) : (if ((natS m).size : Int) - ((natS n).size : Int) < 0 then -1 else if 0 < ((natS m).size : Int) - ((natS n).size : Int) then 1 else 0) = cmpI m n := by
  rcases Nat.lt_or_ge (natS m).size (natS n).size with h1 | h1
  · rw [if_pos (by omega), cmpI_lt (natS_size_lt h1)]
  · rw [if_neg (by omega), if_pos (by omega), cmpI_gt (natS_size_lt (by omega))]
theorem s_cmpstr {N : Nat} {ρ : Nat → Value} {w : World} {K2 : Value → World → Prop} {x y : Operand} {a b : ByteArray} {ats : Array TypeId} {d : Option Tmp} {ty : TypeId} {pos : String} {aft : Array Edge} {g : Option (Nat × Bool)}
    (hx : ev N ρ x = .string a) (hy : ev N ρ y = .string b) (h : K2 (.int .i64 (Lib.compareBytes a.data.toList b.data.toList)) w) :
    Hup1 Tryz.prog N ρ w ⟨d, .call ⟨.value (.func 111), #[x, y], ats⟩, ty, pos, aft, g⟩ K2 := by
  refine hup_of_run (v := .int .i64 (Lib.compareBytes a.data.toList b.data.toList)) (w' := w) ?_ h
  have he : ev N ρ (.func 111) = .func (.func 111) #[] #[] := rfl
  simp only [execOp, resolve, he, Deferred.ofValue, invoke, List.map_toArray, List.map_cons, List.map_nil, hx, hy, Sem.run_bind, Sem.run_pure, Result.andThen_ok, Array.empty_append, Array.append_empty]
  rw [run_callFunc_extern Tryz.func111 (by kernel_rfl) (by kernel_rfl) (by kernel_rfl) (e := Extern.BytealgCompare.compare) (by kernel_rfl), Lib.run_compareString]
  rfl
theorem CompareString_ok (a b : ByteArray) (w : World) :
    Ret Tryz.prog 89 #[.string a, .string b] w fun r w' => r = .int .i64 (Lib.compareBytes a.data.toList b.data.toList) ∧ w' = w := by
  refine enter Tryz.func89 rfl Tryz.ntmps89 rfl ?_
  repeat (with_reducible first | refine c_seq ?_ | refine c_block ?_ | refine c_skip ?_ | refine x_then ?_ | refine x_block ?_)
  refine c_reg ?_
  refine l_pure rfl (s_asg  rfl ?_)
  refine l_nil ?_
  repeat (with_reducible first | refine c_seq ?_ | refine c_block ?_ | refine c_skip ?_ | refine x_then ?_ | refine x_block ?_)
  refine c_reg ?_
  refine l_pure rfl (s_move  rfl ?_)
  refine l_pure rfl (s_move  rfl ?_)
  refine l_heavy rfl (s_cmpstr rfl rfl ?_)
  refine l_pure rfl (s_asg  rfl ?_)
  refine l_nil ?_
  repeat (with_reducible first | refine c_seq ?_ | refine c_block ?_ | refine c_skip ?_ | refine x_then ?_ | refine x_block ?_)
  refine c_ret ?_
  repeat (with_reducible first | refine x_then_ret ?_ | refine x_block_ret ?_)
  refine r_one rfl rfl ?_
  exact ⟨rfl, rfl⟩
theorem strCompare_ok (a b : ByteArray) (w : World) :
    Ret Tryz.prog 61 #[.string a, .string b] w fun r w' => r = .int .i64 (Lib.compareBytes a.data.toList b.data.toList) ∧ w' = w := by
  refine enter Tryz.func61 rfl Tryz.ntmps61 rfl ?_
  repeat (with_reducible first | refine c_seq ?_ | refine c_block ?_ | refine c_skip ?_ | refine x_then ?_ | refine x_block ?_)
  refine c_reg ?_
  refine l_pure rfl (s_asg  rfl ?_)
  refine l_nil ?_
  repeat (with_reducible first | refine c_seq ?_ | refine c_block ?_ | refine c_skip ?_ | refine x_then ?_ | refine x_block ?_)
  refine c_reg ?_
  refine l_pure rfl (s_move  rfl ?_)
  refine l_pure rfl (s_move  rfl ?_)
  refine l_heavy rfl (s_call Tryz.call89 rfl (CompareString_ok _ _ _) ?_)
  rintro v w' ⟨rfl, rfl⟩
  refine l_pure rfl (s_asg  rfl ?_)
  refine l_nil ?_
  repeat (with_reducible first | refine c_seq ?_ | refine c_block ?_ | refine c_skip ?_ | refine x_then ?_ | refine x_block ?_)
  refine c_ret ?_
  repeat (with_reducible first | refine x_then_ret ?_ | refine x_block_ret ?_)
  refine r_one rfl rfl ?_
  exact ⟨rfl, rfl⟩
theorem Compare_ok (a b : ByteArray) (w : World) (ha : a.size ≤ 9223372036854775807) (hb : b.size ≤ 9223372036854775807) :
    Ret Tryz.prog 33 #[.string a, .string b] w fun r w' => r = .int .i64 (cmpI (val a) (val b)) ∧ w' = w := by
  refine enter Tryz.func33 rfl Tryz.ntmps33 rfl ?_
  repeat (with_reducible first | refine c_seq ?_ | refine c_block ?_ | refine c_skip ?_ | refine x_then ?_ | refine x_block ?_)
  refine c_reg ?_
  refine l_pure rfl (s_asg  rfl ?_)
  refine l_nil ?_
  repeat (with_reducible first | refine c_seq ?_ | refine c_block ?_ | refine c_skip ?_ | refine x_then ?_ | refine x_block ?_)
  refine c_reg ?_
  refine l_pure rfl (s_move  rfl ?_)
  refine l_heavy rfl (s_call Tryz.call59 rfl (Normalize_ok _ _ ha) ?_)
  rintro v w' ⟨rfl, rfl⟩
  refine l_pure rfl (s_move  rfl ?_)
  refine l_heavy rfl (s_call Tryz.call59 rfl (Normalize_ok _ _ hb) ?_)
  rintro v w' ⟨rfl, rfl⟩
  refine l_pure rfl (s_asg  rfl ?_)
  refine l_pure rfl (s_asg  rfl ?_)
  refine l_nil ?_
  repeat (with_reducible first | refine c_seq ?_ | refine c_block ?_ | refine c_skip ?_ | refine x_then ?_ | refine x_block ?_)
  have h1 := natS_val_size_le a
  have h2 := natS_val_size_le b
  repeat (with_reducible first | refine c_seq ?_ | refine c_block ?_ | refine c_skip ?_ | refine x_then ?_ | refine x_block ?_)
  refine c_reg ?_
  refine l_pure rfl (s_move  rfl ?_)
  refine l_pure rfl (s_lens  rfl Tryz.underlying9 ?_)
  refine l_pure rfl (s_move  rfl ?_)
  refine l_pure rfl (s_lens  rfl Tryz.underlying9 ?_)
  refine l_pure rfl (s_neq  rfl rfl ?_)
  refine l_nil ?_
  repeat (with_reducible first | refine c_seq ?_ | refine c_block ?_ | refine c_skip ?_ | refine x_then ?_ | refine x_block ?_)
  by_cases hl : (natS (val a)).size = (natS (val b)).size
  · refine c_no rfl (decide_eq_false (by simp [hl])) ?_
    repeat (with_reducible first | refine c_seq ?_ | refine c_block ?_ | refine c_skip ?_ | refine x_then ?_ | refine x_block ?_)
    refine c_reg ?_
    refine l_pure rfl (s_move  rfl ?_)
    refine l_pure rfl (s_move  rfl ?_)
    refine l_heavy rfl (s_call Tryz.call61 rfl (strCompare_ok _ _ _) ?_)
    rintro v w' ⟨rfl, rfl⟩
    refine l_pure rfl (s_asg  rfl ?_)
    refine l_nil ?_
    repeat (with_reducible first | refine c_seq ?_ | refine c_block ?_ | refine c_skip ?_ | refine x_then ?_ | refine x_block ?_)
    refine c_ret ?_
    repeat (with_reducible first | refine x_then_ret ?_ | refine x_block_ret ?_)
    refine r_one rfl rfl ?_
    exact ⟨vi rfl (compareBytes_natS hl), rfl⟩
  · refine c_yes rfl (decide_eq_true (by omega)) ?_
    repeat (with_reducible first | refine c_seq ?_ | refine c_block ?_ | refine c_skip ?_ | refine x_then ?_ | refine x_block ?_)
    refine c_reg ?_
    refine l_pure rfl (s_move  rfl ?_)
    refine l_pure rfl (s_lens  rfl Tryz.underlying9 ?_)
    refine l_pure rfl (s_move  rfl ?_)
    refine l_pure rfl (s_lens  rfl Tryz.underlying9 ?_)
    refine l_pure rfl (s_sub  rfl rfl (IntWalk.i64_in _ (by omega)) ?_)
    refine l_heavy rfl (s_call Tryz.call60 rfl (sign_ok _ _) ?_)
    rintro r w' ⟨rfl, rfl⟩
    refine l_pure rfl (s_asg  rfl ?_)
    refine l_nil ?_
    repeat (with_reducible first | refine c_seq ?_ | refine c_block ?_ | refine c_skip ?_ | refine x_then ?_ | refine x_block ?_)
    refine c_ret ?_
    repeat (with_reducible first | refine x_then_ret ?_ | refine x_block_ret ?_)
    refine r_one rfl rfl ?_
    exact ⟨vi rfl (natS_size_sign hl), rfl⟩
end Go.Proofs.YtmghobajmhdbfaaGreatDoor
namespace Go.Proofs.YtmghobajmhdbfaaGreatDoor
open Go Go.RowKit Go.Sx
/-- The table of the lengths of bytes. -/
def len8T : ByteArray := ⟨((List.range 256).map fun i => UInt8.ofNat (Lib.bitLen i)).toArray⟩
theorem len8T_size : len8T.size = 256 := by decide +kernel
theorem len8T_all : ∀ i : Fin 256, (len8T[i.val]'(by rw [len8T_size]; exact i.isLt)).toNat = Lib.bitLen i.val := by decide +kernel
theorem len8T_get (i : Nat) (h : i < len8T.size) : (len8T[i]).toNat = Lib.bitLen i := len8T_all ⟨i, by rw [← len8T_size]; exact h⟩
theorem Len32_ok (x : Nat) (w : World) (h1 : x < B32) :
    Ret Tryz.prog 124 #[.int .u32 x] w fun r w' => r = .int .i64 (Lib.bitLen x) ∧ w' = w := by
  have hB : B32 = 4294967296 := rfl
  have hT : 256 = len8T.size := len8T_size.symm
  refine enter Tryz.func124 rfl Tryz.ntmps124 rfl ?_
  repeat (with_reducible first | refine c_seq ?_ | refine c_block ?_ | refine c_skip ?_ | refine x_then ?_ | refine x_block ?_)
  refine c_reg ?_
  refine l_pure rfl (s_asg  rfl ?_)
  refine l_nil ?_
  repeat (with_reducible first | refine c_seq ?_ | refine c_block ?_ | refine c_skip ?_ | refine x_then ?_ | refine x_block ?_)
  refine c_reg ?_
  refine l_pure rfl (s_move  rfl ?_)
  refine l_pure rfl (s_geq  rfl rfl ?_)
  refine l_nil ?_
  repeat (with_reducible first | refine c_seq ?_ | refine c_block ?_ | refine c_skip ?_ | refine x_then ?_ | refine x_block ?_)
  by_cases g1 : 65536 ≤ x
  · refine c_yes rfl (decide_eq_true (by omega)) ?_
    repeat (with_reducible first | refine c_seq ?_ | refine c_block ?_ | refine c_skip ?_ | refine x_then ?_ | refine x_block ?_)
    refine c_reg ?_
    refine l_pure rfl (s_move  rfl ?_)
    refine l_pure rfl (s_shr  rfl rfl (by omega) (r := ((x / 65536 : Nat) : Int)) (by exact shr_v (k := .u32) x 16 (by decide)) ?_)
    refine l_pure rfl (s_asg  rfl ?_)
    refine l_nil ?_
    repeat (with_reducible first | refine c_seq ?_ | refine c_block ?_ | refine c_skip ?_ | refine x_then ?_ | refine x_block ?_)
    refine c_reg ?_
    refine l_pure rfl (s_asg  rfl ?_)
    refine l_nil ?_
    repeat (with_reducible first | refine c_seq ?_ | refine c_block ?_ | refine c_skip ?_ | refine x_then ?_ | refine x_block ?_)
    refine c_reg ?_
    refine l_pure rfl (s_move  rfl ?_)
    refine l_pure rfl (s_geq  rfl rfl ?_)
    refine l_nil ?_
    repeat (with_reducible first | refine c_seq ?_ | refine c_block ?_ | refine c_skip ?_ | refine x_then ?_ | refine x_block ?_)
    by_cases g2 : 256 ≤ (x / 65536)
    · refine c_yes rfl (decide_eq_true (by omega)) ?_
      repeat (with_reducible first | refine c_seq ?_ | refine c_block ?_ | refine c_skip ?_ | refine x_then ?_ | refine x_block ?_)
      refine c_reg ?_
      refine l_pure rfl (s_move  rfl ?_)
      refine l_pure rfl (s_shr  rfl rfl (by omega) (r := (((x / 65536) / 256 : Nat) : Int)) (by exact shr_v (k := .u32) _ 8 (by decide)) ?_)
      refine l_pure rfl (s_asg  rfl ?_)
      refine l_nil ?_
      repeat (with_reducible first | refine c_seq ?_ | refine c_block ?_ | refine c_skip ?_ | refine x_then ?_ | refine x_block ?_)
      refine c_reg ?_
      refine l_pure rfl (s_move  rfl ?_)
      refine l_pure rfl (s_add  rfl rfl (IntWalk.i64_in _ (by omega)) ?_)
      refine l_pure rfl (s_asg  rfl ?_)
      refine l_nil ?_
      repeat (with_reducible first | refine c_seq ?_ | refine c_block ?_ | refine c_skip ?_ | refine x_then ?_ | refine x_block ?_)
      have h8 : Lib.bitLen (((x / 65536) / 256) % 256) ≤ 8 := Lib.bitLen_le8 ⟨((x / 65536) / 256) % 256, by omega⟩
      repeat (with_reducible first | refine c_seq ?_ | refine c_block ?_ | refine c_skip ?_ | refine x_then ?_ | refine x_block ?_)
      refine c_reg ?_
      refine l_pure rfl (s_move  rfl ?_)
      refine l_pure rfl (s_move  rfl ?_)
      refine l_pure rfl (s_conv  rfl Tryz.underlying5 ⟨_, Tryz.underlying94⟩ (r := ((((x / 65536) / 256) % 256 : Nat) : Int)) (by exact u8_mod _) ?_)
      refine l_pure rfl (s_ixs (s := len8T) (i := ((x / 65536) / 256) % 256) (congrArg Value.string (by decide +kernel)) rfl rfl (by omega) Tryz.underlying9 ?_)
      refine l_pure rfl (s_conv  rfl Tryz.underlying3 ⟨_, Tryz.underlying5⟩ (r := ((Lib.bitLen (((x / 65536) / 256) % 256) : Nat) : Int)) (by rw [len8T_get]; exact wr_i64 _ ⟨rfl, by omega, by omega⟩) ?_)
      refine l_pure rfl (s_add  rfl rfl (IntWalk.i64_in _ (by omega)) ?_)
      refine l_pure rfl (s_asg  rfl ?_)
      refine l_nil ?_
      repeat (with_reducible first | refine c_seq ?_ | refine c_block ?_ | refine c_skip ?_ | refine x_then ?_ | refine x_block ?_)
      refine c_ret ?_
      repeat (with_reducible first | refine x_then_ret ?_ | refine x_block_ret ?_)
      refine r_one rfl rfl ?_
      have e : Lib.bitLen x = 24 + Lib.bitLen (((x / 65536) / 256) % 256) := by rw [Lib.bitLen_shift24 x (by omega) (by omega), show x / 16777216 = x / 65536 / 256 % 256 by omega]
      exact ⟨vi rfl (by omega), rfl⟩
    · refine c_no rfl (decide_eq_false (by omega)) ?_
      repeat (with_reducible first | refine c_seq ?_ | refine c_block ?_ | refine c_skip ?_ | refine x_then ?_ | refine x_block ?_)
      have h8 : Lib.bitLen ((x / 65536) % 256) ≤ 8 := Lib.bitLen_le8 ⟨(x / 65536) % 256, by omega⟩
      repeat (with_reducible first | refine c_seq ?_ | refine c_block ?_ | refine c_skip ?_ | refine x_then ?_ | refine x_block ?_)
      refine c_reg ?_
      refine l_pure rfl (s_move  rfl ?_)
      refine l_pure rfl (s_move  rfl ?_)
      refine l_pure rfl (s_conv  rfl Tryz.underlying5 ⟨_, Tryz.underlying94⟩ (r := (((x / 65536) % 256 : Nat) : Int)) (by exact u8_mod _) ?_)
      refine l_pure rfl (s_ixs (s := len8T) (i := (x / 65536) % 256) (congrArg Value.string (by decide +kernel)) rfl rfl (by omega) Tryz.underlying9 ?_)
      refine l_pure rfl (s_conv  rfl Tryz.underlying3 ⟨_, Tryz.underlying5⟩ (r := ((Lib.bitLen ((x / 65536) % 256) : Nat) : Int)) (by rw [len8T_get]; exact wr_i64 _ ⟨rfl, by omega, by omega⟩) ?_)
      refine l_pure rfl (s_add  rfl rfl (IntWalk.i64_in _ (by omega)) ?_)
      refine l_pure rfl (s_asg  rfl ?_)
      refine l_nil ?_
      repeat (with_reducible first | refine c_seq ?_ | refine c_block ?_ | refine c_skip ?_ | refine x_then ?_ | refine x_block ?_)
      refine c_ret ?_
      repeat (with_reducible first | refine x_then_ret ?_ | refine x_block_ret ?_)
      refine r_one rfl rfl ?_
      have e : Lib.bitLen x = 16 + Lib.bitLen ((x / 65536) % 256) := by rw [Lib.bitLen_shift16 x (by omega) (by omega), show x / 65536 % 256 = x / 65536 by omega]
      exact ⟨vi rfl (by omega), rfl⟩
  · refine c_no rfl (decide_eq_false (by omega)) ?_
    repeat (with_reducible first | refine c_seq ?_ | refine c_block ?_ | refine c_skip ?_ | refine x_then ?_ | refine x_block ?_)
    refine c_reg ?_
    refine l_pure rfl (s_move  rfl ?_)
    refine l_pure rfl (s_geq  rfl rfl ?_)
    refine l_nil ?_
    repeat (with_reducible first | refine c_seq ?_ | refine c_block ?_ | refine c_skip ?_ | refine x_then ?_ | refine x_block ?_)
    by_cases g2 : 256 ≤ x
    · refine c_yes rfl (decide_eq_true (by omega)) ?_
      repeat (with_reducible first | refine c_seq ?_ | refine c_block ?_ | refine c_skip ?_ | refine x_then ?_ | refine x_block ?_)
      refine c_reg ?_
      refine l_pure rfl (s_move  rfl ?_)
      refine l_pure rfl (s_shr  rfl rfl (by omega) (r := ((x / 256 : Nat) : Int)) (by exact shr_v (k := .u32) _ 8 (by decide)) ?_)
      refine l_pure rfl (s_asg  rfl ?_)
      refine l_nil ?_
      repeat (with_reducible first | refine c_seq ?_ | refine c_block ?_ | refine c_skip ?_ | refine x_then ?_ | refine x_block ?_)
      refine c_reg ?_
      refine l_pure rfl (s_move  rfl ?_)
      refine l_pure rfl (s_add  rfl rfl (IntWalk.i64_in _ (by omega)) ?_)
      refine l_pure rfl (s_asg  rfl ?_)
      refine l_nil ?_
      repeat (with_reducible first | refine c_seq ?_ | refine c_block ?_ | refine c_skip ?_ | refine x_then ?_ | refine x_block ?_)
      have h8 : Lib.bitLen ((x / 256) % 256) ≤ 8 := Lib.bitLen_le8 ⟨(x / 256) % 256, by omega⟩
      repeat (with_reducible first | refine c_seq ?_ | refine c_block ?_ | refine c_skip ?_ | refine x_then ?_ | refine x_block ?_)
      refine c_reg ?_
      refine l_pure rfl (s_move  rfl ?_)
      refine l_pure rfl (s_move  rfl ?_)
      refine l_pure rfl (s_conv  rfl Tryz.underlying5 ⟨_, Tryz.underlying94⟩ (r := (((x / 256) % 256 : Nat) : Int)) (by exact u8_mod _) ?_)
      refine l_pure rfl (s_ixs (s := len8T) (i := (x / 256) % 256) (congrArg Value.string (by decide +kernel)) rfl rfl (by omega) Tryz.underlying9 ?_)
      refine l_pure rfl (s_conv  rfl Tryz.underlying3 ⟨_, Tryz.underlying5⟩ (r := ((Lib.bitLen ((x / 256) % 256) : Nat) : Int)) (by rw [len8T_get]; exact wr_i64 _ ⟨rfl, by omega, by omega⟩) ?_)
      refine l_pure rfl (s_add  rfl rfl (IntWalk.i64_in _ (by omega)) ?_)
      refine l_pure rfl (s_asg  rfl ?_)
      refine l_nil ?_
      repeat (with_reducible first | refine c_seq ?_ | refine c_block ?_ | refine c_skip ?_ | refine x_then ?_ | refine x_block ?_)
      refine c_ret ?_
      repeat (with_reducible first | refine x_then_ret ?_ | refine x_block_ret ?_)
      refine r_one rfl rfl ?_
      have e : Lib.bitLen x = 8 + Lib.bitLen ((x / 256) % 256) := by rw [Lib.bitLen_shift8 x (by omega) (by omega), show x / 256 % 256 = x / 256 by omega]
      exact ⟨vi rfl (by omega), rfl⟩
    · refine c_no rfl (decide_eq_false (by omega)) ?_
      repeat (with_reducible first | refine c_seq ?_ | refine c_block ?_ | refine c_skip ?_ | refine x_then ?_ | refine x_block ?_)
      have h8 : Lib.bitLen (x % 256) ≤ 8 := Lib.bitLen_le8 ⟨x % 256, by omega⟩
      repeat (with_reducible first | refine c_seq ?_ | refine c_block ?_ | refine c_skip ?_ | refine x_then ?_ | refine x_block ?_)
      refine c_reg ?_
      refine l_pure rfl (s_move  rfl ?_)
      refine l_pure rfl (s_move  rfl ?_)
      refine l_pure rfl (s_conv  rfl Tryz.underlying5 ⟨_, Tryz.underlying94⟩ (r := ((x % 256 : Nat) : Int)) (by exact u8_mod _) ?_)
      refine l_pure rfl (s_ixs (s := len8T) (i := x % 256) (congrArg Value.string (by decide +kernel)) rfl rfl (by omega) Tryz.underlying9 ?_)
      refine l_pure rfl (s_conv  rfl Tryz.underlying3 ⟨_, Tryz.underlying5⟩ (r := ((Lib.bitLen (x % 256) : Nat) : Int)) (by rw [len8T_get]; exact wr_i64 _ ⟨rfl, by omega, by omega⟩) ?_)
      refine l_pure rfl (s_add  rfl rfl (IntWalk.i64_in _ (by omega)) ?_)
      refine l_pure rfl (s_asg  rfl ?_)
      refine l_nil ?_
      repeat (with_reducible first | refine c_seq ?_ | refine c_block ?_ | refine c_skip ?_ | refine x_then ?_ | refine x_block ?_)
      refine c_ret ?_
      repeat (with_reducible first | refine x_then_ret ?_ | refine x_block_ret ?_)
      refine r_one rfl rfl ?_
      have e : Lib.bitLen x = 0 + Lib.bitLen (x % 256) := by rw [Nat.zero_add, Nat.mod_eq_of_lt (by omega)]
      exact ⟨vi rfl (by omega), rfl⟩
theorem bitLen_bounds : ∀ (k x : Nat), x < 2 ^ k → k ≤ 64 → Lib.bitLen x ≤ k ∧ x < 2 ^ Lib.bitLen x ∧ (x ≠ 0 → 0 < Lib.bitLen x ∧ 2 ^ (Lib.bitLen x - 1) ≤ x)
  | 0, x, h, _ => by
    have : x = 0 := by simpa using h
    subst this
    exact ⟨by decide +kernel, by decide +kernel, fun h => absurd rfl h⟩
  | k + 1, x, h, hk => by
    by_cases hx : x = 0
    · subst hx
      have h0 : Lib.bitLen 0 = 0 := by decide +kernel
      rw [h0]
      exact ⟨by omega, by decide, fun h => absurd rfl h⟩
    · have hlt : x < 2 ^ 64 := Nat.lt_of_lt_of_le h (Nat.pow_le_pow_right (by decide) hk)
      obtain ⟨h1, h2, h3⟩ := bitLen_bounds k (x / 2) (by rw [Nat.pow_succ] at h; omega) (by omega)
      rw [Lib.bitLen_half x hx hlt]
      refine ⟨by omega, ?_, fun _ => ⟨by omega, ?_⟩⟩
      · rw [Nat.add_comm, Nat.pow_succ]; omega
      · rw [Nat.add_sub_cancel_left]
        by_cases h4 : x / 2 = 0
        · rw [h4, show Lib.bitLen 0 = 0 by decide +kernel]; omega
        · obtain ⟨h5, h6⟩ := h3 h4
          have : 2 ^ Lib.bitLen (x / 2) = 2 ^ (Lib.bitLen (x / 2) - 1) * 2 := by rw [← Nat.pow_succ]; congr 1; omega
          omega
theorem LeadingZeros32_ok (x : Nat) (w : World) (h0 : 0 < x) (h1 : x < B32) :
    Ret Tryz.prog 116 #[.int .u32 x] w fun r w' => (∃ c : Nat, c < 32 ∧ x * 2 ^ c < B32 ∧ B32 ≤ 2 * (x * 2 ^ c) ∧ r = .int .i64 c) ∧ w' = w := by
  have hB : B32 = 4294967296 := rfl
  obtain ⟨g1, g2, g3⟩ := bitLen_bounds 32 x (by omega) (by decide)
  obtain ⟨g4, g5⟩ := g3 (by omega)
  have hl := Len32_ok x w h1
  refine enter Tryz.func116 rfl Tryz.ntmps116 rfl ?_
  repeat (with_reducible first | refine c_seq ?_ | refine c_block ?_ | refine c_skip ?_ | refine x_then ?_ | refine x_block ?_)
  refine c_reg ?_
  refine l_pure rfl (s_asg  rfl ?_)
  refine l_nil ?_
  repeat (with_reducible first | refine c_seq ?_ | refine c_block ?_ | refine c_skip ?_ | refine x_then ?_ | refine x_block ?_)
  refine c_reg ?_
  refine l_pure rfl (s_move  rfl ?_)
  refine l_heavy rfl (s_call Tryz.call124 rfl (hl) ?_)
  rintro r w' ⟨rfl, rfl⟩
  refine l_pure rfl (s_sub  rfl rfl (IntWalk.i64_in _ (by omega)) ?_)
  refine l_pure rfl (s_asg  rfl ?_)
  refine l_nil ?_
  repeat (with_reducible first | refine c_seq ?_ | refine c_block ?_ | refine c_skip ?_ | refine x_then ?_ | refine x_block ?_)
  refine c_ret ?_
  repeat (with_reducible first | refine x_then_ret ?_ | refine x_block_ret ?_)
  refine r_one rfl rfl ?_
  refine ⟨⟨32 - Lib.bitLen x, by omega, ?_, ?_, vi rfl (by omega)⟩, rfl⟩
  · have : x * 2 ^ (32 - Lib.bitLen x) < 2 ^ Lib.bitLen x * 2 ^ (32 - Lib.bitLen x) := Nat.mul_lt_mul_of_pos_right g2 (Nat.pow_pos (by decide))
    rw [← Nat.pow_add, show Lib.bitLen x + (32 - Lib.bitLen x) = 32 by omega] at this
    exact this
  · have : 2 ^ (Lib.bitLen x - 1) * 2 ^ (32 - Lib.bitLen x) ≤ x * 2 ^ (32 - Lib.bitLen x) := Nat.mul_le_mul_right _ g5
    rw [← Nat.pow_add, show Lib.bitLen x - 1 + (32 - Lib.bitLen x) = 31 by omega] at this
    omega
theorem Add32_ok (x y c : Nat) (w : World) (hx : x < B32) (hy : y < B32) (hc : c < B32) :
    Ret Tryz.prog 92 #[.int .u32 x, .int .u32 y, .int .u32 c] w fun r w' =>
      r = .tuple #[.int .u32 ((x + y + c) % B32 : Nat), .int .u32 ((x + y + c) / B32 : Nat)] ∧ w' = w := by
  have hB : B32 = 4294967296 := rfl
  refine enter Tryz.func92 rfl Tryz.ntmps92 rfl ?_
  repeat (with_reducible first | refine c_seq ?_ | refine c_block ?_ | refine c_skip ?_ | refine x_then ?_ | refine x_block ?_)
  refine c_reg ?_
  refine l_pure rfl (s_asg  rfl ?_)
  refine l_pure rfl (s_asg  rfl ?_)
  refine l_nil ?_
  repeat (with_reducible first | refine c_seq ?_ | refine c_block ?_ | refine c_skip ?_ | refine x_then ?_ | refine x_block ?_)
  refine c_reg ?_
  refine l_pure rfl (s_move  rfl ?_)
  refine l_pure rfl (s_conv  rfl Tryz.underlying95 ⟨_, Tryz.underlying94⟩ (IntWalk.u64_in _ (by omega)) ?_)
  refine l_pure rfl (s_move  rfl ?_)
  refine l_pure rfl (s_conv  rfl Tryz.underlying95 ⟨_, Tryz.underlying94⟩ (IntWalk.u64_in _ (by omega)) ?_)
  refine l_pure rfl (s_add  rfl rfl (IntWalk.u64_in _ (by omega)) ?_)
  refine l_pure rfl (s_move  rfl ?_)
  refine l_pure rfl (s_conv  rfl Tryz.underlying95 ⟨_, Tryz.underlying94⟩ (IntWalk.u64_in _ (by omega)) ?_)
  refine l_pure rfl (s_add  rfl rfl (r := ((x + y + c : Nat) : Int)) (by exact wr_u64 _ (by omega)) ?_)
  refine l_pure rfl (s_asg  rfl ?_)
  refine l_nil ?_
  repeat (with_reducible first | refine c_seq ?_ | refine c_block ?_ | refine c_skip ?_ | refine x_then ?_ | refine x_block ?_)
  refine c_reg ?_
  refine l_pure rfl (s_move  rfl ?_)
  refine l_pure rfl (s_conv  rfl Tryz.underlying94 ⟨_, Tryz.underlying95⟩ (u32_mod _) ?_)
  refine l_pure rfl (s_asg  rfl ?_)
  refine l_nil ?_
  repeat (with_reducible first | refine c_seq ?_ | refine c_block ?_ | refine c_skip ?_ | refine x_then ?_ | refine x_block ?_)
  refine c_reg ?_
  refine l_pure rfl (s_move  rfl ?_)
  refine l_pure rfl (s_shr  rfl rfl (by decide) (shr_n _ 32 (by decide)) ?_)
  refine l_pure rfl (s_conv  rfl Tryz.underlying94 ⟨_, Tryz.underlying95⟩ (r := (((x + y + c) / B32 : Nat) : Int)) (by exact wr_u32 _ (by unfold B32 at *; omega)) ?_)
  refine l_pure rfl (s_asg  rfl ?_)
  refine l_nil ?_
  repeat (with_reducible first | refine c_seq ?_ | refine c_block ?_ | refine c_skip ?_ | refine x_then ?_ | refine x_block ?_)
  refine c_ret ?_
  repeat (with_reducible first | refine x_then_ret ?_ | refine x_block_ret ?_)
  refine r_two rfl rfl rfl ?_
  exact ⟨rfl, rfl⟩
theorem xor_nat {k : IntKind} (hk : k.signed = false) (m n : Nat) (hm : m < 2 ^ k.bits) (hn : n < 2 ^ k.bits) : bitres .xor k m n = ((m ^^^ n : Nat) : Int) := by
  have hlt : m ^^^ n < 2 ^ k.bits := Nat.xor_lt_two_pow hm hn
  have h : ((m ^^^ n : Nat) : Int) % 2 ^ k.bits = ((m ^^^ n : Nat) : Int) := Int.emod_eq_of_lt (by omega) (by exact_mod_cast hlt)
  simp only [bitres, BitVec.ofInt_natCast, BitVec.toNat_xor, BitVec.toNat_ofNat, Nat.mod_eq_of_lt hm, Nat.mod_eq_of_lt hn, IntKind.wrap, hk, Bool.false_and, h]
  simp
theorem top_bit (z : Nat) (hz : z < B32) : z / 2 ^ 31 = (z.testBit 31).toNat := by
  have hB : B32 = 4294967296 := rfl
  rw [Nat.testBit_eq_decide_div_mod_eq]
  by_cases h : z / 2 ^ 31 % 2 = 1
  · rw [decide_eq_true h]; show _ = 1; omega
  · rw [decide_eq_false h]; show _ = 0; omega
theorem borrow_law (x y b : Nat) (hx : x < B32) (hy : y < B32) (hb : b ≤ 1) :
    (((4294967295 ^^^ x) &&& y) ||| ((4294967295 ^^^ (x ^^^ y)) &&& ((x + 2 * B32 - y - b) % B32))) / 2 ^ 31 = if x < y + b then 1 else 0 := by
  have hB : B32 = 4294967296 := rfl
  obtain ⟨D, hD⟩ : ∃ D, D = x + 2 * B32 - y - b := ⟨_, rfl⟩
  rw [← hD]
  have hD2 : D + y + b = x + 2 * B32 := by omega
  clear hD
  have hd : D % B32 < B32 := Nat.mod_lt _ (by omega)
  have h2 : B32 = 2 ^ 32 := rfl
  have hz : (((4294967295 ^^^ x) &&& y) ||| ((4294967295 ^^^ (x ^^^ y)) &&& (D % B32))) < B32 := by
    rw [h2] at *
    exact Nat.or_lt_two_pow (Nat.and_lt_two_pow _ hy) (Nat.and_lt_two_pow _ hd)
  rw [top_bit _ hz]
  simp only [Nat.testBit_or, Nat.testBit_and, Nat.testBit_xor]
  rw [show Nat.testBit 4294967295 31 = true by decide]
  have tx := top_bit x hx
  have ty := top_bit y hy
  have td := top_bit _ hd
  revert tx ty td
  generalize x.testBit 31 = p
  generalize y.testBit 31 = q
  generalize (D % B32).testBit 31 = r
  intro tx ty td
  rcases Nat.lt_or_ge x (y + b) with h | h
  · rw [if_pos h]
    cases p <;> cases q <;> cases r <;> simp only [Bool.toNat, cond] at tx ty td <;> first | rfl | (exfalso; unfold B32 at *; omega)
  · rw [if_neg (by omega)]
    cases p <;> cases q <;> cases r <;> simp only [Bool.toNat, cond] at tx ty td <;> first | rfl | (exfalso; unfold B32 at *; omega)
theorem Sub32_ok (x y b : Nat) (w : World) (hx : x < B32) (hy : y < B32) (hb : b ≤ 1) :
    Ret Tryz.prog 112 #[.int .u32 x, .int .u32 y, .int .u32 b] w fun r w' =>
      r = .tuple #[.int .u32 ((x + 2 * B32 - y - b) % B32 : Nat), .int .u32 (if x < y + b then 1 else 0 : Nat)] ∧ w' = w := by
  have hB : B32 = 4294967296 := rfl
  have hd : (x + 2 * B32 - y - b) % B32 < B32 := Nat.mod_lt _ (by omega)
  have h2 : B32 = 2 ^ IntKind.u32.bits := rfl
  have hxy : x ^^^ y < 2 ^ 32 := Nat.xor_lt_two_pow (by omega) (by omega)
  have hnx : 4294967295 ^^^ x < 2 ^ 32 := Nat.xor_lt_two_pow (by decide) (by omega)
  have hnxy : 4294967295 ^^^ (x ^^^ y) < 2 ^ 32 := Nat.xor_lt_two_pow (by decide) hxy
  have ha1 : (4294967295 ^^^ x) &&& y < 2 ^ 32 := Nat.and_lt_two_pow _ (by omega)
  have ha2 : (4294967295 ^^^ (x ^^^ y)) &&& ((x + 2 * B32 - y - b) % B32) < 2 ^ 32 := Nat.and_lt_two_pow _ (by omega)
  refine enter Tryz.func112 rfl Tryz.ntmps112 rfl ?_
  repeat (with_reducible first | refine c_seq ?_ | refine c_block ?_ | refine c_skip ?_ | refine x_then ?_ | refine x_block ?_)
  refine c_reg ?_
  refine l_pure rfl (s_asg  rfl ?_)
  refine l_pure rfl (s_asg  rfl ?_)
  refine l_nil ?_
  repeat (with_reducible first | refine c_seq ?_ | refine c_block ?_ | refine c_skip ?_ | refine x_then ?_ | refine x_block ?_)
  refine c_reg ?_
  refine l_pure rfl (s_move  rfl ?_)
  refine l_pure rfl (s_move  rfl ?_)
  refine l_pure rfl (s_sub  rfl rfl (wrapm_u32 _) ?_)
  refine l_pure rfl (s_move  rfl ?_)
  refine l_pure rfl (s_sub  rfl rfl (r := (((x + 2 * B32 - y - b) % B32 : Nat) : Int)) (by rw [wrapm_u32]; unfold B32 at *; omega) ?_)
  refine l_pure rfl (s_asg  rfl ?_)
  refine l_nil ?_
  repeat (with_reducible first | refine c_seq ?_ | refine c_block ?_ | refine c_skip ?_ | refine x_then ?_ | refine x_block ?_)
  refine c_reg ?_
  refine l_pure rfl (s_move  rfl ?_)
  refine l_pure rfl (s_com  rfl (xor_nat rfl 4294967295 x (by decide) hx) ?_)
  refine l_pure rfl (s_move  rfl ?_)
  refine l_pure rfl (s_and  rfl rfl (and_nat rfl _ _ hnx hy) ?_)
  refine l_pure rfl (s_move  rfl ?_)
  refine l_pure rfl (s_move  rfl ?_)
  refine l_pure rfl (s_xor  rfl rfl (xor_nat rfl x y hx hy) ?_)
  refine l_pure rfl (s_com  rfl (xor_nat rfl 4294967295 _ (by decide) hxy) ?_)
  refine l_pure rfl (s_move  rfl ?_)
  refine l_pure rfl (s_and  rfl rfl (and_nat rfl _ _ hnxy hd) ?_)
  refine l_pure rfl (s_or  rfl rfl (or_nat rfl _ _ ha1 ha2) ?_)
  refine l_pure rfl (s_shr  rfl rfl (by decide) (shr_v _ 31 (by decide)) ?_)
  refine l_pure rfl (s_asg  rfl ?_)
  refine l_nil ?_
  repeat (with_reducible first | refine c_seq ?_ | refine c_block ?_ | refine c_skip ?_ | refine x_then ?_ | refine x_block ?_)
  refine c_ret ?_
  repeat (with_reducible first | refine x_then_ret ?_ | refine x_block_ret ?_)
  refine r_two rfl rfl rfl ?_
  rw [borrow_law x y b hx hy hb]
  exact ⟨rfl, rfl⟩
end Go.Proofs.YtmghobajmhdbfaaGreatDoor
namespace Go.Proofs.YtmghobajmhdbfaaGreatDoor
open Go Go.RowKit Go.Sx
theorem bt {a b c : World} (h : Below a.heap.size a b) (k : Below b.heap.size b c) : Below a.heap.size a c := h.trans (k.mono h.size)
theorem pad_put {b r i d n : Nat} (hb : 2 ≤ b) (hr : r < b ^ i) (hd : d < b) : (pad b r n).set i d = pad b (r + b ^ i * d) n ∧ r + b ^ i * d < b ^ (i + 1) := by
  have h1 : b ^ (i + 1) = b ^ i * b := Nat.pow_succ ..
  have h2 : b ^ i * (d + 1) ≤ b ^ i * b := Nat.mul_le_mul_left _ hd
  rw [Nat.mul_add] at h2
  have h3 : r + b ^ i * d < b ^ (i + 1) := by omega
  have h4 : b ^ i ≤ b ^ (i + 1) := Nat.pow_le_pow_right (by omega) (by omega)
  have h := pad_add (b := b) (v := r) (n := n) (k := i) (x := d) hb (by omega) h3
  rw [dgt_big hr, Nat.zero_add] at h
  exact ⟨h, h3⟩
theorem ofDigs_two (u : Nat) : ofDigs B32 [u % 4294967296, u / 4294967296] = u := by
  simp only [ofDigs, B32]; omega
theorem limb_lt_pow (v : Nat) : v < B32 ^ (limb v).length := lt_pow_digs_length (by decide) v
theorem limb_len_le {v k : Nat} (h : v < B32 ^ k) : (limb v).length ≤ k := digs_length_le (by decide) k v h
/-- How many limbs a string's number has. -/
theorem limb_val_len (s : ByteArray) : (limb (val s)).length ≤ s.size := by
  refine limb_len_le (Nat.lt_of_lt_of_le (val_lt s) ?_)
  exact Nat.pow_le_pow_left (by decide) _
theorem FromUint_ok (u : Nat) (w : World) (hu : u < 18446744073709551616) :
    Ret Tryz.prog 95 #[.int .u64 u] w fun r w' => r = .string (natS u) ∧ Below w.heap.size w w' := by
  have hS := St.init w
  refine enter Tryz.func95 rfl Tryz.ntmps95 rfl ?_
  repeat (with_reducible first | refine c_seq ?_ | refine c_block ?_ | refine c_skip ?_ | refine x_then ?_ | refine x_block ?_)
  refine c_reg ?_
  refine l_pure rfl (s_asg  rfl ?_)
  refine l_nil ?_
  repeat (with_reducible first | refine c_seq ?_ | refine c_block ?_ | refine c_skip ?_ | refine x_then ?_ | refine x_block ?_)
  refine c_reg ?_
  refine l_pure rfl (s_move  rfl ?_)
  refine l_pure rfl (s_conv  rfl Tryz.underlying94 ⟨_, Tryz.underlying95⟩ (u32_mod _) ?_)
  refine l_pure rfl (s_move  rfl ?_)
  refine l_pure rfl (s_shr  rfl rfl (by omega) (r := ((u / 4294967296 : Nat) : Int)) (by exact shr_v _ 32 (by decide)) ?_)
  refine l_pure rfl (s_conv  rfl Tryz.underlying94 ⟨_, Tryz.underlying95⟩ (r := ((u / 4294967296 : Nat) : Int)) (by exact wr_u32 _ (by omega)) ?_)
  refine l_heavy rfl (s_bsl (vs := [_, _])  rfl si_92 rfl (by decide) (by decide) (by decide) (by simp [Value.cells]) rfl hS ?_)
  intro b1 wz2 hS hBz2
  have hsl := St.slk (L := [u % 4294967296, u / 4294967296]) hS (k := 0) rfl (n := 2) (cap := 2) (by simp) (by omega) (by omega)
  have hd : ∀ d ∈ [u % 4294967296, u / 4294967296], d < B32 := by
    intro d hd
    simp only [List.mem_cons, List.not_mem_nil, or_false] at hd
    unfold B32; omega
  refine l_heavy rfl (s_call Tryz.call63 rfl (text_ok _ _ _ hsl hd (by simp)) ?_)
  rintro r w3 ⟨rfl, hB3⟩
  refine l_pure rfl (s_asg  rfl ?_)
  refine l_nil ?_
  repeat (with_reducible first | refine c_seq ?_ | refine c_block ?_ | refine c_skip ?_ | refine x_then ?_ | refine x_block ?_)
  refine c_ret ?_
  repeat (with_reducible first | refine x_then_ret ?_ | refine x_block_ret ?_)
  refine r_one rfl rfl ?_
  exact ⟨vs rfl (congrArg natS (ofDigs_two u)), bt hS.below hB3⟩
theorem Add_ok (a b : ByteArray) (w : World) (ha : a.size ≤ 4398046511104) (hb : b.size ≤ 4398046511104) :
    Ret Tryz.prog 65 #[.string a, .string b] w fun r w' => r = .string (natS (val a + val b)) ∧ Below w.heap.size w w' := by
  have hla := limb_val_len a
  have hlb := limb_val_len b
  have hS := St.init w
  refine enter Tryz.func65 rfl Tryz.ntmps65 rfl ?_
  repeat (with_reducible first | refine c_seq ?_ | refine c_block ?_ | refine c_skip ?_ | refine x_then ?_ | refine x_block ?_)
  refine c_reg ?_
  refine l_pure rfl (s_asg  rfl ?_)
  refine l_nil ?_
  repeat (with_reducible first | refine c_seq ?_ | refine c_block ?_ | refine c_skip ?_ | refine x_then ?_ | refine x_block ?_)
  refine c_reg ?_
  refine l_pure rfl (s_move  rfl ?_)
  refine l_heavy rfl (s_call Tryz.call62 rfl (parse_ok _ _ (by omega)) ?_)
  rintro vx w1 ⟨hx, hB1⟩
  refine l_pure rfl (s_move  rfl ?_)
  refine l_heavy rfl (s_call Tryz.call62 rfl (parse_ok _ _ (by omega)) ?_)
  rintro vy w2 ⟨hy, hB2⟩
  refine l_pure rfl (s_asg  rfl ?_)
  refine l_pure rfl (s_asg  rfl ?_)
  refine l_nil ?_
  repeat (with_reducible first | refine c_seq ?_ | refine c_block ?_ | refine c_skip ?_ | refine x_then ?_ | refine x_block ?_)
  have hx := hx.below hB2
  have hB2 := bt hB1 hB2
  clear hS hB1
  have hS := St.init w2
  repeat (with_reducible first | refine c_seq ?_ | refine c_block ?_ | refine c_skip ?_ | refine x_then ?_ | refine x_block ?_)
  refine c_reg ?_
  refine l_pure rfl (s_move  rfl ?_)
  refine l_pure rfl (s_lenr  rfl (hx.below hS.below) ⟨_, Tryz.underlying92⟩ ?_)
  refine l_pure rfl (s_move  rfl ?_)
  refine l_pure rfl (s_lenr  rfl (hy.below hS.below) ⟨_, Tryz.underlying92⟩ ?_)
  refine l_pure rfl (s_lss  rfl rfl ?_)
  refine l_nil ?_
  repeat (with_reducible first | refine c_seq ?_ | refine c_block ?_ | refine c_skip ?_ | refine x_then ?_ | refine x_block ?_)
  refine c_cut1 (fun ρ w' => ∃ v u m n, m + n = val a + val b ∧ ρ 5 = v ∧ ρ 6 = u ∧ Sl (uk .u32) 1 w2 v (limb m) ∧ Sl (uk .u32) 1 w2 u (limb n) ∧ (limb n).length ≤ (limb m).length ∧ (limb m).length ≤ 4398046511104 ∧ w2 = w') ?_ ?_
  · by_cases hlt : (limb (val a)).length < (limb (val b)).length
    · refine c_yes rfl (decide_eq_true (by omega)) ?_
      repeat (with_reducible first | refine c_seq ?_ | refine c_block ?_ | refine c_skip ?_ | refine x_then ?_ | refine x_block ?_)
      refine c_reg ?_
      refine l_pure rfl (s_move  rfl ?_)
      refine l_pure rfl (s_move  rfl ?_)
      refine l_pure rfl (s_asg  rfl ?_)
      refine l_pure rfl (s_asg  rfl ?_)
      refine l_nil ?_
      repeat (with_reducible first | refine c_seq ?_ | refine c_block ?_ | refine c_skip ?_ | refine x_then ?_ | refine x_block ?_)
      exact ⟨_, rfl, vy, vx, val b, val a, Nat.add_comm .., rfl, rfl, hy, hx, by omega, by omega, rfl⟩
    · refine c_no rfl (decide_eq_false (by omega)) ?_
      repeat (with_reducible first | refine c_seq ?_ | refine c_block ?_ | refine c_skip ?_ | refine x_then ?_ | refine x_block ?_)
      exact ⟨_, rfl, vx, vy, val a, val b, rfl, rfl, rfl, hx, hy, by omega, by omega, rfl⟩
  clear hx hy hla hlb
  rintro ρ w' ⟨vx, vy, X, Y, hsum, h5, h6, hx, hy, hle, hmx, rfl⟩
  rw [← hsum]
  clear hsum
  obtain ⟨n, hn⟩ : ∃ n, n = (limb X).length := ⟨_, rfl⟩
  repeat (with_reducible first | refine c_seq ?_ | refine c_block ?_ | refine c_skip ?_ | refine x_then ?_ | refine x_block ?_)
  refine c_reg ?_
  refine l_pure rfl (s_move  h5 ?_)
  refine l_pure rfl (s_lenr  rfl (hx.below hS.below) ⟨_, Tryz.underlying92⟩ ?_)
  refine l_pure rfl (s_add  rfl rfl (IntWalk.i64_in _ (by omega)) ?_)
  refine l_heavy rfl (s_makek (n := (limb X).length + 1)  rfl rfl si_92 (by omega) (by omega) (by omega) (by omega) hS ?_)
  intro b1 wz2 hS hBz2
  refine l_pure rfl (s_asg  rfl ?_)
  refine l_nil ?_
  repeat (with_reducible first | refine c_seq ?_ | refine c_block ?_ | refine c_skip ?_ | refine x_then ?_ | refine x_block ?_)
  refine c_reg ?_
  refine l_pure rfl (s_asg  rfl ?_)
  refine l_nil ?_
  repeat (with_reducible first | refine c_seq ?_ | refine c_block ?_ | refine c_skip ?_ | refine x_then ?_ | refine x_block ?_)
  refine c_reg ?_
  refine l_pure rfl (s_move  h5 ?_)
  refine l_pure rfl (s_lenr  rfl (hx.below hS.below) ⟨_, Tryz.underlying92⟩ ?_)
  refine l_pure rfl (s_move  rfl ?_)
  refine l_nil ?_
  repeat (with_reducible first | refine c_seq ?_ | refine c_block ?_ | refine c_skip ?_ | refine x_then ?_ | refine x_block ?_)
  have hXn : X < B32 ^ n := hn ▸ limb_lt_pow X
  have hYn : Y < B32 ^ n := Nat.lt_of_lt_of_le (limb_lt_pow Y) (Nat.pow_le_pow_right (by decide) (by omega))
  rw [← hn, ← pad_zero B32 (n + 1)] at hS
  refine c_loop (σ := Nat × Nat × Nat) (fun s ρ w' => s.1 ≤ n ∧ s.2.1 < B32 ^ s.1 ∧ s.2.2 ≤ 1 ∧ s.2.1 + B32 ^ s.1 * s.2.2 = X % B32 ^ s.1 + Y % B32 ^ s.1 ∧ ρ 5 = vx ∧ ρ 6 = vy ∧ ρ 7 = .slice (some ⟨b1, 0, none⟩) (n + 1) (n + 1) ∧ ρ 8 = .int .u32 s.2.2 ∧ ρ 27 = .int .i64 n ∧ ρ 28 = .int .i64 s.1 ∧ St w2 w' [(b1, 94, Kr .u32 (pad B32 s.2.1 (n + 1)))]) (fun s => n - s.1) (0, 0, 0)
    ⟨Nat.zero_le _, by decide, by decide, by simp [Nat.mod_one], h5, h6, by rw [hn]; rfl, rfl, vi rfl (by rw [hn]), rfl, hS⟩ ?_
  clear hS h5 h6
  rintro ⟨i, r, c⟩ ρ w3 ⟨hi, hr, hc, hinv, h5, h6, h7, h8, h27, h28, hS⟩
  simp only at hi hr hc hinv h5 h6 h7 h8 h27 h28 hS
  repeat (with_reducible first | refine c_seq ?_ | refine c_block ?_ | refine c_skip ?_ | refine x_then ?_ | refine x_block ?_)
  refine c_reg ?_
  refine l_pure rfl (s_lss  h28 h27 ?_)
  refine l_nil ?_
  repeat (with_reducible first | refine c_seq ?_ | refine c_block ?_ | refine c_skip ?_ | refine x_then ?_ | refine x_block ?_)
  by_cases hlt : i < n
  · refine c_yes rfl (decide_eq_true (by omega)) ?_
    repeat (with_reducible first | refine c_seq ?_ | refine c_block ?_ | refine c_skip ?_ | refine x_then ?_ | refine x_block ?_)
    refine c_reg ?_
    refine l_pure rfl (s_move  h28 ?_)
    refine l_pure rfl (s_asg  rfl ?_)
    refine l_nil ?_
    repeat (with_reducible first | refine c_seq ?_ | refine c_block ?_ | refine c_skip ?_ | refine x_then ?_ | refine x_block ?_)
    refine c_reg ?_
    refine l_pure rfl (s_asg  rfl ?_)
    refine l_nil ?_
    repeat (with_reducible first | refine c_seq ?_ | refine c_block ?_ | refine c_skip ?_ | refine x_then ?_ | refine x_block ?_)
    refine c_reg ?_
    refine l_pure rfl (s_move  rfl ?_)
    refine l_pure rfl (s_move  h6 ?_)
    refine l_pure rfl (s_lenr  rfl (hy.below hS.below) ⟨_, Tryz.underlying92⟩ ?_)
    refine l_pure rfl (s_lss  rfl rfl ?_)
    refine l_nil ?_
    repeat (with_reducible first | refine c_seq ?_ | refine c_block ?_ | refine c_skip ?_ | refine x_then ?_ | refine x_block ?_)
    refine c_cut1 (fun ρ w' => ρ 5 = vx ∧ ρ 6 = vy ∧ ρ 7 = .slice (some ⟨b1, 0, none⟩) (n + 1) (n + 1) ∧ ρ 8 = .int .u32 c ∧ ρ 9 = .int .i64 i ∧ ρ 10 = .int .u32 (dgt B32 Y i : Nat) ∧ ρ 27 = .int .i64 n ∧ ρ 28 = .int .i64 i ∧ w3 = w') ?_ ?_
    · by_cases hlt2 : i < (limb Y).length
      · refine c_yes rfl (decide_eq_true (by omega)) ?_
        repeat (with_reducible first | refine c_seq ?_ | refine c_block ?_ | refine c_skip ?_ | refine x_then ?_ | refine x_block ?_)
        refine c_reg ?_
        refine l_pure rfl (s_move  h6 ?_)
        refine l_pure rfl (s_move  rfl ?_)
        refine l_pure rfl (s_ixr (i := i)  rfl rfl (hy.below hS.below) (by omega) (by first | omega | (simp; done) | (simp; omega)) si_92 ?_)
        refine l_read rfl (s_lde (i := i) 0  rfl vi_94 (hy.below hS.below) (by first | omega | (simp; done) | (simp; omega)) rfl rfl (.inr rfl) ?_)
        refine l_pure rfl (s_asg  rfl ?_)
        refine l_nil ?_
        repeat (with_reducible first | refine c_seq ?_ | refine c_block ?_ | refine c_skip ?_ | refine x_then ?_ | refine x_block ?_)
        exact ⟨_, rfl, h5, h6, h7, h8, rfl, vi rfl (by rw [limb_getD]), h27, h28, rfl⟩
      · refine c_no rfl (decide_eq_false (by omega)) ?_
        repeat (with_reducible first | refine c_seq ?_ | refine c_block ?_ | refine c_skip ?_ | refine x_then ?_ | refine x_block ?_)
        exact ⟨_, rfl, h5, h6, h7, h8, rfl, vi rfl (by rw [dgt_big (Nat.lt_of_lt_of_le (limb_lt_pow Y) (Nat.pow_le_pow_right (by decide) (by omega)))]; rfl), h27, h28, rfl⟩
    clear h5 h6 h7 h8 h27 h28
    rintro ρ w' ⟨h5, h6, h7, h8, h9, h10, h27, h28, rfl⟩
    have hx1 : dgt B32 X i < B32 := dgt_lt (by decide) X i
    have hy1 : dgt B32 Y i < B32 := dgt_lt (by decide) Y i
    have hgx : (limb X).getD i 0 = dgt B32 X i := limb_getD X i
    have hil : i < (limb X).length := by omega
    repeat (with_reducible first | refine c_seq ?_ | refine c_block ?_ | refine c_skip ?_ | refine x_then ?_ | refine x_block ?_)
    refine c_reg ?_
    refine l_pure rfl (s_move  h7 ?_)
    refine l_pure rfl (s_move  h9 ?_)
    refine l_pure rfl (s_move  h5 ?_)
    refine l_pure rfl (s_move  h9 ?_)
    refine l_pure rfl (s_ixr (i := i)  rfl rfl (hx.below hS.below) (by omega) (by first | omega | (simp; done) | (simp; omega)) si_92 ?_)
    refine l_read rfl (s_lde (i := i) 0  rfl vi_94 (hx.below hS.below) (by first | omega | (simp; done) | (simp; omega)) rfl rfl (.inr rfl) ?_)
    refine l_pure rfl (s_move  h10 ?_)
    refine l_pure rfl (s_move  h8 ?_)
    refine l_heavy rfl (s_call Tryz.call92 rfl (Add32_ok _ _ _ _ (by rw [hgx]; exact hx1) hy1 (by unfold B32; omega)) ?_)
    rintro v w' ⟨rfl, rfl⟩
    refine l_pure rfl (s_move  rfl ?_)
    refine l_pure rfl (s_ext  rfl rfl ?_)
    refine l_pure rfl (s_ext  rfl rfl ?_)
    refine l_pure rfl (s_ixo (i := i)  rfl rfl (by omega) (by first | omega | (simp; done) | (simp; omega)) si_92 ?_)
    refine l_heavy rfl (s_stk (k := 0) (i := i) (a := _)  rfl rfl rfl vi_94 hS rfl (by omega) (by first | omega | (simp; done) | (simp; omega)) ?_)
    intro wz3 hS
    refine l_pure rfl (s_asg  rfl ?_)
    refine l_nil ?_
    repeat (with_reducible first | refine c_seq ?_ | refine c_block ?_ | refine c_skip ?_ | refine x_then ?_ | refine x_block ?_)
    obtain ⟨e1, e2⟩ := pad_put (b := B32) (r := r) (i := i) (d := (dgt B32 X i + dgt B32 Y i + c) % B32) (n := n + 1) (by decide) hr (Nat.mod_lt _ (by decide))
    rw [hgx, e1] at hS
    repeat (with_reducible first | refine c_seq ?_ | refine c_block ?_ | refine c_skip ?_ | refine x_then ?_ | refine x_block ?_)
    refine c_reg ?_
    refine l_pure rfl (s_add  h28 rfl (IntWalk.i64_in _ (by omega)) ?_)
    refine l_pure rfl (s_move  rfl ?_)
    refine l_nil ?_
    repeat (with_reducible first | refine c_seq ?_ | refine c_block ?_ | refine c_skip ?_ | refine x_then ?_ | refine x_block ?_)
    refine ⟨(i + 1, r + B32 ^ i * ((dgt B32 X i + dgt B32 Y i + c) % B32), (dgt B32 X i + dgt B32 Y i + c) / B32), _, rfl, ⟨hlt, e2, ?_, ?_, h5, h6, h7, vi rfl (by rw [hgx]), h27, vi rfl (by simp), hS⟩, by simp only; omega⟩
    · simp only; unfold B32 at *; omega
    · simp only
      rw [mod_pow_succ, mod_pow_succ, Nat.pow_succ, Nat.add_assoc, Nat.mul_assoc, ← Nat.mul_add, Nat.mod_add_div, Nat.mul_add, Nat.mul_add]
      omega
  · refine c_no rfl (decide_eq_false (by omega)) ?_
    repeat (with_reducible first | refine c_seq ?_ | refine c_block ?_ | refine c_skip ?_ | refine x_then ?_ | refine x_block ?_)
    refine c_exit ?_
    repeat (with_reducible first | refine x_then_exit ?_ | refine x_block_exit ?_ | refine x_block_pass rfl ?_)
    repeat (with_reducible first | refine c_seq ?_ | refine c_block ?_ | refine c_skip ?_ | refine x_then ?_ | refine x_block ?_)
    obtain rfl : i = n := by omega
    rw [Nat.mod_eq_of_lt hXn, Nat.mod_eq_of_lt hYn] at hinv
    repeat (with_reducible first | refine c_seq ?_ | refine c_block ?_ | refine c_skip ?_ | refine x_then ?_ | refine x_block ?_)
    refine c_reg ?_
    refine l_pure rfl (s_move  h7 ?_)
    refine l_pure rfl (s_move  h5 ?_)
    refine l_pure rfl (s_lenr  rfl (hx.below hS.below) ⟨_, Tryz.underlying92⟩ ?_)
    refine l_pure rfl (s_move  h8 ?_)
    refine l_pure rfl (s_ixo (i := i)  rfl rfl (by omega) (by first | omega | (simp; done) | (simp; omega)) si_92 ?_)
    refine l_heavy rfl (s_stk (k := 0) (i := i) (a := _)  rfl rfl rfl vi_94 hS rfl (by omega) (by first | omega | (simp; done) | (simp; omega)) ?_)
    intro wz4 hS
    refine l_nil ?_
    repeat (with_reducible first | refine c_seq ?_ | refine c_block ?_ | refine c_skip ?_ | refine x_then ?_ | refine x_block ?_)
    obtain ⟨e1, e2⟩ := pad_put (b := B32) (r := r) (i := i) (d := c) (n := i + 1) (by decide) hr (by unfold B32; omega)
    rw [hn, ← hn, e1, hinv] at hS
    rw [hinv] at e2
    have hsl := hS.slk (k := 0) rfl (n := i + 1) (cap := i + 1) (by simp) (Nat.le_refl _) (by omega)
    rw [List.take_of_length_le (by simp)] at hsl
    repeat (with_reducible first | refine c_seq ?_ | refine c_block ?_ | refine c_skip ?_ | refine x_then ?_ | refine x_block ?_)
    refine c_reg ?_
    refine l_pure rfl (s_move  h7 ?_)
    refine l_heavy rfl (s_call Tryz.call63 rfl (text_ok _ _ _ hsl (pad_lt (by decide) _ _) (by simp; omega)) ?_)
    rintro r w4 ⟨rfl, hB4⟩
    refine l_pure rfl (s_asg  rfl ?_)
    refine l_nil ?_
    repeat (with_reducible first | refine c_seq ?_ | refine c_block ?_ | refine c_skip ?_ | refine x_then ?_ | refine x_block ?_)
    refine c_ret ?_
    repeat (with_reducible first | refine x_then_ret ?_ | refine x_block_ret ?_)
    refine r_one rfl rfl ?_
    rw [ofDigs_pad_lt e2]
    exact ⟨rfl, bt hB2 (bt hS.below hB4)⟩
theorem subtract_ok (vx vy : Value) (X Y : Nat) (w : World) (hx : Sl (uk .u32) 1 w vx (limb X)) (hy : Sl (uk .u32) 1 w vy (limb Y)) (hYX : Y ≤ X) (hmx : (limb X).length ≤ 17592186044416) :
    Ret Tryz.prog 94 #[vx, vy] w fun r w' => Sl (uk .u32) 1 w' r (limb (X - Y)) ∧ Below w.heap.size w w' := by
  have hS := St.init w
  obtain ⟨n, hn⟩ : ∃ n, n = (limb X).length := ⟨_, rfl⟩
  have hle : (limb Y).length ≤ n := hn ▸ digs_length_mono (by decide) hYX
  refine enter Tryz.func94 rfl Tryz.ntmps94 rfl ?_
  repeat (with_reducible first | refine c_seq ?_ | refine c_block ?_ | refine c_skip ?_ | refine x_then ?_ | refine x_block ?_)
  refine c_reg ?_
  refine l_pure rfl (s_asg  rfl ?_)
  refine l_nil ?_
  repeat (with_reducible first | refine c_seq ?_ | refine c_block ?_ | refine c_skip ?_ | refine x_then ?_ | refine x_block ?_)
  refine c_reg ?_
  refine l_pure rfl (s_move  rfl ?_)
  refine l_pure rfl (s_lenr  rfl (hx.below hS.below) ⟨_, Tryz.underlying92⟩ ?_)
  refine l_heavy rfl (s_makek (n := (limb X).length)  rfl rfl si_92 (by omega) (by omega) (by omega) (by omega) hS ?_)
  intro b1 wz2 hS hBz2
  refine l_pure rfl (s_asg  rfl ?_)
  refine l_nil ?_
  repeat (with_reducible first | refine c_seq ?_ | refine c_block ?_ | refine c_skip ?_ | refine x_then ?_ | refine x_block ?_)
  refine c_reg ?_
  refine l_pure rfl (s_asg  rfl ?_)
  refine l_nil ?_
  repeat (with_reducible first | refine c_seq ?_ | refine c_block ?_ | refine c_skip ?_ | refine x_then ?_ | refine x_block ?_)
  refine c_reg ?_
  refine l_pure rfl (s_move  rfl ?_)
  refine l_pure rfl (s_lenr  rfl (hx.below hS.below) ⟨_, Tryz.underlying92⟩ ?_)
  refine l_pure rfl (s_move  rfl ?_)
  refine l_nil ?_
  repeat (with_reducible first | refine c_seq ?_ | refine c_block ?_ | refine c_skip ?_ | refine x_then ?_ | refine x_block ?_)
  have hXn : X < B32 ^ n := hn ▸ limb_lt_pow X
  have hYn : Y < B32 ^ n := Nat.lt_of_lt_of_le (limb_lt_pow Y) (Nat.pow_le_pow_right (by decide) (by omega))
  rw [← hn, ← pad_zero B32 n] at hS
  refine c_loop (σ := Nat × Nat × Nat) (fun s ρ w' => s.1 ≤ n ∧ s.2.1 < B32 ^ s.1 ∧ s.2.2 ≤ 1 ∧ s.2.1 + Y % B32 ^ s.1 = X % B32 ^ s.1 + B32 ^ s.1 * s.2.2 ∧ ρ 0 = vx ∧ ρ 1 = vy ∧ ρ 5 = .slice (some ⟨b1, 0, none⟩) n n ∧ ρ 6 = .int .u32 s.2.2 ∧ ρ 13 = .int .i64 n ∧ ρ 14 = .int .i64 s.1 ∧ St w w' [(b1, 94, Kr .u32 (pad B32 s.2.1 n))]) (fun s => n - s.1) (0, 0, 0)
    ⟨Nat.zero_le _, by decide, by decide, by simp [Nat.mod_one], rfl, rfl, by rw [hn]; rfl, rfl, vi rfl (by rw [hn]), rfl, hS⟩ ?_
  clear hS
  rintro ⟨i, r, c⟩ ρ w3 ⟨hi, hr, hc, hinv, h0, h1, h5, h6, h13, h14, hS⟩
  simp only at hi hr hc hinv h0 h1 h5 h6 h13 h14 hS
  repeat (with_reducible first | refine c_seq ?_ | refine c_block ?_ | refine c_skip ?_ | refine x_then ?_ | refine x_block ?_)
  refine c_reg ?_
  refine l_pure rfl (s_lss  h14 h13 ?_)
  refine l_nil ?_
  repeat (with_reducible first | refine c_seq ?_ | refine c_block ?_ | refine c_skip ?_ | refine x_then ?_ | refine x_block ?_)
  by_cases hlt : i < n
  · refine c_yes rfl (decide_eq_true (by omega)) ?_
    repeat (with_reducible first | refine c_seq ?_ | refine c_block ?_ | refine c_skip ?_ | refine x_then ?_ | refine x_block ?_)
    refine c_reg ?_
    refine l_pure rfl (s_move  h14 ?_)
    refine l_pure rfl (s_asg  rfl ?_)
    refine l_nil ?_
    repeat (with_reducible first | refine c_seq ?_ | refine c_block ?_ | refine c_skip ?_ | refine x_then ?_ | refine x_block ?_)
    refine c_reg ?_
    refine l_pure rfl (s_asg  rfl ?_)
    refine l_nil ?_
    repeat (with_reducible first | refine c_seq ?_ | refine c_block ?_ | refine c_skip ?_ | refine x_then ?_ | refine x_block ?_)
    refine c_reg ?_
    refine l_pure rfl (s_move  rfl ?_)
    refine l_pure rfl (s_move  h1 ?_)
    refine l_pure rfl (s_lenr  rfl (hy.below hS.below) ⟨_, Tryz.underlying92⟩ ?_)
    refine l_pure rfl (s_lss  rfl rfl ?_)
    refine l_nil ?_
    repeat (with_reducible first | refine c_seq ?_ | refine c_block ?_ | refine c_skip ?_ | refine x_then ?_ | refine x_block ?_)
    refine c_cut1 (fun ρ w' => ρ 0 = vx ∧ ρ 1 = vy ∧ ρ 5 = .slice (some ⟨b1, 0, none⟩) n n ∧ ρ 6 = .int .u32 c ∧ ρ 7 = .int .i64 i ∧ ρ 8 = .int .u32 (dgt B32 Y i : Nat) ∧ ρ 13 = .int .i64 n ∧ ρ 14 = .int .i64 i ∧ w3 = w') ?_ ?_
    · by_cases hlt2 : i < (limb Y).length
      · refine c_yes rfl (decide_eq_true (by omega)) ?_
        repeat (with_reducible first | refine c_seq ?_ | refine c_block ?_ | refine c_skip ?_ | refine x_then ?_ | refine x_block ?_)
        refine c_reg ?_
        refine l_pure rfl (s_move  h1 ?_)
        refine l_pure rfl (s_move  rfl ?_)
        refine l_pure rfl (s_ixr (i := i)  rfl rfl (hy.below hS.below) (by omega) (by first | omega | (simp; done) | (simp; omega)) si_92 ?_)
        refine l_read rfl (s_lde (i := i) 0  rfl vi_94 (hy.below hS.below) (by first | omega | (simp; done) | (simp; omega)) rfl rfl (.inr rfl) ?_)
        refine l_pure rfl (s_asg  rfl ?_)
        refine l_nil ?_
        repeat (with_reducible first | refine c_seq ?_ | refine c_block ?_ | refine c_skip ?_ | refine x_then ?_ | refine x_block ?_)
        exact ⟨_, rfl, h0, h1, h5, h6, rfl, vi rfl (by rw [limb_getD]), h13, h14, rfl⟩
      · refine c_no rfl (decide_eq_false (by omega)) ?_
        repeat (with_reducible first | refine c_seq ?_ | refine c_block ?_ | refine c_skip ?_ | refine x_then ?_ | refine x_block ?_)
        exact ⟨_, rfl, h0, h1, h5, h6, rfl, vi rfl (by rw [dgt_big (Nat.lt_of_lt_of_le (limb_lt_pow Y) (Nat.pow_le_pow_right (by decide) (by omega)))]; rfl), h13, h14, rfl⟩
    clear h0 h1 h5 h6 h13 h14
    rintro ρ w' ⟨h0, h1, h5, h6, h7, h8, h13, h14, rfl⟩
    have hx1 : dgt B32 X i < B32 := dgt_lt (by decide) X i
    have hy1 : dgt B32 Y i < B32 := dgt_lt (by decide) Y i
    have hgx : (limb X).getD i 0 = dgt B32 X i := limb_getD X i
    have hil : i < (limb X).length := by omega
    repeat (with_reducible first | refine c_seq ?_ | refine c_block ?_ | refine c_skip ?_ | refine x_then ?_ | refine x_block ?_)
    refine c_reg ?_
    refine l_pure rfl (s_move  h5 ?_)
    refine l_pure rfl (s_move  h7 ?_)
    refine l_pure rfl (s_move  h0 ?_)
    refine l_pure rfl (s_move  h7 ?_)
    refine l_pure rfl (s_ixr (i := i)  rfl rfl (hx.below hS.below) (by omega) (by first | omega | (simp; done) | (simp; omega)) si_92 ?_)
    refine l_read rfl (s_lde (i := i) 0  rfl vi_94 (hx.below hS.below) (by first | omega | (simp; done) | (simp; omega)) rfl rfl (.inr rfl) ?_)
    refine l_pure rfl (s_move  h8 ?_)
    refine l_pure rfl (s_move  h6 ?_)
    refine l_heavy rfl (s_call Tryz.call112 rfl (Sub32_ok _ _ _ _ (by rw [hgx]; exact hx1) hy1 hc) ?_)
    rintro v w' ⟨rfl, rfl⟩
    refine l_pure rfl (s_move  rfl ?_)
    refine l_pure rfl (s_ext  rfl rfl ?_)
    refine l_pure rfl (s_ext  rfl rfl ?_)
    refine l_pure rfl (s_ixo (i := i)  rfl rfl (by omega) (by first | omega | (simp; done) | (simp; omega)) si_92 ?_)
    refine l_heavy rfl (s_stk (k := 0) (i := i) (a := _)  rfl rfl rfl vi_94 hS rfl (by omega) (by first | omega | (simp; done) | (simp; omega)) ?_)
    intro wz3 hS
    refine l_pure rfl (s_asg  rfl ?_)
    refine l_nil ?_
    repeat (with_reducible first | refine c_seq ?_ | refine c_block ?_ | refine c_skip ?_ | refine x_then ?_ | refine x_block ?_)
    obtain ⟨d, hd⟩ : ∃ d, d = (dgt B32 X i + 2 * B32 - dgt B32 Y i - c) % B32 := ⟨_, rfl⟩
    obtain ⟨c', hc'⟩ : ∃ c', c' = if dgt B32 X i < dgt B32 Y i + c then 1 else 0 := ⟨_, rfl⟩
    have hdc : d + dgt B32 Y i + c = dgt B32 X i + B32 * c' := by
      rw [hd, hc']; unfold B32 at *; split <;> omega
    have hc1 : c' ≤ 1 := by rw [hc']; split <;> omega
    obtain ⟨e1, e2⟩ := pad_put (b := B32) (r := r) (i := i) (d := d) (n := n) (by decide) hr (hd ▸ Nat.mod_lt _ (by decide))
    rw [hgx, ← hd, e1] at hS
    repeat (with_reducible first | refine c_seq ?_ | refine c_block ?_ | refine c_skip ?_ | refine x_then ?_ | refine x_block ?_)
    refine c_reg ?_
    refine l_pure rfl (s_add  h14 rfl (IntWalk.i64_in _ (by omega)) ?_)
    refine l_pure rfl (s_move  rfl ?_)
    refine l_nil ?_
    repeat (with_reducible first | refine c_seq ?_ | refine c_block ?_ | refine c_skip ?_ | refine x_then ?_ | refine x_block ?_)
    refine ⟨(i + 1, r + B32 ^ i * d, c'), _, rfl, ⟨hlt, e2, hc1, ?_, h0, h1, h5, vi rfl (by rw [hgx, hc']), h13, vi rfl (by simp), hS⟩, by simp only; omega⟩
    simp only
    have h9 : B32 ^ i * d + B32 ^ i * dgt B32 Y i + B32 ^ i * c = B32 ^ i * dgt B32 X i + B32 ^ i * (B32 * c') := by rw [← Nat.mul_add, ← Nat.mul_add, hdc, Nat.mul_add]
    rw [mod_pow_succ, mod_pow_succ, Nat.pow_succ, Nat.mul_assoc]
    omega
  · refine c_no rfl (decide_eq_false (by omega)) ?_
    repeat (with_reducible first | refine c_seq ?_ | refine c_block ?_ | refine c_skip ?_ | refine x_then ?_ | refine x_block ?_)
    refine c_exit ?_
    repeat (with_reducible first | refine x_then_exit ?_ | refine x_block_exit ?_ | refine x_block_pass rfl ?_)
    repeat (with_reducible first | refine c_seq ?_ | refine c_block ?_ | refine c_skip ?_ | refine x_then ?_ | refine x_block ?_)
    obtain rfl : i = n := by omega
    rw [Nat.mod_eq_of_lt hXn, Nat.mod_eq_of_lt hYn] at hinv
    have hc0 : c = 0 := by
      rcases Nat.lt_or_ge c 1 with h | h
      · omega
      · obtain rfl : c = 1 := by omega
        omega
    subst hc0
    have hr2 : r = X - Y := by omega
    have hsl := hS.slk (k := 0) rfl (n := i) (cap := i) (by simp) (Nat.le_refl _) (by omega)
    rw [List.take_of_length_le (by simp)] at hsl
    repeat (with_reducible first | refine c_seq ?_ | refine c_block ?_ | refine c_skip ?_ | refine x_then ?_ | refine x_block ?_)
    refine c_reg ?_
    refine l_pure rfl (s_move  h5 ?_)
    refine l_heavy rfl (s_call Tryz.call90 rfl (trim_ok _ _ _ hsl (pad_lt (by decide) _ _)) ?_)
    rintro v w3 ⟨hv, rfl⟩
    refine l_pure rfl (s_asg  rfl ?_)
    refine l_nil ?_
    repeat (with_reducible first | refine c_seq ?_ | refine c_block ?_ | refine c_skip ?_ | refine x_then ?_ | refine x_block ?_)
    refine c_ret ?_
    repeat (with_reducible first | refine x_then_ret ?_ | refine x_block_ret ?_)
    refine r_one rfl rfl ?_
    rw [ofDigs_pad_lt hr, hr2] at hv
    exact ⟨hv, hS.below⟩
theorem Subtract_ok (a b : ByteArray) (w : World) (ha : a.size ≤ 4398046511104) (hb : b.size ≤ 4398046511104) :
    Ret Tryz.prog 66 #[.string a, .string b] w fun r w' =>
      (if val b ≤ val a then r = .tuple #[.string (natS (val a - val b)), .bool true] else r = .tuple #[.string ⟨#[]⟩, .bool false]) ∧ Below w.heap.size w w' := by
  have hla := limb_val_len a
  have hlb := limb_val_len b
  refine enter Tryz.func66 rfl Tryz.ntmps66 rfl ?_
  repeat (with_reducible first | refine c_seq ?_ | refine c_block ?_ | refine c_skip ?_ | refine x_then ?_ | refine x_block ?_)
  refine c_reg ?_
  refine l_pure rfl (s_asg  rfl ?_)
  refine l_pure rfl (s_asg  rfl ?_)
  refine l_nil ?_
  repeat (with_reducible first | refine c_seq ?_ | refine c_block ?_ | refine c_skip ?_ | refine x_then ?_ | refine x_block ?_)
  refine c_reg ?_
  refine l_pure rfl (s_move  rfl ?_)
  refine l_heavy rfl (s_call Tryz.call62 rfl (parse_ok _ _ (by omega)) ?_)
  rintro vx w1 ⟨hx, hB1⟩
  refine l_pure rfl (s_move  rfl ?_)
  refine l_heavy rfl (s_call Tryz.call62 rfl (parse_ok _ _ (by omega)) ?_)
  rintro vy w2 ⟨hy, hB2⟩
  refine l_pure rfl (s_asg  rfl ?_)
  refine l_pure rfl (s_asg  rfl ?_)
  refine l_nil ?_
  repeat (with_reducible first | refine c_seq ?_ | refine c_block ?_ | refine c_skip ?_ | refine x_then ?_ | refine x_block ?_)
  have hx := hx.below hB2
  have hB2 := bt hB1 hB2
  repeat (with_reducible first | refine c_seq ?_ | refine c_block ?_ | refine c_skip ?_ | refine x_then ?_ | refine x_block ?_)
  refine c_reg ?_
  refine l_pure rfl (s_move  rfl ?_)
  refine l_pure rfl (s_move  rfl ?_)
  refine l_heavy rfl (s_call Tryz.call93 rfl (compare_ok _ _ _ _ _ hx hy) ?_)
  rintro v w3 ⟨rfl, hB3⟩
  refine l_pure rfl (s_lss  rfl rfl ?_)
  refine l_nil ?_
  repeat (with_reducible first | refine c_seq ?_ | refine c_block ?_ | refine c_skip ?_ | refine x_then ?_ | refine x_block ?_)
  have hx := hx.below hB3
  have hy := hy.below hB3
  have hB3 := bt hB2 hB3
  by_cases h : val b ≤ val a
  · refine c_no rfl (decide_eq_false (by unfold cmpI; split <;> (try split) <;> omega)) ?_
    repeat (with_reducible first | refine c_seq ?_ | refine c_block ?_ | refine c_skip ?_ | refine x_then ?_ | refine x_block ?_)
    refine c_reg ?_
    refine l_pure rfl (s_move  rfl ?_)
    refine l_pure rfl (s_move  rfl ?_)
    refine l_heavy rfl (s_call Tryz.call94 rfl (subtract_ok _ _ _ _ _ hx hy h (by omega)) ?_)
    rintro v w4 ⟨hv, hB4⟩
    have hlv : (limb (val a - val b)).length ≤ (limb (val a)).length := digs_length_mono (by decide) (by omega)
    refine l_heavy rfl (s_call Tryz.call63 rfl (text_ok _ _ _ hv (limb_lt _) (by omega)) ?_)
    rintro r w5 ⟨rfl, hB5⟩
    refine l_pure rfl (s_asg  rfl ?_)
    refine l_pure rfl (s_asg  rfl ?_)
    refine l_nil ?_
    repeat (with_reducible first | refine c_seq ?_ | refine c_block ?_ | refine c_skip ?_ | refine x_then ?_ | refine x_block ?_)
    refine c_ret ?_
    repeat (with_reducible first | refine x_then_ret ?_ | refine x_block_ret ?_)
    refine r_two rfl rfl rfl ?_
    rw [if_pos h, ofDigs_limb]
    exact ⟨rfl, bt hB3 (bt hB4 hB5)⟩
  · refine c_yes rfl (decide_eq_true (by unfold cmpI; rw [if_pos (by omega)]; decide)) ?_
    repeat (with_reducible first | refine c_seq ?_ | refine c_block ?_ | refine c_skip ?_ | refine x_then ?_ | refine x_block ?_)
    refine c_reg ?_
    refine l_pure rfl (s_asg  rfl ?_)
    refine l_pure rfl (s_asg  rfl ?_)
    refine l_nil ?_
    repeat (with_reducible first | refine c_seq ?_ | refine c_block ?_ | refine c_skip ?_ | refine x_then ?_ | refine x_block ?_)
    refine c_ret ?_
    repeat (with_reducible first | refine x_then_ret ?_ | refine x_block_ret ?_)
    refine r_two rfl rfl rfl ?_
    rw [if_neg h]
    exact ⟨rfl, hB3⟩
end Go.Proofs.YtmghobajmhdbfaaGreatDoor
namespace Go.Proofs.YtmghobajmhdbfaaGreatDoor
open Go Go.RowKit Go.Sx
theorem dgt_split (b v k : Nat) : v = v % b ^ k + b ^ k * (dgt b v k + b * (v / b ^ (k + 1))) := by
  have h1 := div_step b v k
  have h2 := Nat.mod_add_div v (b ^ k)
  rw [h1] at h2
  rw [Nat.add_comm (dgt b v k)]
  exact h2.symm
/-- One digit is exchanged. -/
theorem pad_set {b v k d n : Nat} (hb : 2 ≤ b) (hd : d < b) (hk : k < n) : ∃ v', (pad b v n).set k d = pad b v' n ∧ v' + b ^ k * dgt b v k = v + b ^ k * d ∧ (∀ m, k < m → v < b ^ m → v' < b ^ m) := by
  have hb' : 0 < b := by omega
  have hs := dgt_split b v k
  have hlo : v % b ^ k < b ^ k := mod_lt_pow hb' v k
  have hdv := dgt_lt hb' v k
  refine ⟨v % b ^ k + b ^ k * (d + b * (v / b ^ (k + 1))), ?_, ?_, ?_⟩
  · rw [eq_pad (b := b) (v := v % b ^ k + b ^ k * (d + b * (v / b ^ (k + 1)))) (L := (pad b v n).set k d) ?_]
    · simp
    · intro j hj
      have hj' : j < n := by simpa using hj
      rw [List.getD_eq_getElem?_getD, List.getElem?_set]
      split
      · rename_i h; subst h
        rw [if_pos (by simpa using hk), Option.getD_some, dgt_add_eq hb', Nat.div_eq_of_lt hlo, Nat.zero_add, Nat.add_mul_mod_self_left, Nat.mod_eq_of_lt hd]
      · rename_i h
        rw [← List.getD_eq_getElem?_getD, pad_getD b v hj']
        rcases Nat.lt_or_ge j k with h1 | h1
        · rw [dgt_add_lt hb' _ _ h1]
          conv => lhs; rw [hs]
          rw [dgt_add_lt hb' _ _ h1]
        · have hdiv : ∀ e, e < b → (v % b ^ k + b ^ k * (e + b * (v / b ^ (k + 1)))) / b ^ j = v / b ^ (k + 1) / b ^ (j - (k + 1)) := by
            intro e he
            have : b ^ j = b ^ k * b * b ^ (j - (k + 1)) := by rw [← Nat.pow_succ, ← Nat.pow_add]; congr 1; omega
            rw [this, ← Nat.div_div_eq_div_mul, ← Nat.div_div_eq_div_mul, Nat.add_mul_div_left _ _ (Nat.pow_pos hb'), Nat.div_eq_of_lt hlo, Nat.zero_add, Nat.add_mul_div_left _ _ hb', Nat.div_eq_of_lt he, Nat.zero_add]
          unfold dgt at *
          rw [hdiv d hd]
          conv => lhs; rw [hs, hdiv _ hdv]
  · have hL : v % b ^ k + b ^ k * dgt b v k + b ^ k * (b * (v / b ^ (k + 1))) = v := by rw [Nat.add_assoc, ← Nat.mul_add]; exact hs.symm
    rw [Nat.mul_add]; omega
  · intro m hm hv
    have hm2 : b ^ m = b ^ (k + 1) * b ^ (m - (k + 1)) := by rw [← Nat.pow_add]; congr 1; omega
    have h1 : v / b ^ (k + 1) < b ^ (m - (k + 1)) := by rw [hm2] at hv; exact Nat.div_lt_of_lt_mul hv
    have h2 : v % b ^ k + b ^ k * (d + b * (v / b ^ (k + 1))) < b ^ k * b * (v / b ^ (k + 1) + 1) := by
      have : b ^ k * (d + 1) ≤ b ^ k * b := Nat.mul_le_mul_left _ hd
      rw [Nat.mul_add] at this
      rw [Nat.mul_add, Nat.mul_add, ← Nat.mul_assoc]
      omega
    have h3 : b ^ k * b * (v / b ^ (k + 1) + 1) ≤ b ^ m := by rw [hm2, Nat.pow_succ]; exact Nat.mul_le_mul_left _ h1
    omega
theorem limb_le (v j : Nat) : dgt B32 v j ≤ 4294967295 := by
  have h1 := dgt_lt (b := B32) (by decide) v j
  have h2 : B32 = 4294967296 := rfl
  omega
theorem mul_lt_two (x y q c : Nat) (hx : x ≤ 4294967295) (hy : y ≤ 4294967295) (hq : q ≤ 4294967295) (hc : c ≤ 4294967295) : x * y ≤ 18446744065119617025 ∧ x * y + q + c ≤ 18446744073709551615 := by
  have : x * y ≤ 4294967295 * 4294967295 := Nat.mul_le_mul hx hy
  omega
theorem Multiply_ok (a b : ByteArray) (w : World) (ha : a.size ≤ 4398046511104) (hb : b.size ≤ 4398046511104) :
    Ret Tryz.prog 34 #[.string a, .string b] w fun r w' => r = .string (natS (val a * val b)) ∧ Below w.heap.size w w' := by
  have hla := limb_val_len a
  have hlb := limb_val_len b
  refine enter Tryz.func34 rfl Tryz.ntmps34 rfl ?_
  repeat (with_reducible first | refine c_seq ?_ | refine c_block ?_ | refine c_skip ?_ | refine x_then ?_ | refine x_block ?_)
  refine c_reg ?_
  refine l_pure rfl (s_asg  rfl ?_)
  refine l_nil ?_
  repeat (with_reducible first | refine c_seq ?_ | refine c_block ?_ | refine c_skip ?_ | refine x_then ?_ | refine x_block ?_)
  refine c_reg ?_
  refine l_pure rfl (s_move  rfl ?_)
  refine l_heavy rfl (s_call Tryz.call62 rfl (parse_ok _ _ (by omega)) ?_)
  rintro vx w1 ⟨hx, hB1⟩
  refine l_pure rfl (s_move  rfl ?_)
  refine l_heavy rfl (s_call Tryz.call62 rfl (parse_ok _ _ (by omega)) ?_)
  rintro vy w2 ⟨hy, hB2⟩
  refine l_pure rfl (s_asg  rfl ?_)
  refine l_pure rfl (s_asg  rfl ?_)
  refine l_nil ?_
  repeat (with_reducible first | refine c_seq ?_ | refine c_block ?_ | refine c_skip ?_ | refine x_then ?_ | refine x_block ?_)
  have hx := hx.below hB2
  have hB2 := bt hB1 hB2
  clear hB1
  have hS := St.init w2
  generalize val a = X at *
  generalize val b = Y at *
  obtain ⟨m, hm⟩ : ∃ m, m = (limb X).length := ⟨_, rfl⟩
  obtain ⟨n, hn⟩ : ∃ n, n = (limb Y).length := ⟨_, rfl⟩
  have hXm : X < B32 ^ m := hm ▸ limb_lt_pow X
  have hYn : Y < B32 ^ n := hn ▸ limb_lt_pow Y
  repeat (with_reducible first | refine c_seq ?_ | refine c_block ?_ | refine c_skip ?_ | refine x_then ?_ | refine x_block ?_)
  refine c_reg ?_
  refine l_pure rfl (s_move  rfl ?_)
  refine l_pure rfl (s_lenr  rfl (hx.below hS.below) ⟨_, Tryz.underlying92⟩ ?_)
  refine l_pure rfl (s_move  rfl ?_)
  refine l_pure rfl (s_lenr  rfl (hy.below hS.below) ⟨_, Tryz.underlying92⟩ ?_)
  refine l_pure rfl (s_add  rfl rfl (IntWalk.i64_in _ (by omega)) ?_)
  refine l_heavy rfl (s_makek (n := m + n)  rfl rfl si_92 (by omega) (by omega) (by omega) (by omega) hS ?_)
  intro b1 wz2 hS hBz2
  refine l_pure rfl (s_asg  rfl ?_)
  refine l_nil ?_
  repeat (with_reducible first | refine c_seq ?_ | refine c_block ?_ | refine c_skip ?_ | refine x_then ?_ | refine x_block ?_)
  refine c_reg ?_
  refine l_pure rfl (s_move  rfl ?_)
  refine l_pure rfl (s_lenr  rfl (hx.below hS.below) ⟨_, Tryz.underlying92⟩ ?_)
  refine l_pure rfl (s_move  rfl ?_)
  refine l_nil ?_
  repeat (with_reducible first | refine c_seq ?_ | refine c_block ?_ | refine c_skip ?_ | refine x_then ?_ | refine x_block ?_)
  rw [← pad_zero B32 (m + n)] at hS
  refine c_loop (σ := Nat) (fun i ρ w' => i ≤ m ∧ ρ 6 = vy ∧ ρ 7 = .slice (some ⟨b1, 0, none⟩) (m + n) (m + n) ∧ ρ 24 = vx ∧ ρ 25 = .int .i64 m ∧ ρ 26 = .int .i64 i ∧ St w2 w' [(b1, 94, Kr .u32 (pad B32 (X % B32 ^ i * Y) (m + n)))]) (fun i => m - i) 0
    ⟨Nat.zero_le _, rfl, rfl, rfl, vi rfl (by rw [hm]), rfl, by rw [Nat.pow_zero, Nat.mod_one, Nat.zero_mul]; exact hS⟩ ?_
  clear hS
  rintro i ρ w3 ⟨hi, h6, h7, h24, h25, h26, hS⟩
  repeat (with_reducible first | refine c_seq ?_ | refine c_block ?_ | refine c_skip ?_ | refine x_then ?_ | refine x_block ?_)
  refine c_reg ?_
  refine l_pure rfl (s_lss  h26 h25 ?_)
  refine l_nil ?_
  repeat (with_reducible first | refine c_seq ?_ | refine c_block ?_ | refine c_skip ?_ | refine x_then ?_ | refine x_block ?_)
  by_cases hlt : i < m
  · refine c_yes rfl (decide_eq_true (by omega)) ?_
    repeat (with_reducible first | refine c_seq ?_ | refine c_block ?_ | refine c_skip ?_ | refine x_then ?_ | refine x_block ?_)
    have him : i < (limb X).length := by omega
    repeat (with_reducible first | refine c_seq ?_ | refine c_block ?_ | refine c_skip ?_ | refine x_then ?_ | refine x_block ?_)
    refine c_reg ?_
    refine l_pure rfl (s_move  h26 ?_)
    refine l_pure rfl (s_ixr (i := i)  h24 h26 (hx.below hS.below) (by omega) (by first | omega | (simp; done) | (simp; omega)) si_92 ?_)
    refine l_read rfl (s_lde (i := i) 0  rfl vi_94 (hx.below hS.below) (by first | omega | (simp; done) | (simp; omega)) rfl rfl (.inr rfl) ?_)
    refine l_pure rfl (s_asg  rfl ?_)
    refine l_pure rfl (s_asg  rfl ?_)
    refine l_nil ?_
    repeat (with_reducible first | refine c_seq ?_ | refine c_block ?_ | refine c_skip ?_ | refine x_then ?_ | refine x_block ?_)
    refine c_reg ?_
    refine l_pure rfl (s_asg  rfl ?_)
    refine l_nil ?_
    repeat (with_reducible first | refine c_seq ?_ | refine c_block ?_ | refine c_skip ?_ | refine x_then ?_ | refine x_block ?_)
    refine c_reg ?_
    refine l_pure rfl (s_move  h6 ?_)
    refine l_pure rfl (s_lenr  rfl (hy.below hS.below) ⟨_, Tryz.underlying92⟩ ?_)
    refine l_pure rfl (s_move  rfl ?_)
    refine l_nil ?_
    repeat (with_reducible first | refine c_seq ?_ | refine c_block ?_ | refine c_skip ?_ | refine x_then ?_ | refine x_block ?_)
    have hP0 : X % B32 ^ i * Y < B32 ^ (i + n) := by
      rw [Nat.pow_add]
      exact Nat.mul_lt_mul_of_lt_of_le (mod_lt_pow (by decide) X i) (Nat.le_of_lt hYn) (Nat.pow_pos (by decide))
    refine c_loop (σ := Nat × Nat × Nat) (fun s ρ w' => s.1 ≤ n ∧ s.2.1 < B32 ^ (i + n) ∧ s.2.2 ≤ 4294967295 ∧ s.2.1 + B32 ^ (i + s.1) * s.2.2 = X % B32 ^ i * Y + B32 ^ i * (dgt B32 X i * (Y % B32 ^ s.1)) ∧ ρ 6 = vy ∧ ρ 7 = .slice (some ⟨b1, 0, none⟩) (m + n) (m + n) ∧ ρ 8 = .int .i64 i ∧ ρ 9 = .int .u32 (dgt B32 X i : Nat) ∧ ρ 10 = .int .u64 s.2.2 ∧ ρ 24 = vx ∧ ρ 25 = .int .i64 m ∧ ρ 26 = .int .i64 i ∧ ρ 31 = vy ∧ ρ 32 = .int .i64 n ∧ ρ 33 = .int .i64 s.1 ∧ St w2 w' [(b1, 94, Kr .u32 (pad B32 s.2.1 (m + n)))]) (fun s => n - s.1) (0, X % B32 ^ i * Y, 0)
      ⟨Nat.zero_le _, hP0, Nat.zero_le _, by simp [Nat.mod_one], h6, h7, rfl, vi rfl (by rw [limb_getD]), rfl, h24, h25, h26, rfl, vi rfl (by rw [hn]), rfl, hS⟩ ?_
    clear hS h6 h7 h24 h25 h26
    rintro ⟨k, q, c⟩ ρ w4 ⟨hk, hq, hc, hinv, h6, h7, h8, h9, h10, h24, h25, h26, h31, h32, h33, hS⟩
    simp only at hk hq hc hinv h6 h7 h8 h9 h10 h24 h25 h26 h31 h32 h33 hS
    repeat (with_reducible first | refine c_seq ?_ | refine c_block ?_ | refine c_skip ?_ | refine x_then ?_ | refine x_block ?_)
    refine c_reg ?_
    refine l_pure rfl (s_lss  h33 h32 ?_)
    refine l_nil ?_
    repeat (with_reducible first | refine c_seq ?_ | refine c_block ?_ | refine c_skip ?_ | refine x_then ?_ | refine x_block ?_)
    by_cases hlt2 : k < n
    · refine c_yes rfl (decide_eq_true (by omega)) ?_
      repeat (with_reducible first | refine c_seq ?_ | refine c_block ?_ | refine c_skip ?_ | refine x_then ?_ | refine x_block ?_)
      have hkn : k < (limb Y).length := by omega
      have hikm : i + k < m + n := by omega
      repeat (with_reducible first | refine c_seq ?_ | refine c_block ?_ | refine c_skip ?_ | refine x_then ?_ | refine x_block ?_)
      refine c_reg ?_
      refine l_pure rfl (s_move  h33 ?_)
      refine l_pure rfl (s_ixr (i := k)  h31 h33 (hy.below hS.below) (by omega) (by first | omega | (simp; done) | (simp; omega)) si_92 ?_)
      refine l_read rfl (s_lde (i := k) 0  rfl vi_94 (hy.below hS.below) (by first | omega | (simp; done) | (simp; omega)) rfl rfl (.inr rfl) ?_)
      refine l_pure rfl (s_asg  rfl ?_)
      refine l_pure rfl (s_asg  rfl ?_)
      refine l_nil ?_
      repeat (with_reducible first | refine c_seq ?_ | refine c_block ?_ | refine c_skip ?_ | refine x_then ?_ | refine x_block ?_)
      rw [limb_getD]
      have hgq : (pad B32 q (m + n)).getD (i + k) 0 = dgt B32 q (i + k) := pad_getD _ _ hikm
      have x1 := limb_le X i
      have y1 := limb_le Y k
      have q1 := limb_le q (i + k)
      obtain ⟨u1, u2⟩ := mul_lt_two _ _ _ _ x1 y1 q1 hc
      repeat (with_reducible first | refine c_seq ?_ | refine c_block ?_ | refine c_skip ?_ | refine x_then ?_ | refine x_block ?_)
      refine c_reg ?_
      refine l_pure rfl (s_move  h9 ?_)
      refine l_pure rfl (s_conv  rfl Tryz.underlying95 ⟨_, Tryz.underlying94⟩ (IntWalk.u64_in _ (by omega)) ?_)
      refine l_pure rfl (s_move  rfl ?_)
      refine l_pure rfl (s_conv  rfl Tryz.underlying95 ⟨_, Tryz.underlying94⟩ (IntWalk.u64_in _ (by omega)) ?_)
      refine l_pure rfl (s_mul  rfl rfl (r := ((dgt B32 X i * dgt B32 Y k : Nat) : Int)) (by exact wr_u64 _ ⟨by push_cast; rfl, by omega, by omega⟩) ?_)
      refine l_pure rfl (s_move  h7 ?_)
      refine l_pure rfl (s_move  h8 ?_)
      refine l_pure rfl (s_move  rfl ?_)
      refine l_pure rfl (s_add  rfl rfl (IntWalk.i64_in _ (by omega)) ?_)
      refine l_pure rfl (s_ixo (i := i + k)  rfl rfl (by omega) (by first | omega | (simp; done) | (simp; omega)) si_92 ?_)
      refine l_read rfl (s_ldk (k := 0) (i := i + k)  rfl vi_94 hS rfl (by omega) (by first | omega | (simp; done) | (simp; omega)) ?_)
      refine l_pure rfl (s_conv  rfl Tryz.underlying95 ⟨_, Tryz.underlying94⟩ (r := ((dgt B32 q (i + k) : Nat) : Int)) (by rw [hgq]; exact wr_u64 _ ⟨rfl, by omega, by omega⟩) ?_)
      refine l_pure rfl (s_add  rfl rfl (r := ((dgt B32 X i * dgt B32 Y k + dgt B32 q (i + k) : Nat) : Int)) (by exact wr_u64 _ ⟨by push_cast; rfl, by omega, by omega⟩) ?_)
      refine l_pure rfl (s_move  h10 ?_)
      refine l_pure rfl (s_add  rfl rfl (r := ((dgt B32 X i * dgt B32 Y k + dgt B32 q (i + k) + c : Nat) : Int)) (by exact wr_u64 _ ⟨by push_cast; rfl, by omega, by omega⟩) ?_)
      refine l_pure rfl (s_asg  rfl ?_)
      refine l_nil ?_
      repeat (with_reducible first | refine c_seq ?_ | refine c_block ?_ | refine c_skip ?_ | refine x_then ?_ | refine x_block ?_)
      obtain ⟨t, ht⟩ : ∃ t, t = dgt B32 X i * dgt B32 Y k + dgt B32 q (i + k) + c := ⟨_, rfl⟩
      have ht2 : t ≤ 18446744073709551615 := by rw [ht]; exact u2
      rw [← ht]
      repeat (with_reducible first | refine c_seq ?_ | refine c_block ?_ | refine c_skip ?_ | refine x_then ?_ | refine x_block ?_)
      refine c_reg ?_
      refine l_pure rfl (s_move  h7 ?_)
      refine l_pure rfl (s_move  h8 ?_)
      refine l_pure rfl (s_move  rfl ?_)
      refine l_pure rfl (s_add  rfl rfl (IntWalk.i64_in _ (by omega)) ?_)
      refine l_pure rfl (s_move  rfl ?_)
      refine l_pure rfl (s_conv  rfl Tryz.underlying94 ⟨_, Tryz.underlying95⟩ (u32_mod _) ?_)
      refine l_pure rfl (s_ixo (i := i + k)  rfl rfl (by omega) (by first | omega | (simp; done) | (simp; omega)) si_92 ?_)
      refine l_heavy rfl (s_stk (k := 0) (i := i + k) (a := _)  rfl rfl rfl vi_94 hS rfl (by omega) (by first | omega | (simp; done) | (simp; omega)) ?_)
      intro wz3 hS
      refine l_nil ?_
      repeat (with_reducible first | refine c_seq ?_ | refine c_block ?_ | refine c_skip ?_ | refine x_then ?_ | refine x_block ?_)
      refine c_reg ?_
      refine l_pure rfl (s_move  rfl ?_)
      refine l_pure rfl (s_shr  rfl rfl (by omega) (r := ((t / 4294967296 : Nat) : Int)) (by exact shr_v _ 32 (by decide)) ?_)
      refine l_pure rfl (s_asg  rfl ?_)
      refine l_nil ?_
      repeat (with_reducible first | refine c_seq ?_ | refine c_block ?_ | refine c_skip ?_ | refine x_then ?_ | refine x_block ?_)
      obtain ⟨q', e1, e2, e3⟩ := pad_set (b := B32) (v := q) (k := i + k) (d := t % 4294967296) (n := m + n) (by decide) (Nat.mod_lt _ (by decide)) hikm
      rw [e1] at hS
      repeat (with_reducible first | refine c_seq ?_ | refine c_block ?_ | refine c_skip ?_ | refine x_then ?_ | refine x_block ?_)
      refine c_reg ?_
      refine l_pure rfl (s_add  h33 rfl (IntWalk.i64_in _ (by omega)) ?_)
      refine l_pure rfl (s_move  rfl ?_)
      refine l_nil ?_
      repeat (with_reducible first | refine c_seq ?_ | refine c_block ?_ | refine c_skip ?_ | refine x_then ?_ | refine x_block ?_)
      refine ⟨(k + 1, q', t / 4294967296), _, rfl, ⟨hlt2, e3 _ (by omega) hq, by simp only; omega, ?_, h6, h7, h8, h9, rfl, h24, h25, h26, h31, h32, vi rfl (by simp), hS⟩, by simp only; omega⟩
      simp only
      have f1 : B32 ^ (i + (k + 1)) * (t / 4294967296) = B32 ^ (i + k) * (B32 * (t / 4294967296)) := by rw [← Nat.add_assoc, Nat.pow_succ, Nat.mul_assoc]
      have f2 : B32 ^ (i + k) * (t % 4294967296) + B32 ^ (i + k) * (B32 * (t / 4294967296)) = B32 ^ (i + k) * t := by rw [← Nat.mul_add]; congr 1; unfold B32; omega
      have f3 : B32 ^ (i + k) * t = B32 ^ (i + k) * (dgt B32 X i * dgt B32 Y k) + B32 ^ (i + k) * dgt B32 q (i + k) + B32 ^ (i + k) * c := by rw [ht, Nat.mul_add, Nat.mul_add]
      have f4 : B32 ^ i * (dgt B32 X i * (Y % B32 ^ (k + 1))) = B32 ^ i * (dgt B32 X i * (Y % B32 ^ k)) + B32 ^ (i + k) * (dgt B32 X i * dgt B32 Y k) := by
        rw [mod_pow_succ, Nat.mul_add, Nat.mul_add, Nat.pow_add]
        congr 1
        ac_rfl
      omega
    · refine c_no rfl (decide_eq_false (by omega)) ?_
      repeat (with_reducible first | refine c_seq ?_ | refine c_block ?_ | refine c_skip ?_ | refine x_then ?_ | refine x_block ?_)
      refine c_exit ?_
      repeat (with_reducible first | refine x_then_exit ?_ | refine x_block_exit ?_ | refine x_block_pass rfl ?_)
      repeat (with_reducible first | refine c_seq ?_ | refine c_block ?_ | refine c_skip ?_ | refine x_then ?_ | refine x_block ?_)
      obtain rfl : k = n := by omega
      rw [Nat.mod_eq_of_lt hYn] at hinv
      have hikm : i + k < m + k := by omega
      repeat (with_reducible first | refine c_seq ?_ | refine c_block ?_ | refine c_skip ?_ | refine x_then ?_ | refine x_block ?_)
      refine c_reg ?_
      refine l_pure rfl (s_move  h7 ?_)
      refine l_pure rfl (s_move  h8 ?_)
      refine l_pure rfl (s_move  h6 ?_)
      refine l_pure rfl (s_lenr  rfl (hy.below hS.below) ⟨_, Tryz.underlying92⟩ ?_)
      refine l_pure rfl (s_add  rfl rfl (IntWalk.i64_in _ (by omega)) ?_)
      refine l_pure rfl (s_move  h10 ?_)
      refine l_pure rfl (s_conv  rfl Tryz.underlying94 ⟨_, Tryz.underlying95⟩ (r := ((c : Nat) : Int)) (by exact wr_u32 _ (by omega)) ?_)
      refine l_pure rfl (s_ixo (i := i + k)  rfl rfl (by omega) (by first | omega | (simp; done) | (simp; omega)) si_92 ?_)
      refine l_heavy rfl (s_stk (k := 0) (i := i + k) (a := _)  rfl rfl rfl vi_94 hS rfl (by omega) (by first | omega | (simp; done) | (simp; omega)) ?_)
      intro wz4 hS
      refine l_nil ?_
      repeat (with_reducible first | refine c_seq ?_ | refine c_block ?_ | refine c_skip ?_ | refine x_then ?_ | refine x_block ?_)
      obtain ⟨e1, e2⟩ := pad_put (b := B32) (r := q) (i := i + k) (d := c) (n := m + k) (by decide) hq (by unfold B32; omega)
      have e3 : q + B32 ^ (i + k) * c = X % B32 ^ (i + 1) * Y := by rw [hinv, mod_pow_succ, Nat.add_mul, Nat.mul_assoc]
      rw [show [(b1, 94, Kr IntKind.u32 (pad B32 q (m + k)))].set 0 (b1, 94, Kr IntKind.u32 ((pad B32 q (m + k)).set (i + k) c)) = [(b1, 94, Kr IntKind.u32 ((pad B32 q (m + k)).set (i + k) c))] from rfl, e1, e3] at hS
      repeat (with_reducible first | refine c_seq ?_ | refine c_block ?_ | refine c_skip ?_ | refine x_then ?_ | refine x_block ?_)
      refine c_reg ?_
      refine l_pure rfl (s_add  h26 rfl (IntWalk.i64_in _ (by omega)) ?_)
      refine l_pure rfl (s_move  rfl ?_)
      refine l_nil ?_
      repeat (with_reducible first | refine c_seq ?_ | refine c_block ?_ | refine c_skip ?_ | refine x_then ?_ | refine x_block ?_)
      exact ⟨i + 1, _, rfl, ⟨hlt, h6, h7, h24, h25, vi rfl (by omega), hS⟩, by omega⟩
  · refine c_no rfl (decide_eq_false (by omega)) ?_
    repeat (with_reducible first | refine c_seq ?_ | refine c_block ?_ | refine c_skip ?_ | refine x_then ?_ | refine x_block ?_)
    refine c_exit ?_
    repeat (with_reducible first | refine x_then_exit ?_ | refine x_block_exit ?_ | refine x_block_pass rfl ?_)
    repeat (with_reducible first | refine c_seq ?_ | refine c_block ?_ | refine c_skip ?_ | refine x_then ?_ | refine x_block ?_)
    obtain rfl : i = m := by omega
    rw [Nat.mod_eq_of_lt hXm] at hS
    have hXY : X * Y < B32 ^ (i + n) := by
      rw [Nat.pow_add]
      exact Nat.mul_lt_mul_of_lt_of_le hXm (Nat.le_of_lt hYn) (Nat.pow_pos (by decide))
    have hsl := hS.slk (k := 0) rfl (n := i + n) (cap := i + n) (by simp) (Nat.le_refl _) (by omega)
    rw [List.take_of_length_le (by simp)] at hsl
    repeat (with_reducible first | refine c_seq ?_ | refine c_block ?_ | refine c_skip ?_ | refine x_then ?_ | refine x_block ?_)
    refine c_reg ?_
    refine l_pure rfl (s_move  h7 ?_)
    refine l_heavy rfl (s_call Tryz.call63 rfl (text_ok _ _ _ hsl (pad_lt (by decide) _ _) (by simp; omega)) ?_)
    rintro r w4 ⟨rfl, hB4⟩
    refine l_pure rfl (s_asg  rfl ?_)
    refine l_nil ?_
    repeat (with_reducible first | refine c_seq ?_ | refine c_block ?_ | refine c_skip ?_ | refine x_then ?_ | refine x_block ?_)
    refine c_ret ?_
    repeat (with_reducible first | refine x_then_ret ?_ | refine x_block_ret ?_)
    refine r_one rfl rfl ?_
    rw [ofDigs_pad_lt hXY]
    exact ⟨rfl, bt hB2 (bt hS.below hB4)⟩
end Go.Proofs.YtmghobajmhdbfaaGreatDoor
namespace Go.Proofs.YtmghobajmhdbfaaGreatDoor
open Go Go.RowKit Go.Sx
theorem pad_set_low {b q i e n : Nat} (hb : 2 ≤ b) (he : e < b) (hi : 0 < i) (hin : i ≤ n) (hq : b ^ i * q < b ^ n) :
    (pad b (b ^ i * q) n).set (i - 1) e = pad b (b ^ (i - 1) * (b * q + e)) n ∧ b ^ (i - 1) * (b * q + e) < b ^ n := by
  obtain ⟨v', e1, e2, e3⟩ := pad_set (b := b) (v := b ^ i * q) (k := i - 1) (d := e) (n := n) hb he (by omega)
  have h1 : b ^ i = b ^ (i - 1) * b := by rw [← Nat.pow_succ]; congr 1; omega
  have h0 : dgt b (b ^ i * q) (i - 1) = 0 := by
    unfold dgt
    rw [h1, Nat.mul_assoc, Nat.mul_div_cancel_left _ (Nat.pow_pos (by omega)), Nat.mul_mod_right]
  rw [h0, Nat.mul_zero, Nat.add_zero] at e2
  have h2 : v' = b ^ (i - 1) * (b * q + e) := by rw [e2, Nat.mul_add, h1, Nat.mul_assoc]
  rw [e1, h2]
  exact ⟨rfl, h2 ▸ e3 n (by omega) hq⟩
theorem divideSmall_ok (vx : Value) (X d : Nat) (w : World) (hx : Sl (uk .u32) 1 w vx (limb X)) (hd : 0 < d) (hd2 : d ≤ 4294967295) (hmx : (limb X).length ≤ 17592186044416) :
    Ret Tryz.prog 115 #[vx, .int .u32 d] w fun r w' => (∃ v, r = .tuple #[v, .int .u32 (X % d : Nat)] ∧ Sl (uk .u32) 1 w' v (limb (X / d))) ∧ Below w.heap.size w w' := by
  have hS := St.init w
  obtain ⟨n, hn⟩ : ∃ n, n = (limb X).length := ⟨_, rfl⟩
  have hXn : X < B32 ^ n := hn ▸ limb_lt_pow X
  refine enter Tryz.func115 rfl Tryz.ntmps115 rfl ?_
  repeat (with_reducible first | refine c_seq ?_ | refine c_block ?_ | refine c_skip ?_ | refine x_then ?_ | refine x_block ?_)
  refine c_reg ?_
  refine l_pure rfl (s_asg  rfl ?_)
  refine l_pure rfl (s_asg  rfl ?_)
  refine l_nil ?_
  repeat (with_reducible first | refine c_seq ?_ | refine c_block ?_ | refine c_skip ?_ | refine x_then ?_ | refine x_block ?_)
  refine c_reg ?_
  refine l_pure rfl (s_move  rfl ?_)
  refine l_pure rfl (s_lenr  rfl (hx.below hS.below) ⟨_, Tryz.underlying92⟩ ?_)
  refine l_heavy rfl (s_makek (n := (limb X).length)  rfl rfl si_92 (by omega) (by omega) (by omega) (by omega) hS ?_)
  intro b1 wz2 hS hBz2
  refine l_pure rfl (s_asg  rfl ?_)
  refine l_nil ?_
  repeat (with_reducible first | refine c_seq ?_ | refine c_block ?_ | refine c_skip ?_ | refine x_then ?_ | refine x_block ?_)
  refine c_reg ?_
  refine l_pure rfl (s_asg  rfl ?_)
  refine l_nil ?_
  repeat (with_reducible first | refine c_seq ?_ | refine c_block ?_ | refine c_skip ?_ | refine x_then ?_ | refine x_block ?_)
  refine c_reg ?_
  refine l_pure rfl (s_move  rfl ?_)
  refine l_pure rfl (s_lenr  rfl (hx.below hS.below) ⟨_, Tryz.underlying92⟩ ?_)
  refine l_pure rfl (s_sub  rfl rfl (IntWalk.i64_in _ (by omega)) ?_)
  refine l_pure rfl (s_asg  rfl ?_)
  refine l_nil ?_
  repeat (with_reducible first | refine c_seq ?_ | refine c_block ?_ | refine c_skip ?_ | refine x_then ?_ | refine x_block ?_)
  rw [← hn, ← pad_zero B32 n] at hS
  refine c_loop (σ := Nat × Nat × Nat) (fun s ρ w' => s.1 ≤ n ∧ s.2.2 < d ∧ X / B32 ^ s.1 = s.2.1 * d + s.2.2 ∧ B32 ^ s.1 * s.2.1 < B32 ^ n ∧ ρ 0 = vx ∧ ρ 1 = .int .u32 d ∧ ρ 6 = .slice (some ⟨b1, 0, none⟩) n n ∧ ρ 7 = .int .u64 s.2.2 ∧ ρ 8 = .int .i64 ((s.1 : Int) - 1) ∧ St w w' [(b1, 94, Kr .u32 (pad B32 (B32 ^ s.1 * s.2.1) n))]) (fun s => s.1) (n, 0, 0)
    ⟨Nat.le_refl _, hd, by simp only [Nat.zero_mul]; exact Nat.div_eq_of_lt hXn, by simp only [Nat.mul_zero]; omega, rfl, rfl, by rw [hn]; rfl, rfl, vi rfl (by rw [hn]), hS⟩ ?_
  clear hS
  rintro ⟨i, q, r⟩ ρ w3 ⟨hi, hr, hinv, hq, h0, h1, h6, h7, h8, hS⟩
  simp only at hi hr hinv hq h0 h1 h6 h7 h8 hS
  repeat (with_reducible first | refine c_seq ?_ | refine c_block ?_ | refine c_skip ?_ | refine x_then ?_ | refine x_block ?_)
  refine c_reg ?_
  refine l_pure rfl (s_move  h8 ?_)
  refine l_pure rfl (s_geq  rfl rfl ?_)
  refine l_nil ?_
  repeat (with_reducible first | refine c_seq ?_ | refine c_block ?_ | refine c_skip ?_ | refine x_then ?_ | refine x_block ?_)
  by_cases hlt : 0 < i
  · refine c_yes rfl (decide_eq_true (by omega)) ?_
    repeat (with_reducible first | refine c_seq ?_ | refine c_block ?_ | refine c_skip ?_ | refine x_then ?_ | refine x_block ?_)
    have hil : i - 1 < (limb X).length := by omega
    have x1 := limb_le X (i - 1)
    have hg : (limb X).getD (i - 1) 0 = dgt B32 X (i - 1) := limb_getD X (i - 1)
    have hor : r * 2 ^ 32 ||| dgt B32 X (i - 1) = dgt B32 X (i - 1) + r * 2 ^ 32 := by rw [Nat.or_comm]; exact or_add _ _ _ (by omega)
    repeat (with_reducible first | refine c_seq ?_ | refine c_block ?_ | refine c_skip ?_ | refine x_then ?_ | refine x_block ?_)
    refine c_reg ?_
    refine l_pure rfl (s_move  h7 ?_)
    refine l_pure rfl (s_shl  rfl rfl (by omega) (r := ((r * 2 ^ 32 : Nat) : Int)) (by exact shl_v r 32 _ (by decide) (wr_u64 _ ⟨rfl, by omega, by omega⟩)) ?_)
    refine l_pure rfl (s_move  h0 ?_)
    refine l_pure rfl (s_move  h8 ?_)
    refine l_pure rfl (s_ixr (i := i - 1)  rfl rfl (hx.below hS.below) (by omega) (by first | omega | (simp; done) | (simp; omega)) si_92 ?_)
    refine l_read rfl (s_lde (i := i - 1) 0  rfl vi_94 (hx.below hS.below) (by first | omega | (simp; done) | (simp; omega)) rfl rfl (.inr rfl) ?_)
    refine l_pure rfl (s_conv  rfl Tryz.underlying95 ⟨_, Tryz.underlying94⟩ (r := ((dgt B32 X (i - 1) : Nat) : Int)) (by rw [hg]; exact wr_u64 _ ⟨rfl, by omega, by omega⟩) ?_)
    refine l_pure rfl (s_or  rfl rfl (r := ((dgt B32 X (i - 1) + r * 2 ^ 32 : Nat) : Int)) (by rw [← hor]; exact or_nat rfl _ _ (by show _ < 18446744073709551616; omega) (by show _ < 18446744073709551616; omega)) ?_)
    refine l_pure rfl (s_asg  rfl ?_)
    refine l_nil ?_
    repeat (with_reducible first | refine c_seq ?_ | refine c_block ?_ | refine c_skip ?_ | refine x_then ?_ | refine x_block ?_)
    obtain ⟨t, ht⟩ : ∃ t, t = dgt B32 X (i - 1) + r * 2 ^ 32 := ⟨_, rfl⟩
    rw [← ht]
    have ht1 : t / d ≤ 4294967295 := by
      have : t < d * 4294967296 := by
        have : (r + 1) * 4294967296 ≤ d * 4294967296 := Nat.mul_le_mul_right _ hr
        omega
      have := Nat.div_lt_of_lt_mul this
      omega
    repeat (with_reducible first | refine c_seq ?_ | refine c_block ?_ | refine c_skip ?_ | refine x_then ?_ | refine x_block ?_)
    refine c_reg ?_
    refine l_pure rfl (s_move  h6 ?_)
    refine l_pure rfl (s_move  h8 ?_)
    refine l_pure rfl (s_move  rfl ?_)
    refine l_pure rfl (s_move  h1 ?_)
    refine l_pure rfl (s_conv  rfl Tryz.underlying95 ⟨_, Tryz.underlying94⟩ (r := ((d : Nat) : Int)) (by exact wr_u64 _ ⟨rfl, by omega, by omega⟩) ?_)
    refine l_pure rfl (s_quo  rfl rfl (by omega) (IntWalk.u64_quo _ _ (by omega)) ?_)
    refine l_pure rfl (s_conv  rfl Tryz.underlying94 ⟨_, Tryz.underlying95⟩ (r := ((t / d : Nat) : Int)) (by exact wr_u32 _ ⟨by push_cast; rfl, Int.natCast_nonneg _, by generalize t / d = z at ht1 ⊢; omega⟩) ?_)
    refine l_pure rfl (s_ixo (i := i - 1)  rfl rfl (by omega) (by first | omega | (simp; done) | (simp; omega)) si_92 ?_)
    refine l_heavy rfl (s_stk (k := 0) (i := i - 1) (a := _)  rfl rfl rfl vi_94 hS rfl (by omega) (by first | omega | (simp; done) | (simp; omega)) ?_)
    intro wz3 hS
    refine l_nil ?_
    repeat (with_reducible first | refine c_seq ?_ | refine c_block ?_ | refine c_skip ?_ | refine x_then ?_ | refine x_block ?_)
    refine c_reg ?_
    refine l_pure rfl (s_move  rfl ?_)
    refine l_pure rfl (s_move  h1 ?_)
    refine l_pure rfl (s_conv  rfl Tryz.underlying95 ⟨_, Tryz.underlying94⟩ (r := ((d : Nat) : Int)) (by exact wr_u64 _ ⟨rfl, by omega, by omega⟩) ?_)
    refine l_pure rfl (s_rem  rfl rfl (by omega) (r := ((t % d : Nat) : Int)) (by rw [Int.tmod_eq_emod_of_nonneg (by omega)]; push_cast; rfl) ?_)
    refine l_pure rfl (s_asg  rfl ?_)
    refine l_nil ?_
    repeat (with_reducible first | refine c_seq ?_ | refine c_block ?_ | refine c_skip ?_ | refine x_then ?_ | refine x_block ?_)
    obtain ⟨e1, e2⟩ := pad_set_low (b := B32) (q := q) (i := i) (e := t / d) (n := n) (by decide) (by unfold B32; omega) hlt hi hq
    rw [e1] at hS
    repeat (with_reducible first | refine c_seq ?_ | refine c_block ?_ | refine c_skip ?_ | refine x_then ?_ | refine x_block ?_)
    refine c_reg ?_
    refine l_pure rfl (s_move  h8 ?_)
    refine l_pure rfl (s_sub  rfl rfl (IntWalk.i64_in _ (by omega)) ?_)
    refine l_pure rfl (s_asg  rfl ?_)
    refine l_nil ?_
    repeat (with_reducible first | refine c_seq ?_ | refine c_block ?_ | refine c_skip ?_ | refine x_then ?_ | refine x_block ?_)
    have hs := div_step B32 X (i - 1)
    rw [show i - 1 + 1 = i by omega, hinv] at hs
    refine ⟨(i - 1, B32 * q + t / d, t % d), _, rfl, ⟨by simp only; omega, Nat.mod_lt _ hd, ?_, e2, h0, h1, h6, rfl, vi rfl (by simp only; omega), hS⟩, by simp only; omega⟩
    simp only
    have h9 := Nat.div_add_mod t d
    have h10 : B32 = 2 ^ 32 := rfl
    rw [hs, Nat.add_mul, Nat.mul_add, Nat.mul_assoc, Nat.add_assoc, Nat.add_assoc, Nat.mul_comm (t / d) d, h9, ht, h10]
    omega
  · refine c_no rfl (decide_eq_false (by omega)) ?_
    repeat (with_reducible first | refine c_seq ?_ | refine c_block ?_ | refine c_skip ?_ | refine x_then ?_ | refine x_block ?_)
    refine c_exit ?_
    repeat (with_reducible first | refine x_then_exit ?_ | refine x_block_exit ?_ | refine x_block_pass rfl ?_)
    repeat (with_reducible first | refine c_seq ?_ | refine c_block ?_ | refine c_skip ?_ | refine x_then ?_ | refine x_block ?_)
    obtain rfl : i = 0 := by omega
    rw [Nat.pow_zero, Nat.div_one] at hinv
    rw [Nat.pow_zero, Nat.one_mul] at hS hq
    have hqd : X / d = q := by rw [hinv, Nat.add_comm, Nat.add_mul_div_right _ _ hd, Nat.div_eq_of_lt hr, Nat.zero_add]
    have hrd : X % d = r := by rw [hinv, Nat.mul_add_mod_self_right, Nat.mod_eq_of_lt hr]
    have hsl := hS.slk (k := 0) rfl (n := n) (cap := n) (by simp) (Nat.le_refl _) (by omega)
    rw [List.take_of_length_le (by simp)] at hsl
    repeat (with_reducible first | refine c_seq ?_ | refine c_block ?_ | refine c_skip ?_ | refine x_then ?_ | refine x_block ?_)
    refine c_reg ?_
    refine l_pure rfl (s_move  h6 ?_)
    refine l_heavy rfl (s_call Tryz.call90 rfl (trim_ok _ _ _ hsl (pad_lt (by decide) _ _)) ?_)
    rintro v w3 ⟨hv, rfl⟩
    refine l_pure rfl (s_move  h7 ?_)
    refine l_pure rfl (s_conv  rfl Tryz.underlying94 ⟨_, Tryz.underlying95⟩ (r := ((r : Nat) : Int)) (by exact wr_u32 _ ⟨rfl, by omega, by omega⟩) ?_)
    refine l_pure rfl (s_asg  rfl ?_)
    refine l_pure rfl (s_asg  rfl ?_)
    refine l_nil ?_
    repeat (with_reducible first | refine c_seq ?_ | refine c_block ?_ | refine c_skip ?_ | refine x_then ?_ | refine x_block ?_)
    refine c_ret ?_
    repeat (with_reducible first | refine x_then_ret ?_ | refine x_block_ret ?_)
    refine r_two rfl rfl rfl ?_
    rw [ofDigs_pad_lt hq] at hv
    rw [hqd, hrd]
    exact ⟨⟨v, rfl, hv⟩, hS.below⟩
theorem or_shift (a x by_ : Nat) (hb : by_ ≤ 32) (ha : a < 2 ^ by_) : a ||| (x * 2 ^ by_) % 4294967296 = a + (x * 2 ^ by_) % 4294967296 := by
  have h : (4294967296 : Nat) = 2 ^ (32 - by_) * 2 ^ by_ := by rw [← Nat.pow_add, Nat.sub_add_cancel hb]
  rw [h, Nat.mul_mod_mul_right]
  exact or_add _ _ _ ha
/-- What one limb, shifted, adds to what lies there. -/
theorem shift_fit (a x by_ : Nat) (hb : by_ ≤ 32) (ha : a < 2 ^ by_) : a + (x * 2 ^ by_) % 4294967296 < 4294967296 := by
  have h : (4294967296 : Nat) = 2 ^ (32 - by_) * 2 ^ by_ := by rw [← Nat.pow_add, Nat.sub_add_cancel hb]
  have h1 : (x * 2 ^ by_) % 4294967296 = x % 2 ^ (32 - by_) * 2 ^ by_ := by rw [h, Nat.mul_mod_mul_right]
  have h2 : x % 2 ^ (32 - by_) + 1 ≤ 2 ^ (32 - by_) := Nat.mod_lt _ (Nat.pow_pos (by decide))
  have h3 := Nat.mul_le_mul_right (2 ^ by_) h2
  rw [← h, Nat.add_mul] at h3
  omega
theorem shift_ok (vx : Value) (X c n : Nat) (w : World) (hx : Sl (uk .u32) 1 w vx (limb X)) (hc : c < 32) (hn : (limb X).length ≤ n) (hXn : X * 2 ^ c < B32 ^ n) (hmx : n ≤ 17592186044416) :
    Ret Tryz.prog 117 #[vx, .int .u64 c, .int .i64 n] w fun r w' =>
      (∃ b, r = .slice (some ⟨b, 0, none⟩) n n ∧ w.heap.size ≤ b ∧ w'.heap[b]? = some (.cells (Kr .u32 (pad B32 (X * 2 ^ c) n)).toArray 94 (0, 0))) ∧ Below w.heap.size w w' := by
  have hS := St.init w
  obtain ⟨m, hm⟩ : ∃ m, m = (limb X).length := ⟨_, rfl⟩
  have hXm : X < B32 ^ m := hm ▸ limb_lt_pow X
  have hp2 : 2 ^ c ≤ 2 ^ 31 := Nat.pow_le_pow_right (by decide) (by omega)
  have hpos : 0 < 2 ^ c := Nat.pow_pos (by decide)
  refine enter Tryz.func117 rfl Tryz.ntmps117 rfl ?_
  repeat (with_reducible first | refine c_seq ?_ | refine c_block ?_ | refine c_skip ?_ | refine x_then ?_ | refine x_block ?_)
  refine c_reg ?_
  refine l_pure rfl (s_asg  rfl ?_)
  refine l_nil ?_
  repeat (with_reducible first | refine c_seq ?_ | refine c_block ?_ | refine c_skip ?_ | refine x_then ?_ | refine x_block ?_)
  refine c_reg ?_
  refine l_pure rfl (s_move  rfl ?_)
  refine l_heavy rfl (s_makek (n := n)  rfl rfl si_92 (by omega) (by omega) (by omega) (by omega) hS ?_)
  intro b1 wz2 hS hBz2
  refine l_pure rfl (s_asg  rfl ?_)
  refine l_nil ?_
  repeat (with_reducible first | refine c_seq ?_ | refine c_block ?_ | refine c_skip ?_ | refine x_then ?_ | refine x_block ?_)
  refine c_reg ?_
  refine l_pure rfl (s_move  rfl ?_)
  refine l_pure rfl (s_lenr  rfl (hx.below hS.below) ⟨_, Tryz.underlying92⟩ ?_)
  refine l_pure rfl (s_move  rfl ?_)
  refine l_nil ?_
  repeat (with_reducible first | refine c_seq ?_ | refine c_block ?_ | refine c_skip ?_ | refine x_then ?_ | refine x_block ?_)
  rw [← pad_zero B32 n] at hS
  refine c_loop (σ := Nat) (fun i ρ w' => i ≤ m ∧ ρ 1 = .int .u64 c ∧ ρ 2 = .int .i64 n ∧ ρ 7 = .slice (some ⟨b1, 0, none⟩) n n ∧ ρ 13 = vx ∧ ρ 14 = .int .i64 m ∧ ρ 15 = .int .i64 i ∧ St w w' [(b1, 94, Kr .u32 (pad B32 (X % B32 ^ i * 2 ^ c) n))]) (fun i => m - i) 0
    ⟨Nat.zero_le _, rfl, rfl, rfl, rfl, vi rfl (by rw [hm]), rfl, by rw [Nat.pow_zero, Nat.mod_one, Nat.zero_mul]; exact hS⟩ ?_
  clear hS
  rintro i ρ w3 ⟨hi, h1, h2, h7, h13, h14, h15, hS⟩
  repeat (with_reducible first | refine c_seq ?_ | refine c_block ?_ | refine c_skip ?_ | refine x_then ?_ | refine x_block ?_)
  refine c_reg ?_
  refine l_pure rfl (s_lss  h15 h14 ?_)
  refine l_nil ?_
  repeat (with_reducible first | refine c_seq ?_ | refine c_block ?_ | refine c_skip ?_ | refine x_then ?_ | refine x_block ?_)
  by_cases hlt : i < m
  · refine c_yes rfl (decide_eq_true (by omega)) ?_
    repeat (with_reducible first | refine c_seq ?_ | refine c_block ?_ | refine c_skip ?_ | refine x_then ?_ | refine x_block ?_)
    have hil : i < (limb X).length := by omega
    have x1 := limb_le X i
    repeat (with_reducible first | refine c_seq ?_ | refine c_block ?_ | refine c_skip ?_ | refine x_then ?_ | refine x_block ?_)
    refine c_reg ?_
    refine l_pure rfl (s_move  h15 ?_)
    refine l_pure rfl (s_ixr (i := i)  h13 h15 (hx.below hS.below) (by omega) (by first | omega | (simp; done) | (simp; omega)) si_92 ?_)
    refine l_read rfl (s_lde (i := i) 0  rfl vi_94 (hx.below hS.below) (by first | omega | (simp; done) | (simp; omega)) rfl rfl (.inr rfl) ?_)
    refine l_pure rfl (s_asg  rfl ?_)
    refine l_pure rfl (s_asg  rfl ?_)
    refine l_nil ?_
    repeat (with_reducible first | refine c_seq ?_ | refine c_block ?_ | refine c_skip ?_ | refine x_then ?_ | refine x_block ?_)
    rw [limb_getD]
    obtain ⟨x, hxd⟩ : ∃ x, x = dgt B32 X i := ⟨_, rfl⟩
    rw [← hxd] at x1 ⊢
    have hx2 : x * 2 ^ c ≤ 4294967295 * 2 ^ 31 := Nat.mul_le_mul x1 hp2
    obtain ⟨V, hV⟩ : ∃ V, V = X % B32 ^ i * 2 ^ c := ⟨_, rfl⟩
    have hVs : X % B32 ^ (i + 1) * 2 ^ c = V + B32 ^ i * (x * 2 ^ c) := by rw [mod_pow_succ, Nat.add_mul, ← hV, Nat.mul_assoc, hxd]
    have hVlt : V < B32 ^ i * 2 ^ c := by rw [hV]; exact Nat.mul_lt_mul_of_pos_right (mod_lt_pow (by decide) X i) hpos
    have hBi : 0 < B32 ^ i := Nat.pow_pos (by decide)
    have hVd : V / B32 ^ i < 2 ^ c := Nat.div_lt_of_lt_mul hVlt
    have hVb : V < B32 ^ (i + 1) := by
      have : B32 ^ i * 2 ^ c ≤ B32 ^ i * B32 := Nat.mul_le_mul_left _ (by unfold B32; omega)
      rw [Nat.pow_succ]; omega
    have hdg : dgt B32 V i = V / B32 ^ i := dgt_top (by decide) hVb
    have hfit := shift_fit (V / B32 ^ i) x c (by omega) hVd
    have hget : (pad B32 V n).getD i 0 = V / B32 ^ i := by rw [pad_getD _ _ (by omega), hdg]
    rw [← hV] at hS
    have hsplit := Nat.div_add_mod (x * 2 ^ c) 4294967296
    have hlow : V + B32 ^ i * ((x * 2 ^ c) % 4294967296) < B32 ^ (i + 1) := by
      have h8 := Nat.div_add_mod V (B32 ^ i)
      have h9 := Nat.mod_lt V hBi
      have h10 : B32 ^ i * (V / B32 ^ i + (x * 2 ^ c) % 4294967296 + 1) ≤ B32 ^ i * B32 := Nat.mul_le_mul_left _ hfit
      rw [Nat.mul_add, Nat.mul_add] at h10
      rw [Nat.pow_succ]; omega
    repeat (with_reducible first | refine c_seq ?_ | refine c_block ?_ | refine c_skip ?_ | refine x_then ?_ | refine x_block ?_)
    refine c_reg ?_
    refine l_pure rfl (s_move  rfl ?_)
    refine l_pure rfl (s_conv  rfl Tryz.underlying95 ⟨_, Tryz.underlying94⟩ (r := ((x : Nat) : Int)) (by exact wr_u64 _ ⟨rfl, by omega, by omega⟩) ?_)
    refine l_pure rfl (s_move  h1 ?_)
    refine l_pure rfl (s_shl  rfl rfl (by omega) (shl_v x c ((x * 2 ^ c : Nat) : Int) (by show c ≤ 64; omega) (wr_u64 _ ⟨rfl, by omega, by omega⟩)) ?_)
    refine l_pure rfl (s_asg  rfl ?_)
    refine l_nil ?_
    repeat (with_reducible first | refine c_seq ?_ | refine c_block ?_ | refine c_skip ?_ | refine x_then ?_ | refine x_block ?_)
    refine c_reg ?_
    refine l_pure rfl (s_move  h7 ?_)
    refine l_pure rfl (s_move  rfl ?_)
    refine l_pure rfl (s_ixo (i := i)  rfl rfl (by omega) (by first | omega | (simp; done) | (simp; omega)) si_92 ?_)
    refine l_read rfl (s_ldk (k := 0) (i := i)  rfl vi_94 hS rfl (by omega) (by first | omega | (simp; done) | (simp; omega)) ?_)
    refine l_pure rfl (s_move  rfl ?_)
    refine l_pure rfl (s_conv  rfl Tryz.underlying94 ⟨_, Tryz.underlying95⟩ (u32_mod _) ?_)
    refine l_pure rfl (s_or  rfl rfl (r := ((V / B32 ^ i + (x * 2 ^ c) % 4294967296 : Nat) : Int)) (by rw [hget, ← or_shift _ _ _ (by omega) hVd]; exact or_nat rfl _ _ (by show _ < 4294967296; omega) (by show _ < 4294967296; omega)) ?_)
    refine l_pure rfl (s_ixo (i := i)  rfl rfl (by omega) (by first | omega | (simp; done) | (simp; omega)) si_92 ?_)
    refine l_heavy rfl (s_stk (k := 0) (i := i) (a := _)  rfl rfl rfl vi_94 hS rfl (by omega) (by first | omega | (simp; done) | (simp; omega)) ?_)
    intro wz3 hS
    refine l_nil ?_
    repeat (with_reducible first | refine c_seq ?_ | refine c_block ?_ | refine c_skip ?_ | refine x_then ?_ | refine x_block ?_)
    have hset := pad_add (b := B32) (v := V) (n := n) (k := i) (x := (x * 2 ^ c) % 4294967296) (by decide) hVb hlow
    rw [hdg] at hset
    rw [show [(b1, 94, Kr IntKind.u32 (pad B32 V n))].set 0 (b1, 94, Kr IntKind.u32 ((pad B32 V n).set i (V / B32 ^ i + (x * 2 ^ c) % 4294967296))) = [(b1, 94, Kr IntKind.u32 ((pad B32 V n).set i (V / B32 ^ i + (x * 2 ^ c) % 4294967296)))] from rfl, hset] at hS
    repeat (with_reducible first | refine c_seq ?_ | refine c_block ?_ | refine c_skip ?_ | refine x_then ?_ | refine x_block ?_)
    refine c_reg ?_
    refine l_pure rfl (s_move  rfl ?_)
    refine l_pure rfl (s_add  rfl rfl (IntWalk.i64_in _ (by omega)) ?_)
    refine l_pure rfl (s_move  h2 ?_)
    refine l_pure rfl (s_lss  rfl rfl ?_)
    refine l_nil ?_
    repeat (with_reducible first | refine c_seq ?_ | refine c_block ?_ | refine c_skip ?_ | refine x_then ?_ | refine x_block ?_)
    have hnext : V + B32 ^ i * ((x * 2 ^ c) % 4294967296) + B32 ^ (i + 1) * (x * 2 ^ c / 4294967296) = X % B32 ^ (i + 1) * 2 ^ c := by
      have : B32 ^ (i + 1) * (x * 2 ^ c / 4294967296) = B32 ^ i * (4294967296 * (x * 2 ^ c / 4294967296)) := by rw [Nat.pow_succ, Nat.mul_assoc]
      rw [hVs, this, Nat.add_assoc, ← Nat.mul_add]
      congr 2; omega
    have hhi : x * 2 ^ c / 4294967296 < 2147483648 := by omega
    by_cases hlt2 : i + 1 < n
    · refine c_yes rfl (decide_eq_true (by omega)) ?_
      repeat (with_reducible first | refine c_seq ?_ | refine c_block ?_ | refine c_skip ?_ | refine x_then ?_ | refine x_block ?_)
      have hget2 : (pad B32 (V + B32 ^ i * ((x * 2 ^ c) % 4294967296)) n).getD (i + 1) 0 = 0 := by rw [pad_getD _ _ hlt2, dgt_big hlow]
      repeat (with_reducible first | refine c_seq ?_ | refine c_block ?_ | refine c_skip ?_ | refine x_then ?_ | refine x_block ?_)
      refine c_reg ?_
      refine l_pure rfl (s_move  h7 ?_)
      refine l_pure rfl (s_move  rfl ?_)
      refine l_pure rfl (s_add  rfl rfl (IntWalk.i64_in _ (by omega)) ?_)
      refine l_pure rfl (s_ixo (i := i + 1)  rfl rfl (by omega) (by first | omega | (simp; done) | (simp; omega)) si_92 ?_)
      refine l_read rfl (s_ldk (k := 0) (i := i + 1)  rfl vi_94 hS rfl (by omega) (by first | omega | (simp; done) | (simp; omega)) ?_)
      refine l_pure rfl (s_move  rfl ?_)
      refine l_pure rfl (s_shr  rfl rfl (by omega) (r := ((x * 2 ^ c / 4294967296 : Nat) : Int)) (by exact shr_v _ 32 (by decide)) ?_)
      refine l_pure rfl (s_conv  rfl Tryz.underlying94 ⟨_, Tryz.underlying95⟩ (r := ((x * 2 ^ c / 4294967296 : Nat) : Int)) (by exact wr_u32 _ ⟨rfl, by omega, by omega⟩) ?_)
      refine l_pure rfl (s_or  rfl rfl (r := ((x * 2 ^ c / 4294967296 : Nat) : Int)) (by rw [hget2, or_nat rfl _ _ (by decide) (by show _ < 4294967296; omega), Nat.zero_or]) ?_)
      refine l_pure rfl (s_ixo (i := i + 1)  rfl rfl (by omega) (by first | omega | (simp; done) | (simp; omega)) si_92 ?_)
      refine l_heavy rfl (s_stk (k := 0) (i := i + 1) (a := _)  rfl rfl rfl vi_94 hS rfl (by omega) (by first | omega | (simp; done) | (simp; omega)) ?_)
      intro wz4 hS
      refine l_nil ?_
      repeat (with_reducible first | refine c_seq ?_ | refine c_block ?_ | refine c_skip ?_ | refine x_then ?_ | refine x_block ?_)
      obtain ⟨e1, e2⟩ := pad_put (b := B32) (r := V + B32 ^ i * ((x * 2 ^ c) % 4294967296)) (i := i + 1) (d := x * 2 ^ c / 4294967296) (n := n) (by decide) hlow (by unfold B32; omega)
      rw [e1, hnext] at hS
      repeat (with_reducible first | refine c_seq ?_ | refine c_block ?_ | refine c_skip ?_ | refine x_then ?_ | refine x_block ?_)
      refine c_reg ?_
      refine l_pure rfl (s_add  h15 rfl (IntWalk.i64_in _ (by omega)) ?_)
      refine l_pure rfl (s_move  rfl ?_)
      refine l_nil ?_
      repeat (with_reducible first | refine c_seq ?_ | refine c_block ?_ | refine c_skip ?_ | refine x_then ?_ | refine x_block ?_)
      exact ⟨i + 1, _, rfl, ⟨hlt, h1, h2, h7, h13, h14, vi rfl (by omega), hS⟩, by omega⟩
    · refine c_no rfl (decide_eq_false (by omega)) ?_
      repeat (with_reducible first | refine c_seq ?_ | refine c_block ?_ | refine c_skip ?_ | refine x_then ?_ | refine x_block ?_)
      have hz : x * 2 ^ c / 4294967296 = 0 := by
        rcases Nat.eq_zero_or_pos (x * 2 ^ c / 4294967296) with h | h
        · exact h
        · exfalso
          have g1 : B32 ^ (i + 1) * 1 ≤ B32 ^ (i + 1) * (x * 2 ^ c / 4294967296) := Nat.mul_le_mul_left _ h
          have g2 : X % B32 ^ (i + 1) * 2 ^ c ≤ X * 2 ^ c := Nat.mul_le_mul_right _ (Nat.mod_le _ _)
          have g3 : B32 ^ n ≤ B32 ^ (i + 1) := Nat.pow_le_pow_right (by decide) (by omega)
          omega
      rw [hz, Nat.mul_zero, Nat.add_zero] at hnext
      rw [hnext] at hS
      repeat (with_reducible first | refine c_seq ?_ | refine c_block ?_ | refine c_skip ?_ | refine x_then ?_ | refine x_block ?_)
      refine c_reg ?_
      refine l_pure rfl (s_add  h15 rfl (IntWalk.i64_in _ (by omega)) ?_)
      refine l_pure rfl (s_move  rfl ?_)
      refine l_nil ?_
      repeat (with_reducible first | refine c_seq ?_ | refine c_block ?_ | refine c_skip ?_ | refine x_then ?_ | refine x_block ?_)
      exact ⟨i + 1, _, rfl, ⟨hlt, h1, h2, h7, h13, h14, vi rfl (by omega), hS⟩, by omega⟩
  · refine c_no rfl (decide_eq_false (by omega)) ?_
    repeat (with_reducible first | refine c_seq ?_ | refine c_block ?_ | refine c_skip ?_ | refine x_then ?_ | refine x_block ?_)
    refine c_exit ?_
    repeat (with_reducible first | refine x_then_exit ?_ | refine x_block_exit ?_ | refine x_block_pass rfl ?_)
    repeat (with_reducible first | refine c_seq ?_ | refine c_block ?_ | refine c_skip ?_ | refine x_then ?_ | refine x_block ?_)
    obtain rfl : i = m := by omega
    rw [Nat.mod_eq_of_lt hXm] at hS
    repeat (with_reducible first | refine c_seq ?_ | refine c_block ?_ | refine c_skip ?_ | refine x_then ?_ | refine x_block ?_)
    refine c_reg ?_
    refine l_pure rfl (s_move  h7 ?_)
    refine l_pure rfl (s_asg  rfl ?_)
    refine l_nil ?_
    repeat (with_reducible first | refine c_seq ?_ | refine c_block ?_ | refine c_skip ?_ | refine x_then ?_ | refine x_block ?_)
    refine c_ret ?_
    repeat (with_reducible first | refine x_then_ret ?_ | refine x_block_ret ?_)
    refine r_one rfl rfl ?_
    exact ⟨⟨b1, rfl, hS.ge (k := 0) rfl, hS.get (k := 0) rfl⟩, hS.below⟩
/-- A limb of what is left behind a shift to the right. -/
theorem unshift_dgt (R c i : Nat) (hc : c ≤ 32) : (dgt B32 R i + dgt B32 R (i + 1) * 4294967296) / 2 ^ c % 4294967296 = dgt B32 (R / 2 ^ c) i := by
  have h1 : R / B32 ^ i = 4294967296 * (R / B32 ^ (i + 1)) + dgt B32 R i := div_step B32 R i
  have h2 : R / B32 ^ (i + 1) = 4294967296 * (R / B32 ^ (i + 2)) + dgt B32 R (i + 1) := div_step B32 R (i + 1)
  have h3 : (4294967296 : Nat) = 2 ^ (32 - c) * 2 ^ c := by rw [← Nat.pow_add, Nat.sub_add_cancel hc]
  have hpos : 0 < 2 ^ c := Nat.pow_pos (by decide)
  have h4 : dgt B32 (R / 2 ^ c) i = R / B32 ^ i / 2 ^ c % 4294967296 := by
    unfold dgt
    rw [Nat.div_div_eq_div_mul, Nat.div_div_eq_div_mul, Nat.mul_comm]
  have h5 : R / B32 ^ i = dgt B32 R i + dgt B32 R (i + 1) * 4294967296 + 2 ^ c * (2 ^ (32 - c) * (4294967296 * (R / B32 ^ (i + 2)))) := by
    rw [← Nat.mul_assoc (2 ^ c), Nat.mul_comm (2 ^ c), ← h3, h1, h2]
    omega
  rw [h4, h5, Nat.add_mul_div_left _ _ hpos]
  rw [show 2 ^ (32 - c) * (4294967296 * (R / B32 ^ (i + 2))) = 4294967296 * (2 ^ (32 - c) * (R / B32 ^ (i + 2))) by ac_rfl, Nat.add_mul_mod_self_left]
theorem unshift_ok (vx : Value) (R c n : Nat) (w : World) (hx : Sl (uk .u32) 1 w vx (pad B32 R n)) (hc : c < 32) (hRn : R < B32 ^ n) (hmx : n ≤ 17592186044416) :
    Ret Tryz.prog 119 #[vx, .int .u64 c] w fun r w' => Sl (uk .u32) 1 w' r (limb (R / 2 ^ c)) ∧ Below w.heap.size w w' := by
  have hS := St.init w
  have hlen : (pad B32 R n).length = n := pad_length _ _ _
  refine enter Tryz.func119 rfl Tryz.ntmps119 rfl ?_
  repeat (with_reducible first | refine c_seq ?_ | refine c_block ?_ | refine c_skip ?_ | refine x_then ?_ | refine x_block ?_)
  refine c_reg ?_
  refine l_pure rfl (s_asg  rfl ?_)
  refine l_nil ?_
  repeat (with_reducible first | refine c_seq ?_ | refine c_block ?_ | refine c_skip ?_ | refine x_then ?_ | refine x_block ?_)
  refine c_reg ?_
  refine l_pure rfl (s_move  rfl ?_)
  refine l_pure rfl (s_lenr  rfl (hx.below hS.below) ⟨_, Tryz.underlying92⟩ ?_)
  refine l_heavy rfl (s_makek (n := n)  rfl rfl si_92 (by omega) (by omega) (by omega) (by omega) hS ?_)
  intro b1 wz2 hS hBz2
  refine l_pure rfl (s_asg  rfl ?_)
  refine l_nil ?_
  repeat (with_reducible first | refine c_seq ?_ | refine c_block ?_ | refine c_skip ?_ | refine x_then ?_ | refine x_block ?_)
  refine c_reg ?_
  refine l_pure rfl (s_move  rfl ?_)
  refine l_pure rfl (s_lenr  rfl (hx.below hS.below) ⟨_, Tryz.underlying92⟩ ?_)
  refine l_pure rfl (s_move  rfl ?_)
  refine l_nil ?_
  repeat (with_reducible first | refine c_seq ?_ | refine c_block ?_ | refine c_skip ?_ | refine x_then ?_ | refine x_block ?_)
  rw [← pad_zero B32 n, show 0 = R / 2 ^ c % B32 ^ 0 by rw [Nat.pow_zero, Nat.mod_one]] at hS
  refine c_loop (σ := Nat) (fun i ρ w' => i ≤ n ∧ ρ 0 = vx ∧ ρ 1 = .int .u64 c ∧ ρ 5 = .slice (some ⟨b1, 0, none⟩) n n ∧ ρ 12 = .int .i64 n ∧ ρ 13 = .int .i64 i ∧ St w w' [(b1, 94, Kr .u32 (pad B32 (R / 2 ^ c % B32 ^ i) n))]) (fun i => n - i) 0
    ⟨Nat.zero_le _, rfl, rfl, rfl, vi rfl (by rw [hlen]), rfl, hS⟩ ?_
  clear hS
  rintro i ρ w3 ⟨hi, h0, h1, h5, h12, h13, hS⟩
  repeat (with_reducible first | refine c_seq ?_ | refine c_block ?_ | refine c_skip ?_ | refine x_then ?_ | refine x_block ?_)
  refine c_reg ?_
  refine l_pure rfl (s_lss  h13 h12 ?_)
  refine l_nil ?_
  repeat (with_reducible first | refine c_seq ?_ | refine c_block ?_ | refine c_skip ?_ | refine x_then ?_ | refine x_block ?_)
  by_cases hlt : i < n
  · refine c_yes rfl (decide_eq_true (by omega)) ?_
    repeat (with_reducible first | refine c_seq ?_ | refine c_block ?_ | refine c_skip ?_ | refine x_then ?_ | refine x_block ?_)
    have x1 := limb_le R i
    have x2 := limb_le R (i + 1)
    have hg1 : (pad B32 R n).getD i 0 = dgt B32 R i := pad_getD _ _ hlt
    repeat (with_reducible first | refine c_seq ?_ | refine c_block ?_ | refine c_skip ?_ | refine x_then ?_ | refine x_block ?_)
    refine c_reg ?_
    refine l_pure rfl (s_move  h13 ?_)
    refine l_pure rfl (s_asg  rfl ?_)
    refine l_nil ?_
    repeat (with_reducible first | refine c_seq ?_ | refine c_block ?_ | refine c_skip ?_ | refine x_then ?_ | refine x_block ?_)
    refine c_reg ?_
    refine l_pure rfl (s_move  h0 ?_)
    refine l_pure rfl (s_move  rfl ?_)
    refine l_pure rfl (s_ixr (i := i)  rfl rfl (hx.below hS.below) (by omega) (by first | omega | (simp; done) | (simp; omega)) si_92 ?_)
    refine l_read rfl (s_lde (i := i) 0  rfl vi_94 (hx.below hS.below) (by first | omega | (simp; done) | (simp; omega)) rfl rfl (.inr rfl) ?_)
    refine l_pure rfl (s_conv  rfl Tryz.underlying95 ⟨_, Tryz.underlying94⟩ (r := ((dgt B32 R i : Nat) : Int)) (by rw [hg1]; exact wr_u64 _ ⟨rfl, by omega, by omega⟩) ?_)
    refine l_pure rfl (s_asg  rfl ?_)
    refine l_nil ?_
    repeat (with_reducible first | refine c_seq ?_ | refine c_block ?_ | refine c_skip ?_ | refine x_then ?_ | refine x_block ?_)
    refine c_reg ?_
    refine l_pure rfl (s_move  rfl ?_)
    refine l_pure rfl (s_add  rfl rfl (IntWalk.i64_in _ (by omega)) ?_)
    refine l_pure rfl (s_move  h0 ?_)
    refine l_pure rfl (s_lenr  rfl (hx.below hS.below) ⟨_, Tryz.underlying92⟩ ?_)
    refine l_pure rfl (s_lss  rfl rfl ?_)
    refine l_nil ?_
    repeat (with_reducible first | refine c_seq ?_ | refine c_block ?_ | refine c_skip ?_ | refine x_then ?_ | refine x_block ?_)
    refine c_cut1 (fun ρ w' => ρ 0 = vx ∧ ρ 1 = .int .u64 c ∧ ρ 5 = .slice (some ⟨b1, 0, none⟩) n n ∧ ρ 6 = .int .i64 i ∧ ρ 7 = .int .u64 (dgt B32 R i + dgt B32 R (i + 1) * 4294967296 : Nat) ∧ ρ 12 = .int .i64 n ∧ ρ 13 = .int .i64 i ∧ w3 = w') ?_ ?_
    · by_cases hlt2 : i + 1 < n
      · refine c_yes rfl (decide_eq_true (by omega)) ?_
        repeat (with_reducible first | refine c_seq ?_ | refine c_block ?_ | refine c_skip ?_ | refine x_then ?_ | refine x_block ?_)
        have hg2 : (pad B32 R n).getD (i + 1) 0 = dgt B32 R (i + 1) := pad_getD _ _ hlt2
        repeat (with_reducible first | refine c_seq ?_ | refine c_block ?_ | refine c_skip ?_ | refine x_then ?_ | refine x_block ?_)
        refine c_reg ?_
        refine l_pure rfl (s_move  rfl ?_)
        refine l_pure rfl (s_move  h0 ?_)
        refine l_pure rfl (s_move  rfl ?_)
        refine l_pure rfl (s_add  rfl rfl (IntWalk.i64_in _ (by omega)) ?_)
        refine l_pure rfl (s_ixr (i := i + 1)  rfl rfl (hx.below hS.below) (by omega) (by first | omega | (simp; done) | (simp; omega)) si_92 ?_)
        refine l_read rfl (s_lde (i := i + 1) 0  rfl vi_94 (hx.below hS.below) (by first | omega | (simp; done) | (simp; omega)) rfl rfl (.inr rfl) ?_)
        refine l_pure rfl (s_conv  rfl Tryz.underlying95 ⟨_, Tryz.underlying94⟩ (r := ((dgt B32 R (i + 1) : Nat) : Int)) (by rw [hg2]; exact wr_u64 _ ⟨rfl, by omega, by omega⟩) ?_)
        refine l_pure rfl (s_shl  rfl rfl (by omega) (r := ((dgt B32 R (i + 1) * 2 ^ 32 : Nat) : Int)) (by exact shl_v _ 32 _ (by decide) (wr_u64 _ ⟨rfl, by omega, by omega⟩)) ?_)
        refine l_pure rfl (s_or  rfl rfl (r := ((dgt B32 R i + dgt B32 R (i + 1) * 2 ^ 32 : Nat) : Int)) (by rw [← or_add _ _ 32 (by omega)]; exact or_nat rfl _ _ (by show _ < 18446744073709551616; omega) (by show _ < 18446744073709551616; omega)) ?_)
        refine l_pure rfl (s_asg  rfl ?_)
        refine l_nil ?_
        repeat (with_reducible first | refine c_seq ?_ | refine c_block ?_ | refine c_skip ?_ | refine x_then ?_ | refine x_block ?_)
        exact ⟨_, rfl, h0, h1, h5, rfl, rfl, h12, h13, rfl⟩
      · refine c_no rfl (decide_eq_false (by omega)) ?_
        repeat (with_reducible first | refine c_seq ?_ | refine c_block ?_ | refine c_skip ?_ | refine x_then ?_ | refine x_block ?_)
        refine ⟨_, rfl, h0, h1, h5, rfl, vi rfl ?_, h12, h13, rfl⟩
        have : dgt B32 R (i + 1) = 0 := dgt_big (Nat.lt_of_lt_of_le hRn (Nat.pow_le_pow_right (by decide) (by omega)))
        rw [this]; simp
    clear h0 h1 h5 h12 h13
    rintro ρ w' ⟨h0, h1, h5, h6, h7, h12, h13, rfl⟩
    obtain ⟨t, ht⟩ : ∃ t, t = dgt B32 R i + dgt B32 R (i + 1) * 4294967296 := ⟨_, rfl⟩
    rw [← ht] at h7
    repeat (with_reducible first | refine c_seq ?_ | refine c_block ?_ | refine c_skip ?_ | refine x_then ?_ | refine x_block ?_)
    refine c_reg ?_
    refine l_pure rfl (s_move  h5 ?_)
    refine l_pure rfl (s_move  h6 ?_)
    refine l_pure rfl (s_move  h7 ?_)
    refine l_pure rfl (s_move  h1 ?_)
    refine l_pure rfl (s_shr  rfl rfl (by omega) (shr_v _ _ (show c ≤ 64 by omega)) ?_)
    refine l_pure rfl (s_conv  rfl Tryz.underlying94 ⟨_, Tryz.underlying95⟩ (u32_mod _) ?_)
    refine l_pure rfl (s_ixo (i := i)  rfl rfl (by omega) (by first | omega | (simp; done) | (simp; omega)) si_92 ?_)
    refine l_heavy rfl (s_stk (k := 0) (i := i) (a := _)  rfl rfl rfl vi_94 hS rfl (by omega) (by first | omega | (simp; done) | (simp; omega)) ?_)
    intro wz3 hS
    refine l_nil ?_
    repeat (with_reducible first | refine c_seq ?_ | refine c_block ?_ | refine c_skip ?_ | refine x_then ?_ | refine x_block ?_)
    rw [ht, unshift_dgt R c i (by omega), pad_next (by decide)] at hS
    repeat (with_reducible first | refine c_seq ?_ | refine c_block ?_ | refine c_skip ?_ | refine x_then ?_ | refine x_block ?_)
    refine c_reg ?_
    refine l_pure rfl (s_add  h13 rfl (IntWalk.i64_in _ (by omega)) ?_)
    refine l_pure rfl (s_move  rfl ?_)
    refine l_nil ?_
    repeat (with_reducible first | refine c_seq ?_ | refine c_block ?_ | refine c_skip ?_ | refine x_then ?_ | refine x_block ?_)
    exact ⟨i + 1, _, rfl, ⟨hlt, h0, h1, h5, h12, vi rfl (by omega), hS⟩, by omega⟩
  · refine c_no rfl (decide_eq_false (by omega)) ?_
    repeat (with_reducible first | refine c_seq ?_ | refine c_block ?_ | refine c_skip ?_ | refine x_then ?_ | refine x_block ?_)
    refine c_exit ?_
    repeat (with_reducible first | refine x_then_exit ?_ | refine x_block_exit ?_ | refine x_block_pass rfl ?_)
    repeat (with_reducible first | refine c_seq ?_ | refine c_block ?_ | refine c_skip ?_ | refine x_then ?_ | refine x_block ?_)
    obtain rfl : i = n := by omega
    have hlt3 : R / 2 ^ c < B32 ^ i := Nat.lt_of_le_of_lt (Nat.div_le_self _ _) hRn
    rw [Nat.mod_eq_of_lt hlt3] at hS
    have hsl := hS.slk (k := 0) rfl (n := i) (cap := i) (by simp) (Nat.le_refl _) (by omega)
    rw [List.take_of_length_le (by simp)] at hsl
    repeat (with_reducible first | refine c_seq ?_ | refine c_block ?_ | refine c_skip ?_ | refine x_then ?_ | refine x_block ?_)
    refine c_reg ?_
    refine l_pure rfl (s_move  h5 ?_)
    refine l_heavy rfl (s_call Tryz.call90 rfl (trim_ok _ _ _ hsl (pad_lt (by decide) _ _)) ?_)
    rintro v w4 ⟨hv, rfl⟩
    refine l_pure rfl (s_asg  rfl ?_)
    refine l_nil ?_
    repeat (with_reducible first | refine c_seq ?_ | refine c_block ?_ | refine c_skip ?_ | refine x_then ?_ | refine x_block ?_)
    refine c_ret ?_
    repeat (with_reducible first | refine x_then_ret ?_ | refine x_block_ret ?_)
    refine r_one rfl rfl ?_
    rw [ofDigs_pad_lt hlt3] at hv
    exact ⟨hv, hS.below⟩
end Go.Proofs.YtmghobajmhdbfaaGreatDoor
namespace Go.Proofs.YtmghobajmhdbfaaGreatDoor
open Go Go.RowKit Go.Sx
/-- What is known of the two numbers' highest digits: T and D2 are U and D without their last digits (a is what these count). -/
structure Kn (a b U D top u2 d1 d2 : Nat) : Prop where
  ha : 0 < a
  hu : U / a = top * b + u2
  hd : D / a = d1 * b + d2
  hu2 : u2 < b
  hd2 : d2 < b
  h1 : 0 < d1
  hb : b ≤ 2 * d1
  hlt : U < D * b
namespace Kn
variable {a b U D top u2 d1 d2 : Nat}
theorem q_lt (h : Kn a b U D top u2 d1 d2) : U / D < b := by
  have hlt := h.hlt
  exact Nat.div_lt_of_lt_mul hlt
theorem dpos (h : Kn a b U D top u2 d1 d2) : 0 < D := by
  rcases Nat.eq_zero_or_pos D with h0 | h0
  · have := h.hlt; rw [h0] at this; omega
  · exact h0
/-- The quotient in the highest digits. -/
theorem qT (h : Kn a b U D top u2 d1 d2) : U / D * (d1 * b + d2) ≤ top * b + u2 := by
  rw [← h.hd, ← h.hu]
  have ha := h.ha
  have h1 : U / D * (D / a) * a ≤ U := by
    calc U / D * (D / a) * a = U / D * (D / a * a) := Nat.mul_assoc _ _ _
      _ ≤ U / D * D := Nat.mul_le_mul_left _ (Nat.div_mul_le_self _ _)
      _ ≤ U := Nat.div_mul_le_self _ _
  exact (Nat.le_div_iff_mul_le ha).2 h1
theorem q_le_top (h : Kn a b U D top u2 d1 d2) : U / D ≤ top / d1 := by
  have h1 := h.qT
  rw [Nat.mul_add, ← Nat.mul_assoc] at h1
  have hu2 := h.hu2
  have hb : 0 < b := by omega
  have h2 : U / D * d1 * b < (top + 1) * b := by rw [Nat.add_mul]; omega
  have h3 : U / D * d1 < top + 1 := Nat.lt_of_mul_lt_mul_right h2
  exact (Nat.le_div_iff_mul_le h.h1).2 (by omega)
/-- A guess that the second digits refute is too great. -/
theorem refuted (h : Kn a b U D top u2 d1 d2) {g r : Nat} (hg : g * d1 + r = top) (hq : U / D ≤ g) (hc : r * b + u2 < g * d2) : U / D < g := by
  rcases Nat.lt_or_ge (U / D) g with h1 | h1
  · exact h1
  · exfalso
    have h2 : U / D = g := by omega
    have h3 := h.qT
    rw [h2, Nat.mul_add, ← Nat.mul_assoc, ← hg, Nat.add_mul] at h3
    omega
/-- A guess that they do not refute is too great by 1 at most. -/
theorem near (h : Kn a b U D top u2 d1 d2) {g r : Nat} (hg : g * d1 + r = top) (hgb : g < b) (hc : g * d2 ≤ r * b + u2) : g ≤ U / D + 1 := by
  have h1 : g * (d1 * b + d2) ≤ top * b + u2 := by
    rw [Nat.mul_add, ← Nat.mul_assoc, ← hg, Nat.add_mul]; omega
  rw [← h.hd, ← h.hu] at h1
  have ha := h.ha
  have hD := Nat.div_add_mod D a
  have hDl := Nat.mod_lt D ha
  have h2 : g * (D / a) * a ≤ U := Nat.le_trans (Nat.mul_le_mul_right _ h1) (Nat.div_mul_le_self _ _)
  have h3 : b * a ≤ D := by
    have h5 : b * a ≤ D / a * a := by
      refine Nat.mul_le_mul_right _ ?_
      rw [h.hd]
      have : 1 * b ≤ d1 * b := Nat.mul_le_mul_right _ h.h1
      omega
    exact Nat.le_trans h5 (Nat.div_mul_le_self _ _)
  have h4 : g * D ≤ U + D := by
    have e : g * D = g * (D / a) * a + g * (D % a) := by
      conv => lhs; rw [← hD]
      rw [Nat.mul_add, Nat.mul_assoc, Nat.mul_comm a]
    have f : g * (D % a) ≤ b * a := Nat.mul_le_mul (Nat.le_of_lt hgb) (Nat.le_of_lt hDl)
    omega
  have h6 : (g - 1) * D ≤ U := by rw [Nat.sub_mul, Nat.one_mul]; omega
  have := (Nat.le_div_iff_mul_le h.dpos).2 h6
  omega
/-- A guess with a great rest is not too great. -/
theorem rest (h : Kn a b U D top u2 d1 d2) {g r : Nat} (hg : g * d1 + r = top) (hgb : g ≤ b) (hr : b ≤ r) : g ≤ U / D := by
  have hb0 : 0 < b := by have := h.hd2; omega
  have ha := h.ha
  have hu : U / (a * b) = top := by rw [← Nat.div_div_eq_div_mul, h.hu, Nat.mul_comm, Nat.mul_add_div hb0, Nat.div_eq_of_lt h.hu2, Nat.add_zero]
  have hd : D / (a * b) = d1 := by rw [← Nat.div_div_eq_div_mul, h.hd, Nat.mul_comm, Nat.mul_add_div hb0, Nat.div_eq_of_lt h.hd2, Nat.add_zero]
  have hab : 0 < a * b := Nat.mul_pos ha hb0
  have h1 := Nat.div_add_mod D (a * b)
  have h2 := Nat.mod_lt D hab
  have h3 : a * b * top ≤ U := by rw [← hu]; exact Nat.mul_div_le _ _
  rw [hd] at h1
  have h4 : g * D ≤ U := by
    have e : g * D = a * b * (g * d1) + g * (D % (a * b)) := by
      conv => lhs; rw [← h1]
      rw [Nat.mul_add]; ac_rfl
    have f : g * (D % (a * b)) ≤ b * (a * b) := Nat.mul_le_mul hgb (Nat.le_of_lt h2)
    have k : a * b * (g * d1 + b) ≤ a * b * top := Nat.mul_le_mul_left _ (by omega)
    rw [Nat.mul_add, Nat.mul_comm (a * b) b] at k
    omega
  exact (Nat.le_div_iff_mul_le h.dpos).2 h4
theorem top_le (h : Kn a b U D top u2 d1 d2) : top < d1 * b + b := by
  have hb0 : 0 < b := by have := h.hd2; omega
  have ha := h.ha
  have hu : U / (a * b) = top := by rw [← Nat.div_div_eq_div_mul, h.hu, Nat.mul_comm, Nat.mul_add_div hb0, Nat.div_eq_of_lt h.hu2, Nat.add_zero]
  have hd : D / (a * b) = d1 := by rw [← Nat.div_div_eq_div_mul, h.hd, Nat.mul_comm, Nat.mul_add_div hb0, Nat.div_eq_of_lt h.hd2, Nat.add_zero]
  have hab : 0 < a * b := Nat.mul_pos ha hb0
  rw [← hu]
  refine Nat.div_lt_of_lt_mul (Nat.lt_of_lt_of_le h.hlt ?_)
  have h1 := Nat.div_add_mod D (a * b)
  have h2 := Nat.mod_lt D hab
  rw [hd] at h1
  have h3 : D ≤ a * b * (d1 + 1) := by rw [Nat.mul_add]; omega
  calc D * b ≤ a * b * (d1 + 1) * b := Nat.mul_le_mul_right _ h3
    _ = a * b * (d1 * b + b) := by rw [Nat.mul_assoc, Nat.add_mul, Nat.one_mul]
end Kn
theorem dgt_off {b : Nat} (hb : 0 < b) {lo o : Nat} (hlo : lo < b ^ o) (X j : Nat) : dgt b (lo + b ^ o * X) (o + j) = dgt b X j := by
  unfold dgt
  rw [Nat.pow_add, ← Nat.div_div_eq_div_mul, Nat.add_mul_div_left _ _ (Nat.pow_pos hb), Nat.div_eq_of_lt hlo, Nat.zero_add]
/-- A digit of what lies from place o on is exchanged. -/
theorem pad_set_off {b lo X o k d n : Nat} (hb : 2 ≤ b) (hlo : lo < b ^ o) (hd : d < b) (hk : o + k < n) :
    ∃ X', (pad b (lo + b ^ o * X) n).set (o + k) d = pad b (lo + b ^ o * X') n ∧ X' + b ^ k * dgt b X k = X + b ^ k * d ∧ (∀ m, k < m → X < b ^ m → X' < b ^ m) := by
  have hb' : 0 < b := by omega
  obtain ⟨v', e1, e2, e3⟩ := pad_set (b := b) (v := lo + b ^ o * X) (k := o + k) (d := d) (n := n) hb hd hk
  rw [dgt_off hb' hlo, Nat.pow_add, Nat.mul_assoc, Nat.mul_assoc] at e2
  have hpos : 0 < b ^ o := Nat.pow_pos hb'
  have hdv : v' / b ^ o = X + b ^ k * d - b ^ k * dgt b X k ∧ v' % b ^ o = lo ∧ b ^ k * dgt b X k ≤ X + b ^ k * d := by
    have hle : b ^ k * dgt b X k ≤ X := by
      have := dgt_split b X k
      rw [Nat.mul_add] at this
      generalize X % b ^ k = z at this
      omega
    have : v' = lo + b ^ o * (X + b ^ k * d - b ^ k * dgt b X k) := by
      rw [Nat.mul_sub, Nat.mul_add]
      have : b ^ o * (b ^ k * dgt b X k) ≤ b ^ o * X := Nat.mul_le_mul_left _ hle
      omega
    rw [this, Nat.add_mul_div_left _ _ hpos, Nat.div_eq_of_lt hlo, Nat.zero_add, Nat.add_mul_mod_self_left, Nat.mod_eq_of_lt hlo]
    exact ⟨rfl, rfl, by omega⟩
  obtain ⟨f1, f2, f3⟩ := hdv
  refine ⟨X + b ^ k * d - b ^ k * dgt b X k, ?_, by omega, fun m hm hX => ?_⟩
  · rw [e1, ← f1]
    congr 1
    have := Nat.mod_add_div v' (b ^ o)
    rw [f2] at this
    exact this.symm
  · have h1 : lo + b ^ o * X < b ^ (o + m) := by
      rw [Nat.pow_add]
      have : b ^ o * (X + 1) ≤ b ^ o * b ^ m := Nat.mul_le_mul_left _ hX
      rw [Nat.mul_add] at this; omega
    have h2 := e3 (o + m) (by omega) h1
    rw [← f1]
    rw [Nat.pow_add] at h2
    exact Nat.div_lt_of_lt_mul h2
end Go.Proofs.YtmghobajmhdbfaaGreatDoor
namespace Go.Proofs.YtmghobajmhdbfaaGreatDoor
open Go Go.RowKit Go.Sx
theorem Kn.of (n U D : Nat) (hn : 2 ≤ n) (hD : D < B32 ^ n) (hD2 : B32 ^ n ≤ 2 * D) (hU : U < D * B32) :
    Kn (B32 ^ (n - 2)) B32 U D (dgt B32 U n * B32 + dgt B32 U (n - 1)) (dgt B32 U (n - 2)) (dgt B32 D (n - 1)) (dgt B32 D (n - 2)) := by
  have hU1 : U < B32 ^ (n + 1) := by
    rw [Nat.pow_succ]
    exact Nat.lt_trans hU (Nat.mul_lt_mul_of_pos_right hD (by decide))
  have e1 := div_step B32 U (n - 2)
  have e2 := div_step B32 U (n - 1)
  rw [show n - 2 + 1 = n - 1 by omega] at e1
  rw [show n - 1 + 1 = n by omega] at e2
  have e3 : U / B32 ^ n = dgt B32 U n := (dgt_top (by decide) hU1).symm
  have f1 := div_step B32 D (n - 2)
  rw [show n - 2 + 1 = n - 1 by omega] at f1
  have f2 : D / B32 ^ (n - 1) = dgt B32 D (n - 1) := (dgt_top (by decide) (by rw [show n - 1 + 1 = n by omega]; exact hD)).symm
  have hp : 0 < B32 ^ (n - 1) := Nat.pow_pos (by decide)
  have hb : B32 ≤ 2 * dgt B32 D (n - 1) := by
    rw [← f2]
    have g1 := Nat.div_add_mod D (B32 ^ (n - 1))
    have g2 := Nat.mod_lt D hp
    have g3 : B32 ^ n = B32 ^ (n - 1) * B32 := by rw [← Nat.pow_succ]; congr 1; omega
    have g4 : B32 ^ (n - 1) * B32 < B32 ^ (n - 1) * (2 * (D / B32 ^ (n - 1)) + 2) := by
      rw [Nat.mul_add, Nat.mul_left_comm]; omega
    have g5 := Nat.lt_of_mul_lt_mul_left g4
    have hB : B32 = 4294967296 := rfl
    omega
  refine ⟨Nat.pow_pos (by decide), ?_, ?_, dgt_lt (by decide) _ _, dgt_lt (by decide) _ _, ?_, hb, hU⟩
  · rw [e1, e2, e3, Nat.mul_comm, Nat.mul_comm B32]
  · rw [f1, f2, Nat.mul_comm]
  · have hB : B32 = 4294967296 := rfl
    omega
theorem borrow_sum (x t bb : Nat) (hx : x ≤ 4294967295) (ht : t ≤ 4294967295) (hb : bb ≤ 1) :
    (x + 2 * B32 - t - bb) % B32 + t + bb = x + 4294967296 * (if x < t + bb then 1 else 0) := by
  have hB : B32 = 4294967296 := rfl
  obtain ⟨D, hD⟩ : ∃ D, D = x + 2 * B32 - t - bb := ⟨_, rfl⟩
  rw [← hD]
  have hD2 : D + t + bb = x + 8589934592 := by omega
  clear hD
  show D % 4294967296 + t + bb = _
  rcases Nat.lt_or_ge x (t + bb) with h | h
  · rw [if_pos h]; omega
  · rw [if_neg (by omega)]; omega
set_option maxHeartbeats 1000000 in
theorem step_ok (w0 w : World) (H : List Blk) (bu bd o cap n m1 lo U D : Nat)
    (hS : St w0 w ((bu, 94, Kr .u32 (pad B32 (lo + B32 ^ o * U) m1)) :: (bd, 94, Kr .u32 (pad B32 D n)) :: H))
    (hlo : lo < B32 ^ o) (hn : 2 ≤ n) (hD : D < B32 ^ n) (hD2 : B32 ^ n ≤ 2 * D) (hU : U < D * B32) (hom : o + n + 1 ≤ m1) (hm : m1 ≤ 17592186044416) :
    Ret Tryz.prog 118 #[.slice (some ⟨bu, o, none⟩) (n + 1) cap, .slice (some ⟨bd, 0, none⟩) n n] w fun r w' => r = .int .u32 (U / D : Nat) ∧
      St w0 w' ((bu, 94, Kr .u32 (pad B32 (lo + B32 ^ o * (U % D)) m1)) :: (bd, 94, Kr .u32 (pad B32 D n)) :: H) := by
  have hB : B32 = 4294967296 := rfl
  have hkn := Kn.of n U D hn hD hD2 hU
  have hq := hkn.q_lt
  have hU1 : U < B32 ^ (n + 1) := by
    rw [Nat.pow_succ]
    exact Nat.lt_trans hU (Nat.mul_lt_mul_of_pos_right hD (by decide))
  have hgU : ∀ X j, j ≤ n → (pad B32 (lo + B32 ^ o * X) m1).getD (o + j) 0 = dgt B32 X j := fun X j hj => by rw [pad_getD _ _ (by omega), dgt_off (by decide) hlo]
  have hgD : ∀ j, j < n → (pad B32 D n).getD j 0 = dgt B32 D j := fun j hj => pad_getD _ _ hj
  have hgd1 := hgD (n - 1) (by omega)
  have hgd2 := hgD (n - 2) (by omega)
  have a0 := limb_le U n
  have a1 := limb_le U (n - 1)
  have a2 := limb_le U (n - 2)
  have c1 := limb_le D (n - 1)
  have c2 := limb_le D (n - 2)
  have hd1 := hkn.h1
  obtain ⟨top, htop⟩ : ∃ top, top = dgt B32 U n * B32 + dgt B32 U (n - 1) := ⟨_, rfl⟩
  have htop2 : top = dgt B32 U (n - 1) + dgt B32 U n * 2 ^ 32 := by rw [htop, Nat.add_comm]
  have hor : dgt B32 U n * 2 ^ 32 ||| dgt B32 U (n - 1) = top := by rw [Nat.or_comm, or_add _ _ _ (by omega), htop2]
  have htl : top ≤ 18446744073709551615 := by rw [htop]; omega
  refine enter Tryz.func118 rfl Tryz.ntmps118 rfl ?_
  repeat (with_reducible first | refine c_seq ?_ | refine c_block ?_ | refine c_skip ?_ | refine x_then ?_ | refine x_block ?_)
  refine c_reg ?_
  refine l_pure rfl (s_asg  rfl ?_)
  refine l_nil ?_
  repeat (with_reducible first | refine c_seq ?_ | refine c_block ?_ | refine c_skip ?_ | refine x_then ?_ | refine x_block ?_)
  refine c_reg ?_
  refine l_pure rfl (s_move  rfl ?_)
  refine l_pure rfl (s_leno  rfl ⟨_, Tryz.underlying92⟩ ?_)
  refine l_pure rfl (s_asg  rfl ?_)
  refine l_nil ?_
  repeat (with_reducible first | refine c_seq ?_ | refine c_block ?_ | refine c_skip ?_ | refine x_then ?_ | refine x_block ?_)
  refine c_draw [(0, .pure), (1, .pure), (2, .pure), (3, .read), (4, .pure), (5, .pure), (6, .pure), (7, .pure), (8, .pure), (9, .pure), (10, .read), (11, .pure), (12, .pure), (13, .pure)] (by kernel_rfl) (by kernel_rfl) hS ?_
  intro wz1 hS hBz1
  refine w_pure rfl rfl (s_move  rfl ?_)
  refine w_pure rfl rfl (s_move  rfl ?_)
  refine w_pure rfl rfl (s_ixo (i := n)  rfl rfl (by omega) (by first | omega | (simp; done) | (simp; omega)) si_92 ?_)
  refine w_read rfl rfl (s_ldk (k := 0) (i := o + (n))  rfl vi_94 hS rfl (by omega) (by first | omega | (simp; done) | (simp; omega)) ?_)
  refine w_pure rfl rfl (s_conv  rfl Tryz.underlying95 ⟨_, Tryz.underlying94⟩ (r := ((dgt B32 U n : Nat) : Int)) (by rw [hgU U n (by omega)]; exact wr_u64 _ ⟨rfl, by omega, by omega⟩) ?_)
  refine w_pure rfl rfl (s_shl  rfl rfl (by omega) (r := ((dgt B32 U n * 2 ^ 32 : Nat) : Int)) (by exact shl_v _ 32 _ (by decide) (wr_u64 _ ⟨rfl, by omega, by omega⟩)) ?_)
  refine w_pure rfl rfl (s_move  rfl ?_)
  refine w_pure rfl rfl (s_move  rfl ?_)
  refine w_pure rfl rfl (s_sub  rfl rfl (IntWalk.i64_in _ (by omega)) ?_)
  refine w_pure rfl rfl (s_ixo (i := n - 1)  rfl rfl (by omega) (by first | omega | (simp; done) | (simp; omega)) si_92 ?_)
  refine w_read rfl rfl (s_ldk (k := 0) (i := o + (n - 1))  rfl vi_94 hS rfl (by omega) (by first | omega | (simp; done) | (simp; omega)) ?_)
  refine w_pure rfl rfl (s_conv  rfl Tryz.underlying95 ⟨_, Tryz.underlying94⟩ (r := ((dgt B32 U (n - 1) : Nat) : Int)) (by rw [hgU U (n - 1) (by omega)]; exact wr_u64 _ ⟨rfl, by omega, by omega⟩) ?_)
  refine w_pure rfl rfl (s_or  rfl rfl (r := ((top : Nat) : Int)) (by rw [← hor]; exact or_nat rfl _ _ (by show _ < 18446744073709551616; omega) (by show _ < 18446744073709551616; omega)) ?_)
  refine w_pure rfl rfl (s_asg  rfl ?_)
  refine w_end ?_
  repeat (with_reducible first | refine c_seq ?_ | refine c_block ?_ | refine c_skip ?_ | refine x_then ?_ | refine x_block ?_)
  refine c_draw [(0, .pure), (1, .pure), (2, .pure), (3, .pure), (4, .pure), (5, .read), (6, .pure), (7, .pure), (8, .pure), (9, .pure), (10, .pure), (11, .pure), (12, .pure), (13, .read), (14, .pure), (15, .pure), (16, .pure), (17, .pure)] (by kernel_rfl) (by kernel_rfl) hS ?_
  intro wz2 hS hBz2
  refine w_pure rfl rfl (s_move  rfl ?_)
  refine w_pure rfl rfl (s_move  rfl ?_)
  refine w_pure rfl rfl (s_move  rfl ?_)
  refine w_pure rfl rfl (s_sub  rfl rfl (IntWalk.i64_in _ (by omega)) ?_)
  refine w_pure rfl rfl (s_ixo (i := n - 1)  rfl rfl (by omega) (by first | omega | (simp; done) | (simp; omega)) si_92 ?_)
  refine w_read rfl rfl (s_ldk (k := 1) (i := n - 1)  rfl vi_94 hS rfl (by omega) (by first | omega | (simp; done) | (simp; omega)) ?_)
  refine w_pure rfl rfl (s_conv  rfl Tryz.underlying95 ⟨_, Tryz.underlying94⟩ (r := ((dgt B32 D (n - 1) : Nat) : Int)) (by rw [hgd1]; exact wr_u64 _ ⟨rfl, by omega, by omega⟩) ?_)
  refine w_pure rfl rfl (s_quo  rfl rfl (by omega) (r := ((top / dgt B32 D (n - 1) : Nat) : Int)) (by rw [IntWalk.u64_quo _ _ (by omega)]; push_cast; rfl) ?_)
  refine w_pure rfl rfl (s_move  rfl ?_)
  refine w_pure rfl rfl (s_move  rfl ?_)
  refine w_pure rfl rfl (s_move  rfl ?_)
  refine w_pure rfl rfl (s_sub  rfl rfl (IntWalk.i64_in _ (by omega)) ?_)
  refine w_pure rfl rfl (s_ixo (i := n - 1)  rfl rfl (by omega) (by first | omega | (simp; done) | (simp; omega)) si_92 ?_)
  refine w_read rfl rfl (s_ldk (k := 1) (i := n - 1)  rfl vi_94 hS rfl (by omega) (by first | omega | (simp; done) | (simp; omega)) ?_)
  refine w_pure rfl rfl (s_conv  rfl Tryz.underlying95 ⟨_, Tryz.underlying94⟩ (r := ((dgt B32 D (n - 1) : Nat) : Int)) (by rw [hgd1]; exact wr_u64 _ ⟨rfl, by omega, by omega⟩) ?_)
  refine w_pure rfl rfl (s_rem  rfl rfl (by omega) (r := ((top % dgt B32 D (n - 1) : Nat) : Int)) (by rw [Int.tmod_eq_emod_of_nonneg (by omega)]; push_cast; rfl) ?_)
  refine w_pure rfl rfl (s_asg  rfl ?_)
  refine w_pure rfl rfl (s_asg  rfl ?_)
  refine w_end ?_
  repeat (with_reducible first | refine c_seq ?_ | refine c_skip ?_ | refine x_then ?_ | refine x_block ?_)
  refine c_cut1 (fun ρ w' => ∃ g, g < B32 ∧ U / D ≤ g ∧ g ≤ U / D + 1 ∧ ρ 0 = .slice (some ⟨bu, o, none⟩) (n + 1) cap ∧ ρ 1 = .slice (some ⟨bd, 0, none⟩) n n ∧ ρ 5 = .int .i64 n ∧ ρ 7 = .int .u64 g ∧
      St w0 w' ((bu, 94, Kr .u32 (pad B32 (lo + B32 ^ o * U) m1)) :: (bd, 94, Kr .u32 (pad B32 D n)) :: H)) ?_ ?_
  · repeat (with_reducible first | refine c_seq ?_ | refine c_block ?_ | refine c_skip ?_ | refine x_then ?_ | refine x_block ?_)
    refine c_loop (σ := Nat × Nat) (fun s ρ w' => s.1 * dgt B32 D (n - 1) + s.2 = top ∧ U / D ≤ s.1 ∧ s.2 < B32 ∧ ρ 0 = .slice (some ⟨bu, o, none⟩) (n + 1) cap ∧ ρ 1 = .slice (some ⟨bd, 0, none⟩) n n ∧ ρ 5 = .int .i64 n ∧ ρ 7 = .int .u64 s.1 ∧ ρ 8 = .int .u64 s.2 ∧
        St w0 w' ((bu, 94, Kr .u32 (pad B32 (lo + B32 ^ o * U) m1)) :: (bd, 94, Kr .u32 (pad B32 D n)) :: H)) (fun s => s.1) (top / dgt B32 D (n - 1), top % dgt B32 D (n - 1))
      ⟨by simp only; rw [Nat.mul_comm]; exact Nat.div_add_mod _ _, by simp only; rw [htop]; exact hkn.q_le_top, by simp only; have := Nat.mod_lt top hd1; omega, rfl, rfl, rfl, rfl, rfl, hS⟩ ?_
    clear hS
    rintro ⟨g, r⟩ ρ w3 ⟨hinv, hgq, hr, h0, h1, h5, h7, h8, hS⟩
    simp only at hinv hgq hr h0 h1 h5 h7 h8 hS
    have hgt : g ≤ top := by
      have : g * 1 ≤ g * dgt B32 D (n - 1) := Nat.mul_le_mul_left _ hd1
      omega
    repeat (with_reducible first | refine c_seq ?_ | refine c_block ?_ | refine c_skip ?_ | refine x_then ?_ | refine x_block ?_)
    by_cases hgB : B32 ≤ g
    · repeat (with_reducible first | refine c_seq ?_ | refine c_block ?_ | refine c_skip ?_ | refine x_then ?_ | refine x_block ?_)
      refine c_draw [(0, .pure), (1, .pure), (2, .pure), (3, .pure), (4, .pure), (5, .pure), (6, .pure), (7, .pure), (8, .read), (9, .pure), (10, .pure), (11, .pure), (12, .pure), (13, .pure), (14, .pure), (15, .pure), (16, .pure), (17, .read), (18, .pure), (19, .pure), (20, .pure), (21, .pure)] (by kernel_rfl) (by kernel_rfl) hS ?_
      intro wz3 hS hBz3
      refine w_pure rfl rfl (s_move  h7 ?_)
      refine w_pure rfl rfl (s_geq  rfl rfl ?_)
      refine w_pure rfl rfl (s_move  rfl ?_)
      refine w_no rfl (gno_yes 50 (by kernel_rfl) rfl (decide_eq_true (by omega))) ?_
      refine w_no rfl (gno_yes 50 (by kernel_rfl) rfl (decide_eq_true (by omega))) ?_
      refine w_no rfl (gno_yes 50 (by kernel_rfl) rfl (decide_eq_true (by omega))) ?_
      refine w_no rfl (gno_yes 50 (by kernel_rfl) rfl (decide_eq_true (by omega))) ?_
      refine w_no rfl (gno_yes 50 (by kernel_rfl) rfl (decide_eq_true (by omega))) ?_
      refine w_no rfl (gno_yes 50 (by kernel_rfl) rfl (decide_eq_true (by omega))) ?_
      refine w_no rfl (gno_yes 50 (by kernel_rfl) rfl (decide_eq_true (by omega))) ?_
      refine w_no rfl (gno_yes 50 (by kernel_rfl) rfl (decide_eq_true (by omega))) ?_
      refine w_no rfl (gno_yes 50 (by kernel_rfl) rfl (decide_eq_true (by omega))) ?_
      refine w_no rfl (gno_yes 50 (by kernel_rfl) rfl (decide_eq_true (by omega))) ?_
      refine w_no rfl (gno_yes 50 (by kernel_rfl) rfl (decide_eq_true (by omega))) ?_
      refine w_no rfl (gno_yes 50 (by kernel_rfl) rfl (decide_eq_true (by omega))) ?_
      refine w_no rfl (gno_yes 50 (by kernel_rfl) rfl (decide_eq_true (by omega))) ?_
      refine w_no rfl (gno_yes 50 (by kernel_rfl) rfl (decide_eq_true (by omega))) ?_
      refine w_no rfl (gno_yes 50 (by kernel_rfl) rfl (decide_eq_true (by omega))) ?_
      refine w_no rfl (gno_yes 50 (by kernel_rfl) rfl (decide_eq_true (by omega))) ?_
      refine w_no rfl (gno_yes 50 (by kernel_rfl) rfl (decide_eq_true (by omega))) ?_
      refine w_no rfl (gno_yes 50 (by kernel_rfl) rfl (decide_eq_true (by omega))) ?_
      refine w_pure rfl rfl (s_pick (vb rfl (decide_eq_true (by omega))) rfl ?_)
      refine w_end ?_
      repeat (with_reducible first | refine c_seq ?_ | refine c_block ?_ | refine c_skip ?_ | refine x_then ?_ | refine x_block ?_)
      refine c_yes rfl (rfl) ?_
      repeat (with_reducible first | refine c_seq ?_ | refine c_block ?_ | refine c_skip ?_ | refine x_then ?_ | refine x_block ?_)
      have hgq2 : U / D < g := by omega
      have hg0 : 0 < g := Nat.lt_of_le_of_lt (Nat.zero_le _) hgq2
      have hg1 : U / D ≤ g - 1 := Nat.le_sub_one_of_lt hgq2
      repeat (with_reducible first | refine c_seq ?_ | refine c_block ?_ | refine c_skip ?_ | refine x_then ?_ | refine x_block ?_)
      refine c_reg ?_
      refine l_pure rfl (s_move  h7 ?_)
      refine l_pure rfl (s_sub  rfl rfl (IntWalk.u64_in _ (by omega)) ?_)
      refine l_pure rfl (s_asg  rfl ?_)
      refine l_nil ?_
      repeat (with_reducible first | refine c_seq ?_ | refine c_block ?_ | refine c_skip ?_ | refine x_then ?_ | refine x_block ?_)
      have hgd : (g - 1) * dgt B32 D (n - 1) + (r + dgt B32 D (n - 1)) = top := by
        obtain ⟨g', rfl⟩ : ∃ g', g = g' + 1 := ⟨g - 1, by omega⟩
        rw [Nat.add_mul, Nat.one_mul] at hinv
        rw [Nat.add_sub_cancel]; omega
      repeat (with_reducible first | refine c_seq ?_ | refine c_block ?_ | refine c_skip ?_ | refine x_then ?_ | refine x_block ?_)
      refine c_reg ?_
      refine l_pure rfl (s_move  h8 ?_)
      refine l_pure rfl (s_move  h1 ?_)
      refine l_pure rfl (s_move  h5 ?_)
      refine l_pure rfl (s_sub  rfl rfl (IntWalk.i64_in _ (by omega)) ?_)
      refine l_pure rfl (s_ixo (i := n - 1)  rfl rfl (by omega) (by first | omega | (simp; done) | (simp; omega)) si_92 ?_)
      refine l_read rfl (s_ldk (k := 1) (i := n - 1)  rfl vi_94 hS rfl (by omega) (by first | omega | (simp; done) | (simp; omega)) ?_)
      refine l_pure rfl (s_conv  rfl Tryz.underlying95 ⟨_, Tryz.underlying94⟩ (r := ((dgt B32 D (n - 1) : Nat) : Int)) (by rw [hgd1]; exact wr_u64 _ ⟨rfl, by omega, by omega⟩) ?_)
      refine l_pure rfl (s_add  rfl rfl (r := ((r + dgt B32 D (n - 1) : Nat) : Int)) (by exact wr_u64 _ ⟨by push_cast; rfl, by omega, by omega⟩) ?_)
      refine l_pure rfl (s_asg  rfl ?_)
      refine l_nil ?_
      repeat (with_reducible first | refine c_seq ?_ | refine c_block ?_ | refine c_skip ?_ | refine x_then ?_ | refine x_block ?_)
      refine c_reg ?_
      refine l_pure rfl (s_move  rfl ?_)
      refine l_pure rfl (s_geq  rfl rfl ?_)
      refine l_nil ?_
      repeat (with_reducible first | refine c_seq ?_ | refine c_block ?_ | refine c_skip ?_ | refine x_then ?_ | refine x_block ?_)
      by_cases hbrk : B32 ≤ r + dgt B32 D (n - 1)
      · refine c_yes rfl (decide_eq_true (by omega)) ?_
        refine c_exit ?_
        repeat (with_reducible first | refine x_then_exit ?_ | refine x_block_exit ?_ | refine x_block_pass rfl ?_)
        repeat (with_reducible first | refine c_seq ?_ | refine c_block ?_ | refine c_skip ?_ | refine x_then ?_ | refine x_block ?_)
        have hgB : g - 1 < B32 := by
          rcases Nat.lt_or_ge (g - 1) B32 with h | h
          · exact h
          · exfalso
            have h1 : B32 * dgt B32 D (n - 1) ≤ (g - 1) * dgt B32 D (n - 1) := Nat.mul_le_mul_right _ h
            have h2 := hkn.top_le
            rw [← htop, Nat.mul_comm] at h2
            omega
        have hgq := hkn.rest (by rw [← htop]; exact hgd) (by omega) hbrk
        exact ⟨_, rfl, g - 1, hgB, hg1, by omega, h0, h1, h5, vi rfl (by omega), hS⟩
      · refine c_no rfl (decide_eq_false (by omega)) ?_
        repeat (with_reducible first | refine c_seq ?_ | refine c_block ?_ | refine c_skip ?_ | refine x_then ?_ | refine x_block ?_)
        refine ⟨(g - 1, r + dgt B32 D (n - 1)), _, rfl, ⟨hgd, hg1, by simp only; omega, h0, h1, h5, vi rfl (by simp only; omega), rfl, hS⟩, by simp only; omega⟩
    · have hgd2' : g * dgt B32 D (n - 2) ≤ 4294967295 * 4294967295 := Nat.mul_le_mul (by omega) c2
      have hor2 : r * 2 ^ 32 ||| dgt B32 U (n - 2) = r * 4294967296 + dgt B32 U (n - 2) := by rw [Nat.or_comm, or_add _ _ _ (by omega), Nat.add_comm]
      repeat (with_reducible first | refine c_seq ?_ | refine c_block ?_ | refine c_skip ?_ | refine x_then ?_ | refine x_block ?_)
      refine c_draw [(0, .pure), (1, .pure), (2, .pure), (3, .pure), (4, .pure), (5, .pure), (6, .pure), (7, .pure), (8, .read), (9, .pure), (10, .pure), (11, .pure), (12, .pure), (13, .pure), (14, .pure), (15, .pure), (16, .pure), (17, .read), (18, .pure), (19, .pure), (20, .pure), (21, .pure)] (by kernel_rfl) (by kernel_rfl) hS ?_
      intro wz4 hS hBz4
      refine w_pure rfl rfl (s_move  h7 ?_)
      refine w_pure rfl rfl (s_geq  rfl rfl ?_)
      refine w_pure rfl rfl (s_move  rfl ?_)
      refine w_pure rfl (gd_yes 50 (by kernel_rfl) rfl (decide_eq_false (by omega))) (s_move  h7 ?_)
      refine w_pure rfl (gd_yes 50 (by kernel_rfl) rfl (decide_eq_false (by omega))) (s_move  h1 ?_)
      refine w_pure rfl (gd_yes 50 (by kernel_rfl) rfl (decide_eq_false (by omega))) (s_move  h5 ?_)
      refine w_pure rfl (gd_yes 50 (by kernel_rfl) rfl (decide_eq_false (by omega))) (s_sub  rfl rfl (IntWalk.i64_in _ (by omega)) ?_)
      refine w_pure rfl (gd_yes 50 (by kernel_rfl) rfl (decide_eq_false (by omega))) (s_ixo (i := n - 2)  rfl rfl (by omega) (by first | omega | (simp; done) | (simp; omega)) si_92 ?_)
      refine w_read rfl (gd_yes 50 (by kernel_rfl) rfl (decide_eq_false (by omega))) (s_ldk (k := 1) (i := n - 2)  rfl vi_94 hS rfl (by omega) (by first | omega | (simp; done) | (simp; omega)) ?_)
      refine w_pure rfl (gd_yes 50 (by kernel_rfl) rfl (decide_eq_false (by omega))) (s_conv  rfl Tryz.underlying95 ⟨_, Tryz.underlying94⟩ (r := ((dgt B32 D (n - 2) : Nat) : Int)) (by rw [hgd2]; exact wr_u64 _ ⟨rfl, by omega, by omega⟩) ?_)
      refine w_pure rfl (gd_yes 50 (by kernel_rfl) rfl (decide_eq_false (by omega))) (s_mul  rfl rfl (r := ((g * dgt B32 D (n - 2) : Nat) : Int)) (by exact wr_u64 _ ⟨by push_cast; rfl, by omega, by omega⟩) ?_)
      refine w_pure rfl (gd_yes 50 (by kernel_rfl) rfl (decide_eq_false (by omega))) (s_move  h8 ?_)
      refine w_pure rfl (gd_yes 50 (by kernel_rfl) rfl (decide_eq_false (by omega))) (s_shl  rfl rfl (by omega) (r := ((r * 2 ^ 32 : Nat) : Int)) (by exact shl_v _ 32 _ (by decide) (wr_u64 _ ⟨rfl, by omega, by omega⟩)) ?_)
      refine w_pure rfl (gd_yes 50 (by kernel_rfl) rfl (decide_eq_false (by omega))) (s_move  h0 ?_)
      refine w_pure rfl (gd_yes 50 (by kernel_rfl) rfl (decide_eq_false (by omega))) (s_move  h5 ?_)
      refine w_pure rfl (gd_yes 50 (by kernel_rfl) rfl (decide_eq_false (by omega))) (s_sub  rfl rfl (IntWalk.i64_in _ (by omega)) ?_)
      refine w_pure rfl (gd_yes 50 (by kernel_rfl) rfl (decide_eq_false (by omega))) (s_ixo (i := n - 2)  rfl rfl (by omega) (by first | omega | (simp; done) | (simp; omega)) si_92 ?_)
      refine w_read rfl (gd_yes 50 (by kernel_rfl) rfl (decide_eq_false (by omega))) (s_ldk (k := 0) (i := o + (n - 2))  rfl vi_94 hS rfl (by omega) (by first | omega | (simp; done) | (simp; omega)) ?_)
      refine w_pure rfl (gd_yes 50 (by kernel_rfl) rfl (decide_eq_false (by omega))) (s_conv  rfl Tryz.underlying95 ⟨_, Tryz.underlying94⟩ (r := ((dgt B32 U (n - 2) : Nat) : Int)) (by rw [hgU U (n - 2) (by omega)]; exact wr_u64 _ ⟨rfl, by omega, by omega⟩) ?_)
      refine w_pure rfl (gd_yes 50 (by kernel_rfl) rfl (decide_eq_false (by omega))) (s_or  rfl rfl (r := ((r * 4294967296 + dgt B32 U (n - 2) : Nat) : Int)) (by rw [← hor2]; exact or_nat rfl _ _ (by show _ < 18446744073709551616; omega) (by show _ < 18446744073709551616; omega)) ?_)
      refine w_pure rfl (gd_yes 50 (by kernel_rfl) rfl (decide_eq_false (by omega))) (s_gtr  rfl rfl ?_)
      refine w_pure rfl rfl (s_pick (vb rfl (decide_eq_false (by omega))) rfl ?_)
      refine w_end ?_
      repeat (with_reducible first | refine c_seq ?_ | refine c_block ?_ | refine c_skip ?_ | refine x_then ?_ | refine x_block ?_)
      by_cases href : r * 4294967296 + dgt B32 U (n - 2) < g * dgt B32 D (n - 2)
      · refine c_yes rfl (decide_eq_true (by exact_mod_cast href)) ?_
        repeat (with_reducible first | refine c_seq ?_ | refine c_block ?_ | refine c_skip ?_ | refine x_then ?_ | refine x_block ?_)
        have hgq2 : U / D < g := hkn.refuted (by rw [← htop]; exact hinv) hgq href
        have hg0 : 0 < g := Nat.lt_of_le_of_lt (Nat.zero_le _) hgq2
        have hg1 : U / D ≤ g - 1 := Nat.le_sub_one_of_lt hgq2
        repeat (with_reducible first | refine c_seq ?_ | refine c_block ?_ | refine c_skip ?_ | refine x_then ?_ | refine x_block ?_)
        refine c_reg ?_
        refine l_pure rfl (s_move  h7 ?_)
        refine l_pure rfl (s_sub  rfl rfl (IntWalk.u64_in _ (by omega)) ?_)
        refine l_pure rfl (s_asg  rfl ?_)
        refine l_nil ?_
        repeat (with_reducible first | refine c_seq ?_ | refine c_block ?_ | refine c_skip ?_ | refine x_then ?_ | refine x_block ?_)
        have hgd : (g - 1) * dgt B32 D (n - 1) + (r + dgt B32 D (n - 1)) = top := by
          obtain ⟨g', rfl⟩ : ∃ g', g = g' + 1 := ⟨g - 1, by omega⟩
          rw [Nat.add_mul, Nat.one_mul] at hinv
          rw [Nat.add_sub_cancel]; omega
        repeat (with_reducible first | refine c_seq ?_ | refine c_block ?_ | refine c_skip ?_ | refine x_then ?_ | refine x_block ?_)
        refine c_reg ?_
        refine l_pure rfl (s_move  h8 ?_)
        refine l_pure rfl (s_move  h1 ?_)
        refine l_pure rfl (s_move  h5 ?_)
        refine l_pure rfl (s_sub  rfl rfl (IntWalk.i64_in _ (by omega)) ?_)
        refine l_pure rfl (s_ixo (i := n - 1)  rfl rfl (by omega) (by first | omega | (simp; done) | (simp; omega)) si_92 ?_)
        refine l_read rfl (s_ldk (k := 1) (i := n - 1)  rfl vi_94 hS rfl (by omega) (by first | omega | (simp; done) | (simp; omega)) ?_)
        refine l_pure rfl (s_conv  rfl Tryz.underlying95 ⟨_, Tryz.underlying94⟩ (r := ((dgt B32 D (n - 1) : Nat) : Int)) (by rw [hgd1]; exact wr_u64 _ ⟨rfl, by omega, by omega⟩) ?_)
        refine l_pure rfl (s_add  rfl rfl (r := ((r + dgt B32 D (n - 1) : Nat) : Int)) (by exact wr_u64 _ ⟨by push_cast; rfl, by omega, by omega⟩) ?_)
        refine l_pure rfl (s_asg  rfl ?_)
        refine l_nil ?_
        repeat (with_reducible first | refine c_seq ?_ | refine c_block ?_ | refine c_skip ?_ | refine x_then ?_ | refine x_block ?_)
        refine c_reg ?_
        refine l_pure rfl (s_move  rfl ?_)
        refine l_pure rfl (s_geq  rfl rfl ?_)
        refine l_nil ?_
        repeat (with_reducible first | refine c_seq ?_ | refine c_block ?_ | refine c_skip ?_ | refine x_then ?_ | refine x_block ?_)
        by_cases hbrk : B32 ≤ r + dgt B32 D (n - 1)
        · refine c_yes rfl (decide_eq_true (by omega)) ?_
          refine c_exit ?_
          repeat (with_reducible first | refine x_then_exit ?_ | refine x_block_exit ?_ | refine x_block_pass rfl ?_)
          repeat (with_reducible first | refine c_seq ?_ | refine c_block ?_ | refine c_skip ?_ | refine x_then ?_ | refine x_block ?_)
          have hgB : g - 1 < B32 := by
            rcases Nat.lt_or_ge (g - 1) B32 with h | h
            · exact h
            · exfalso
              have h1 : B32 * dgt B32 D (n - 1) ≤ (g - 1) * dgt B32 D (n - 1) := Nat.mul_le_mul_right _ h
              have h2 := hkn.top_le
              rw [← htop, Nat.mul_comm] at h2
              omega
          have hgq := hkn.rest (by rw [← htop]; exact hgd) (by omega) hbrk
          exact ⟨_, rfl, g - 1, hgB, hg1, by omega, h0, h1, h5, vi rfl (by omega), hS⟩
        · refine c_no rfl (decide_eq_false (by omega)) ?_
          repeat (with_reducible first | refine c_seq ?_ | refine c_block ?_ | refine c_skip ?_ | refine x_then ?_ | refine x_block ?_)
          refine ⟨(g - 1, r + dgt B32 D (n - 1)), _, rfl, ⟨hgd, hg1, by simp only; omega, h0, h1, h5, vi rfl (by simp only; omega), rfl, hS⟩, by simp only; omega⟩
      · refine c_no rfl (decide_eq_false (by exact_mod_cast href)) ?_
        repeat (with_reducible first | refine c_seq ?_ | refine c_block ?_ | refine c_skip ?_ | refine x_then ?_ | refine x_block ?_)
        refine c_exit ?_
        repeat (with_reducible first | refine x_then_exit ?_ | refine x_block_exit ?_ | refine x_block_pass rfl ?_)
        repeat (with_reducible first | refine c_seq ?_ | refine c_block ?_ | refine c_skip ?_ | refine x_then ?_ | refine x_block ?_)
        have hnear := hkn.near (by rw [← htop]; exact hinv) (by omega) (Nat.le_of_not_lt href)
        exact ⟨_, rfl, g, by omega, hgq, hnear, h0, h1, h5, h7, hS⟩
  clear hS a0 a1 a2 c1 c2 hor htl htop2
  rintro ρ w2 ⟨g, hgB, hq1, hq2, h0, h1, h5, h7, hS⟩
  clear htop
  repeat (with_reducible first | refine c_seq ?_ | refine c_block ?_ | refine c_skip ?_ | refine x_then ?_ | refine x_block ?_)
  refine c_reg ?_
  refine l_pure rfl (s_asg  rfl ?_)
  refine l_pure rfl (s_asg  rfl ?_)
  refine l_nil ?_
  repeat (with_reducible first | refine c_seq ?_ | refine c_block ?_ | refine c_skip ?_ | refine x_then ?_ | refine x_block ?_)
  refine c_reg ?_
  refine l_pure rfl (s_move  h1 ?_)
  refine l_pure rfl (s_leno  rfl ⟨_, Tryz.underlying92⟩ ?_)
  refine l_pure rfl (s_move  rfl ?_)
  refine l_nil ?_
  repeat (with_reducible first | refine c_seq ?_ | refine c_skip ?_ | refine x_then ?_ | refine x_block ?_)
  refine c_cut1 (fun ρ w' => ∃ c bb X, c ≤ 4294967295 ∧ bb ≤ 1 ∧ X < B32 ^ (n + 1) ∧ X + g * D = U + B32 ^ n * (c + bb) ∧ ρ 0 = .slice (some ⟨bu, o, none⟩) (n + 1) cap ∧ ρ 1 = .slice (some ⟨bd, 0, none⟩) n n ∧ ρ 5 = .int .i64 n ∧ ρ 7 = .int .u64 g ∧ ρ 9 = .int .u64 (c : Nat) ∧ ρ 10 = .int .u32 (bb : Nat) ∧
      St w0 w' ((bu, 94, Kr .u32 (pad B32 (lo + B32 ^ o * X) m1)) :: (bd, 94, Kr .u32 (pad B32 D n)) :: H)) ?_ ?_
  · repeat (with_reducible first | refine c_seq ?_ | refine c_block ?_ | refine c_skip ?_ | refine x_then ?_ | refine x_block ?_)
    refine c_loop (σ := Nat × Nat × Nat × Nat) (fun s ρ w' => s.1 ≤ n ∧ s.2.1 ≤ 4294967295 ∧ s.2.2.1 ≤ 1 ∧ s.2.2.2 < B32 ^ (n + 1) ∧ s.2.2.2 + g * (D % B32 ^ s.1) = U + B32 ^ s.1 * (s.2.1 + s.2.2.1) ∧ ρ 0 = .slice (some ⟨bu, o, none⟩) (n + 1) cap ∧ ρ 1 = .slice (some ⟨bd, 0, none⟩) n n ∧ ρ 5 = .int .i64 n ∧ ρ 7 = .int .u64 g ∧ ρ 9 = .int .u64 s.2.1 ∧ ρ 10 = .int .u32 s.2.2.1 ∧
        ρ 82 = .slice (some ⟨bd, 0, none⟩) n n ∧ ρ 83 = .int .i64 n ∧ ρ 84 = .int .i64 s.1 ∧
        St w0 w' ((bu, 94, Kr .u32 (pad B32 (lo + B32 ^ o * s.2.2.2) m1)) :: (bd, 94, Kr .u32 (pad B32 D n)) :: H)) (fun s => n - s.1) (0, 0, 0, U)
      ⟨Nat.zero_le _, Nat.zero_le _, Nat.zero_le _, hU1, by simp [Nat.mod_one], h0, h1, h5, h7, rfl, rfl, rfl, rfl, rfl, hS⟩ ?_
    clear hS h0 h1 h5 h7
    rintro ⟨k, c, bb, X⟩ ρ w3 ⟨hk, hc, hbb, hX, hinv, h0, h1, h5, h7, h9, h10, h82, h83, h84, hS⟩
    simp only at hk hc hbb hX hinv h0 h1 h5 h7 h9 h10 h82 h83 h84 hS
    repeat (with_reducible first | refine c_seq ?_ | refine c_block ?_ | refine c_skip ?_ | refine x_then ?_ | refine x_block ?_)
    refine c_reg ?_
    refine l_pure rfl (s_lss  h84 h83 ?_)
    refine l_nil ?_
    repeat (with_reducible first | refine c_seq ?_ | refine c_block ?_ | refine c_skip ?_ | refine x_then ?_ | refine x_block ?_)
    by_cases hlt : k < n
    · refine c_yes rfl (decide_eq_true (by omega)) ?_
      repeat (with_reducible first | refine c_seq ?_ | refine c_block ?_ | refine c_skip ?_ | refine x_then ?_ | refine x_block ?_)
      have x1 := limb_le X k
      have d1 := limb_le D k
      have hgX := hgU X k hk
      obtain ⟨u1, u2⟩ := mul_lt_two g (dgt B32 D k) 0 c (by omega) d1 (by omega) hc
      repeat (with_reducible first | refine c_seq ?_ | refine c_block ?_ | refine c_skip ?_ | refine x_then ?_ | refine x_block ?_)
      refine c_reg ?_
      refine l_pure rfl (s_move  h84 ?_)
      refine l_pure rfl (s_ixo (i := k)  h82 h84 (by omega) (by first | omega | (simp; done) | (simp; omega)) si_92 ?_)
      refine l_read rfl (s_ldk (k := 1) (i := k)  rfl vi_94 hS rfl (by omega) (by first | omega | (simp; done) | (simp; omega)) ?_)
      refine l_pure rfl (s_asg  rfl ?_)
      refine l_pure rfl (s_asg  rfl ?_)
      refine l_nil ?_
      repeat (with_reducible first | refine c_seq ?_ | refine c_block ?_ | refine c_skip ?_ | refine x_then ?_ | refine x_block ?_)
      rw [hgD k hlt]
      repeat (with_reducible first | refine c_seq ?_ | refine c_block ?_ | refine c_skip ?_ | refine x_then ?_ | refine x_block ?_)
      refine c_reg ?_
      refine l_pure rfl (s_move  h7 ?_)
      refine l_pure rfl (s_move  rfl ?_)
      refine l_pure rfl (s_conv  rfl Tryz.underlying95 ⟨_, Tryz.underlying94⟩ (r := ((dgt B32 D k : Nat) : Int)) (by exact wr_u64 _ ⟨rfl, by omega, by omega⟩) ?_)
      refine l_pure rfl (s_mul  rfl rfl (r := ((g * dgt B32 D k : Nat) : Int)) (by exact wr_u64 _ ⟨by push_cast; rfl, by omega, by omega⟩) ?_)
      refine l_pure rfl (s_move  h9 ?_)
      refine l_pure rfl (s_add  rfl rfl (r := ((g * dgt B32 D k + c : Nat) : Int)) (by exact wr_u64 _ ⟨by push_cast; rfl, by omega, by omega⟩) ?_)
      refine l_pure rfl (s_asg  rfl ?_)
      refine l_nil ?_
      repeat (with_reducible first | refine c_seq ?_ | refine c_block ?_ | refine c_skip ?_ | refine x_then ?_ | refine x_block ?_)
      obtain ⟨t, ht⟩ : ∃ t, t = g * dgt B32 D k + c := ⟨_, rfl⟩
      rw [← ht]
      have htl : t ≤ 18446744073709551615 := by omega
      repeat (with_reducible first | refine c_seq ?_ | refine c_block ?_ | refine c_skip ?_ | refine x_then ?_ | refine x_block ?_)
      refine c_reg ?_
      refine l_pure rfl (s_move  rfl ?_)
      refine l_pure rfl (s_shr  rfl rfl (by omega) (r := ((t / 4294967296 : Nat) : Int)) (by exact shr_v _ 32 (by decide)) ?_)
      refine l_pure rfl (s_asg  rfl ?_)
      refine l_nil ?_
      repeat (with_reducible first | refine c_seq ?_ | refine c_block ?_ | refine c_skip ?_ | refine x_then ?_ | refine x_block ?_)
      refine c_reg ?_
      refine l_pure rfl (s_move  h0 ?_)
      refine l_pure rfl (s_move  rfl ?_)
      refine l_pure rfl (s_move  h0 ?_)
      refine l_pure rfl (s_move  rfl ?_)
      refine l_pure rfl (s_ixo (i := k)  rfl rfl (by omega) (by first | omega | (simp; done) | (simp; omega)) si_92 ?_)
      refine l_read rfl (s_ldk (k := 0) (i := o + (k))  rfl vi_94 hS rfl (by omega) (by first | omega | (simp; done) | (simp; omega)) ?_)
      refine l_pure rfl (s_move  rfl ?_)
      refine l_pure rfl (s_conv  rfl Tryz.underlying94 ⟨_, Tryz.underlying95⟩ (u32_mod _) ?_)
      refine l_pure rfl (s_move  h10 ?_)
      refine l_heavy rfl (s_call Tryz.call112 rfl (Sub32_ok _ _ _ _ (by rw [hgX]; omega) (Nat.mod_lt _ (by decide)) hbb) ?_)
      rintro v w4 ⟨rfl, rfl⟩
      refine l_pure rfl (s_move  rfl ?_)
      refine l_pure rfl (s_ext  rfl rfl ?_)
      refine l_pure rfl (s_ext  rfl rfl ?_)
      refine l_pure rfl (s_ixo (i := k)  rfl rfl (by omega) (by first | omega | (simp; done) | (simp; omega)) si_92 ?_)
      refine l_heavy rfl (s_stk (k := 0) (i := o + (k)) (a := _)  rfl rfl rfl vi_94 hS rfl (by omega) (by first | omega | (simp; done) | (simp; omega)) ?_)
      intro wz5 hS
      refine l_pure rfl (s_asg  rfl ?_)
      refine l_nil ?_
      repeat (with_reducible first | refine c_seq ?_ | refine c_block ?_ | refine c_skip ?_ | refine x_then ?_ | refine x_block ?_)
      obtain ⟨u', hu'⟩ : ∃ u', u' = (dgt B32 X k + 2 * B32 - t % 4294967296 - bb) % B32 := ⟨_, rfl⟩
      obtain ⟨b', hb'⟩ : ∃ b', b' = if dgt B32 X k < t % 4294967296 + bb then 1 else 0 := ⟨_, rfl⟩
      have hub : u' + t % 4294967296 + bb = dgt B32 X k + 4294967296 * b' := by
        rw [hu', hb']; exact borrow_sum _ _ _ x1 (by omega) hbb
      have hb1 : b' ≤ 1 := by rw [hb']; split <;> omega
      obtain ⟨X', e1, e2, e3⟩ := pad_set_off (b := B32) (lo := lo) (X := X) (o := o) (k := k) (d := u') (n := m1) (by decide) hlo (hu' ▸ Nat.mod_lt _ (by decide)) (by omega)
      rw [hgX, ← hu'] at hS
      rw [List.set_cons_zero, e1] at hS
      repeat (with_reducible first | refine c_seq ?_ | refine c_block ?_ | refine c_skip ?_ | refine x_then ?_ | refine x_block ?_)
      refine c_reg ?_
      refine l_pure rfl (s_add  h84 rfl (IntWalk.i64_in _ (by omega)) ?_)
      refine l_pure rfl (s_move  rfl ?_)
      refine l_nil ?_
      repeat (with_reducible first | refine c_seq ?_ | refine c_block ?_ | refine c_skip ?_ | refine x_then ?_ | refine x_block ?_)
      refine ⟨(k + 1, t / 4294967296, b', X'), _, rfl, ⟨hlt, by simp only; omega, hb1, e3 _ (by omega) hX, ?_, h0, h1, h5, h7, rfl, vi rfl (by rw [hgX, hb']), h82, h83, vi rfl (by simp), hS⟩, by simp only; omega⟩
      simp only
      have f1 : g * (D % B32 ^ (k + 1)) = g * (D % B32 ^ k) + B32 ^ k * (g * dgt B32 D k) := by rw [mod_pow_succ, Nat.mul_add]; congr 1; ac_rfl
      have f2 : B32 ^ (k + 1) * (t / 4294967296 + b') = B32 ^ k * (4294967296 * (t / 4294967296) + 4294967296 * b') := by rw [Nat.pow_succ, Nat.mul_assoc, ← Nat.mul_add]
      have f3 : dgt B32 X k + (4294967296 * (t / 4294967296) + 4294967296 * b') = u' + (g * dgt B32 D k + c) + bb := by omega
      have f4 : B32 ^ k * dgt B32 X k + B32 ^ k * (4294967296 * (t / 4294967296) + 4294967296 * b') = B32 ^ k * u' + B32 ^ k * (g * dgt B32 D k) + B32 ^ k * (c + bb) := by
        rw [← Nat.mul_add, f3, ← Nat.mul_add, ← Nat.mul_add]; congr 1; omega
      rw [f1, f2]
      omega
    · refine c_no rfl (decide_eq_false (by omega)) ?_
      repeat (with_reducible first | refine c_seq ?_ | refine c_block ?_ | refine c_skip ?_ | refine x_then ?_ | refine x_block ?_)
      refine c_exit ?_
      repeat (with_reducible first | refine x_then_exit ?_ | refine x_block_exit ?_ | refine x_block_pass rfl ?_)
      repeat (with_reducible first | refine c_seq ?_ | refine c_block ?_ | refine c_skip ?_ | refine x_then ?_ | refine x_block ?_)
      obtain rfl : k = n := by omega
      rw [Nat.mod_eq_of_lt hD] at hinv
      exact ⟨_, rfl, c, bb, X, hc, hbb, hX, hinv, h0, h1, h5, h7, h9, h10, hS⟩
  clear hS h0 h1 h5 h7
  rintro ρ w3 ⟨c, bb, X, hc, hbb, hX, hinv, h0, h1, h5, h7, h9, h10, hS⟩
  repeat (with_reducible first | refine c_seq ?_ | refine c_block ?_ | refine c_skip ?_ | refine x_then ?_ | refine x_block ?_)
  have x1 := limb_le X n
  have hgX := hgU X n (Nat.le_refl _)
  repeat (with_reducible first | refine c_seq ?_ | refine c_block ?_ | refine c_skip ?_ | refine x_then ?_ | refine x_block ?_)
  refine c_reg ?_
  refine l_pure rfl (s_move  h0 ?_)
  refine l_pure rfl (s_move  h5 ?_)
  refine l_pure rfl (s_move  h0 ?_)
  refine l_pure rfl (s_move  h5 ?_)
  refine l_pure rfl (s_ixo (i := n)  rfl rfl (by omega) (by first | omega | (simp; done) | (simp; omega)) si_92 ?_)
  refine l_read rfl (s_ldk (k := 0) (i := o + (n))  rfl vi_94 hS rfl (by omega) (by first | omega | (simp; done) | (simp; omega)) ?_)
  refine l_pure rfl (s_move  h9 ?_)
  refine l_pure rfl (s_conv  rfl Tryz.underlying94 ⟨_, Tryz.underlying95⟩ (r := ((c : Nat) : Int)) (by exact wr_u32 _ ⟨rfl, by omega, by omega⟩) ?_)
  refine l_pure rfl (s_move  h10 ?_)
  refine l_heavy rfl (s_call Tryz.call112 rfl (Sub32_ok _ _ _ _ (by rw [hgX]; omega) (by omega) hbb) ?_)
  rintro v w4 ⟨rfl, rfl⟩
  refine l_pure rfl (s_move  rfl ?_)
  refine l_pure rfl (s_ext  rfl rfl ?_)
  refine l_pure rfl (s_ext  rfl rfl ?_)
  refine l_pure rfl (s_ixo (i := n)  rfl rfl (by omega) (by first | omega | (simp; done) | (simp; omega)) si_92 ?_)
  refine l_heavy rfl (s_stk (k := 0) (i := o + (n)) (a := _)  rfl rfl rfl vi_94 hS rfl (by omega) (by first | omega | (simp; done) | (simp; omega)) ?_)
  intro wz6 hS
  refine l_pure rfl (s_asg  rfl ?_)
  refine l_nil ?_
  repeat (with_reducible first | refine c_seq ?_ | refine c_block ?_ | refine c_skip ?_ | refine x_then ?_ | refine x_block ?_)
  obtain ⟨u', hu'⟩ : ∃ u', u' = (dgt B32 X n + 2 * B32 - c - bb) % B32 := ⟨_, rfl⟩
  obtain ⟨b', hb'⟩ : ∃ b', b' = if dgt B32 X n < c + bb then 1 else 0 := ⟨_, rfl⟩
  have hub : u' + c + bb = dgt B32 X n + 4294967296 * b' := by
    rw [hu', hb']; exact borrow_sum _ _ _ x1 hc hbb
  have hb1 : b' ≤ 1 := by rw [hb']; split <;> omega
  obtain ⟨Y, e1, e2, e3⟩ := pad_set_off (b := B32) (lo := lo) (X := X) (o := o) (k := n) (d := u') (n := m1) (by decide) hlo (hu' ▸ Nat.mod_lt _ (by decide)) (by omega)
  have hY := e3 _ (by omega) hX
  rw [hgX, ← hu'] at hS
  rw [List.set_cons_zero, e1] at hS
  have hYU : Y + g * D = U + B32 ^ (n + 1) * b' := by
    have f2 : B32 ^ (n + 1) * b' = B32 ^ n * (4294967296 * b') := by rw [Nat.pow_succ, Nat.mul_assoc]
    have f4 : B32 ^ n * dgt B32 X n + B32 ^ n * (4294967296 * b') = B32 ^ n * u' + B32 ^ n * (c + bb) := by
      rw [← Nat.mul_add, ← Nat.mul_add]; congr 1; omega
    omega
  have hbv : (if dgt B32 X n < c + bb then 1 else 0 : Nat) = b' := hb'.symm
  rw [hgX, hbv]
  clear e1 e2 e3 hub hu' hb' hbv hgX x1 hinv hX
  repeat (with_reducible first | refine c_seq ?_ | refine c_block ?_ | refine c_skip ?_ | refine x_then ?_ | refine x_block ?_)
  refine c_reg ?_
  refine l_pure rfl (s_move  rfl ?_)
  refine l_pure rfl (s_eql  rfl rfl ?_)
  refine l_nil ?_
  repeat (with_reducible first | refine c_seq ?_ | refine c_block ?_ | refine c_skip ?_ | refine x_then ?_ | refine x_block ?_)
  have hdm := Nat.div_add_mod U D
  have hDpos : 0 < D := hkn.dpos
  by_cases hb0 : b' = 0
  · refine c_yes rfl (decide_eq_true (by omega)) ?_
    repeat (with_reducible first | refine c_seq ?_ | refine c_block ?_ | refine c_skip ?_ | refine x_then ?_ | refine x_block ?_)
    rw [hb0, Nat.mul_zero, Nat.add_zero] at hYU
    have hg1 : g ≤ U / D := (Nat.le_div_iff_mul_le hDpos).2 (by omega)
    have hgq : g = U / D := by omega
    have hYm : Y = U % D := by rw [hgq, Nat.mul_comm] at hYU; omega
    rw [hYm] at hS
    repeat (with_reducible first | refine c_seq ?_ | refine c_block ?_ | refine c_skip ?_ | refine x_then ?_ | refine x_block ?_)
    refine c_reg ?_
    refine l_pure rfl (s_move  h7 ?_)
    refine l_pure rfl (s_conv  rfl Tryz.underlying94 ⟨_, Tryz.underlying95⟩ (r := ((U / D : Nat) : Int)) (by rw [hgq]; exact wr_u32 _ ⟨rfl, Int.natCast_nonneg _, by generalize U / D = z at hq ⊢; omega⟩) ?_)
    refine l_pure rfl (s_asg  rfl ?_)
    refine l_nil ?_
    repeat (with_reducible first | refine c_seq ?_ | refine c_block ?_ | refine c_skip ?_ | refine x_then ?_ | refine x_block ?_)
    refine c_ret ?_
    repeat (with_reducible first | refine x_then_ret ?_ | refine x_block_ret ?_)
    refine r_one rfl rfl ?_
    exact ⟨rfl, hS⟩
  · refine c_no rfl (decide_eq_false (by omega)) ?_
    repeat (with_reducible first | refine c_seq ?_ | refine c_block ?_ | refine c_skip ?_ | refine x_then ?_ | refine x_block ?_)
    obtain rfl : b' = 1 := by omega
    have hgq : g = U / D + 1 := by
      rcases Nat.lt_or_ge (U / D) g with h | h
      · omega
      · exfalso
        have : g * D ≤ U := (Nat.le_div_iff_mul_le hDpos).1 h
        omega
    have hYR : Y + D = U % D + B32 ^ (n + 1) := by
      rw [hgq, Nat.add_mul, Nat.one_mul, Nat.mul_comm] at hYU; omega
    repeat (with_reducible first | refine c_seq ?_ | refine c_block ?_ | refine c_skip ?_ | refine x_then ?_ | refine x_block ?_)
    refine c_reg ?_
    refine l_pure rfl (s_asg  rfl ?_)
    refine l_nil ?_
    repeat (with_reducible first | refine c_seq ?_ | refine c_block ?_ | refine c_skip ?_ | refine x_then ?_ | refine x_block ?_)
    refine c_reg ?_
    refine l_pure rfl (s_move  h1 ?_)
    refine l_pure rfl (s_leno  rfl ⟨_, Tryz.underlying92⟩ ?_)
    refine l_pure rfl (s_move  rfl ?_)
    refine l_nil ?_
    repeat (with_reducible first | refine c_seq ?_ | refine c_skip ?_ | refine x_then ?_ | refine x_block ?_)
    refine c_cut1 (fun ρ w' => ∃ c Z, c ≤ 1 ∧ Z < B32 ^ (n + 1) ∧ Z + B32 ^ n * c = Y + D ∧ ρ 0 = .slice (some ⟨bu, o, none⟩) (n + 1) cap ∧ ρ 5 = .int .i64 n ∧ ρ 7 = .int .u64 g ∧ ρ 14 = .int .u32 (c : Nat) ∧
        St w0 w' ((bu, 94, Kr .u32 (pad B32 (lo + B32 ^ o * Z) m1)) :: (bd, 94, Kr .u32 (pad B32 D n)) :: H)) ?_ ?_
    · repeat (with_reducible first | refine c_seq ?_ | refine c_block ?_ | refine c_skip ?_ | refine x_then ?_ | refine x_block ?_)
      refine c_loop (σ := Nat × Nat × Nat) (fun s ρ w' => s.1 ≤ n ∧ s.2.1 ≤ 1 ∧ s.2.2 < B32 ^ (n + 1) ∧ s.2.2 + B32 ^ s.1 * s.2.1 = Y + D % B32 ^ s.1 ∧ ρ 0 = .slice (some ⟨bu, o, none⟩) (n + 1) cap ∧ ρ 5 = .int .i64 n ∧ ρ 7 = .int .u64 g ∧ ρ 14 = .int .u32 s.2.1 ∧
          ρ 130 = .slice (some ⟨bd, 0, none⟩) n n ∧ ρ 131 = .int .i64 n ∧ ρ 132 = .int .i64 s.1 ∧
          St w0 w' ((bu, 94, Kr .u32 (pad B32 (lo + B32 ^ o * s.2.2) m1)) :: (bd, 94, Kr .u32 (pad B32 D n)) :: H)) (fun s => n - s.1) (0, 0, Y)
        ⟨Nat.zero_le _, Nat.zero_le _, hY, by simp [Nat.mod_one], h0, h5, h7, rfl, rfl, rfl, rfl, hS⟩ ?_
      clear hS h0 h1 h5 h7 h9 h10
      rintro ⟨k, c, Z⟩ ρ w3 ⟨hk, hc, hZ, hinv, h0, h5, h7, h14, h130, h131, h132, hS⟩
      simp only at hk hc hZ hinv h0 h5 h7 h14 h130 h131 h132 hS
      repeat (with_reducible first | refine c_seq ?_ | refine c_block ?_ | refine c_skip ?_ | refine x_then ?_ | refine x_block ?_)
      refine c_reg ?_
      refine l_pure rfl (s_lss  h132 h131 ?_)
      refine l_nil ?_
      repeat (with_reducible first | refine c_seq ?_ | refine c_block ?_ | refine c_skip ?_ | refine x_then ?_ | refine x_block ?_)
      by_cases hlt : k < n
      · refine c_yes rfl (decide_eq_true (by omega)) ?_
        repeat (with_reducible first | refine c_seq ?_ | refine c_block ?_ | refine c_skip ?_ | refine x_then ?_ | refine x_block ?_)
        have x1 := limb_le Z k
        have d1 := limb_le D k
        have hgX := hgU Z k hk
        repeat (with_reducible first | refine c_seq ?_ | refine c_block ?_ | refine c_skip ?_ | refine x_then ?_ | refine x_block ?_)
        refine c_reg ?_
        refine l_pure rfl (s_move  h132 ?_)
        refine l_pure rfl (s_ixo (i := k)  h130 h132 (by omega) (by first | omega | (simp; done) | (simp; omega)) si_92 ?_)
        refine l_read rfl (s_ldk (k := 1) (i := k)  rfl vi_94 hS rfl (by omega) (by first | omega | (simp; done) | (simp; omega)) ?_)
        refine l_pure rfl (s_asg  rfl ?_)
        refine l_pure rfl (s_asg  rfl ?_)
        refine l_nil ?_
        repeat (with_reducible first | refine c_seq ?_ | refine c_block ?_ | refine c_skip ?_ | refine x_then ?_ | refine x_block ?_)
        rw [hgD k hlt]
        repeat (with_reducible first | refine c_seq ?_ | refine c_block ?_ | refine c_skip ?_ | refine x_then ?_ | refine x_block ?_)
        refine c_reg ?_
        refine l_pure rfl (s_move  h0 ?_)
        refine l_pure rfl (s_move  rfl ?_)
        refine l_pure rfl (s_move  h0 ?_)
        refine l_pure rfl (s_move  rfl ?_)
        refine l_pure rfl (s_ixo (i := k)  rfl rfl (by omega) (by first | omega | (simp; done) | (simp; omega)) si_92 ?_)
        refine l_read rfl (s_ldk (k := 0) (i := o + (k))  rfl vi_94 hS rfl (by omega) (by first | omega | (simp; done) | (simp; omega)) ?_)
        refine l_pure rfl (s_move  rfl ?_)
        refine l_pure rfl (s_move  h14 ?_)
        refine l_heavy rfl (s_call Tryz.call92 rfl (Add32_ok _ _ _ _ (by rw [hgX]; omega) (by omega) (by omega)) ?_)
        rintro v w4 ⟨rfl, rfl⟩
        refine l_pure rfl (s_move  rfl ?_)
        refine l_pure rfl (s_ext  rfl rfl ?_)
        refine l_pure rfl (s_ext  rfl rfl ?_)
        refine l_pure rfl (s_ixo (i := k)  rfl rfl (by omega) (by first | omega | (simp; done) | (simp; omega)) si_92 ?_)
        refine l_heavy rfl (s_stk (k := 0) (i := o + (k)) (a := _)  rfl rfl rfl vi_94 hS rfl (by omega) (by first | omega | (simp; done) | (simp; omega)) ?_)
        intro wz7 hS
        refine l_pure rfl (s_asg  rfl ?_)
        refine l_nil ?_
        repeat (with_reducible first | refine c_seq ?_ | refine c_block ?_ | refine c_skip ?_ | refine x_then ?_ | refine x_block ?_)
        obtain ⟨t, ht⟩ : ∃ t, t = dgt B32 Z k + dgt B32 D k + c := ⟨_, rfl⟩
        obtain ⟨Z', e1, e2, e3⟩ := pad_set_off (b := B32) (lo := lo) (X := Z) (o := o) (k := k) (d := t % B32) (n := m1) (by decide) hlo (Nat.mod_lt _ (by decide)) (by omega)
        rw [hgX, ← ht] at hS
        rw [List.set_cons_zero, e1] at hS
        repeat (with_reducible first | refine c_seq ?_ | refine c_block ?_ | refine c_skip ?_ | refine x_then ?_ | refine x_block ?_)
        refine c_reg ?_
        refine l_pure rfl (s_add  h132 rfl (IntWalk.i64_in _ (by omega)) ?_)
        refine l_pure rfl (s_move  rfl ?_)
        refine l_nil ?_
        repeat (with_reducible first | refine c_seq ?_ | refine c_block ?_ | refine c_skip ?_ | refine x_then ?_ | refine x_block ?_)
        refine ⟨(k + 1, t / B32, Z'), _, rfl, ⟨hlt, by simp only [hB]; omega, e3 _ (by omega) hZ, ?_, h0, h5, h7, vi rfl (by rw [hgX, ← ht]), h130, h131, vi rfl (by simp), hS⟩, by simp only; omega⟩
        simp only
        have f2 : B32 ^ (k + 1) * (t / B32) = B32 ^ k * (B32 * (t / B32)) := by rw [Nat.pow_succ, Nat.mul_assoc]
        have f4 : B32 ^ k * (t % B32) + B32 ^ k * (B32 * (t / B32)) = B32 ^ k * dgt B32 Z k + B32 ^ k * dgt B32 D k + B32 ^ k * c := by
          rw [← Nat.mul_add, Nat.mod_add_div, ht, Nat.mul_add, Nat.mul_add]
        rw [mod_pow_succ, f2]
        omega
      · refine c_no rfl (decide_eq_false (by omega)) ?_
        repeat (with_reducible first | refine c_seq ?_ | refine c_block ?_ | refine c_skip ?_ | refine x_then ?_ | refine x_block ?_)
        refine c_exit ?_
        repeat (with_reducible first | refine x_then_exit ?_ | refine x_block_exit ?_ | refine x_block_pass rfl ?_)
        repeat (with_reducible first | refine c_seq ?_ | refine c_block ?_ | refine c_skip ?_ | refine x_then ?_ | refine x_block ?_)
        obtain rfl : k = n := by omega
        rw [Nat.mod_eq_of_lt hD] at hinv
        exact ⟨_, rfl, c, Z, hc, hZ, hinv, h0, h5, h7, h14, hS⟩
    clear hS h0 h1 h5 h7 h9 h10
    rintro ρ w4 ⟨c, Z, hc, hZ, hinv, h0, h5, h7, h14, hS⟩
    repeat (with_reducible first | refine c_seq ?_ | refine c_block ?_ | refine c_skip ?_ | refine x_then ?_ | refine x_block ?_)
    have x1 := limb_le Z n
    have hgX := hgU Z n (Nat.le_refl _)
    repeat (with_reducible first | refine c_seq ?_ | refine c_block ?_ | refine c_skip ?_ | refine x_then ?_ | refine x_block ?_)
    refine c_reg ?_
    refine l_pure rfl (s_move  h0 ?_)
    refine l_pure rfl (s_move  h5 ?_)
    refine l_pure rfl (s_ixo (i := n)  rfl rfl (by omega) (by first | omega | (simp; done) | (simp; omega)) si_92 ?_)
    refine l_read rfl (s_ldk (k := 0) (i := o + (n))  rfl vi_94 hS rfl (by omega) (by first | omega | (simp; done) | (simp; omega)) ?_)
    refine l_pure rfl (s_move  h14 ?_)
    refine l_pure rfl (s_add  rfl rfl (r := (((dgt B32 Z n + c) % 4294967296 : Nat) : Int)) (by rw [hgX, wrapm_u32]; omega) ?_)
    refine l_pure rfl (s_ixo (i := n)  rfl rfl (by omega) (by first | omega | (simp; done) | (simp; omega)) si_92 ?_)
    refine l_heavy rfl (s_stk (k := 0) (i := o + (n)) (a := _)  rfl rfl rfl vi_94 hS rfl (by omega) (by first | omega | (simp; done) | (simp; omega)) ?_)
    intro wz8 hS
    refine l_nil ?_
    repeat (with_reducible first | refine c_seq ?_ | refine c_block ?_ | refine c_skip ?_ | refine x_then ?_ | refine x_block ?_)
    obtain ⟨V, e1, e2, e3⟩ := pad_set_off (b := B32) (lo := lo) (X := Z) (o := o) (k := n) (d := (dgt B32 Z n + c) % 4294967296) (n := m1) (by decide) hlo (Nat.mod_lt _ (by decide)) (by omega)
    rw [List.set_cons_zero, e1] at hS
    have hV : V = U % D := by
      have hR : U % D < B32 ^ n := Nat.lt_trans (Nat.mod_lt _ hDpos) hD
      have hpos : 0 < B32 ^ n := Nat.pow_pos (by decide)
      have htop : dgt B32 Z n = Z / B32 ^ n := dgt_top (by decide) hZ
      have hdz := Nat.div_add_mod Z (B32 ^ n)
      have hmz := Nat.mod_lt Z hpos
      have hsum : Z % B32 ^ n + B32 ^ n * (Z / B32 ^ n + c) = U % D + B32 ^ n * 4294967296 := by
        have : B32 ^ (n + 1) = B32 ^ n * 4294967296 := Nat.pow_succ ..
        rw [Nat.mul_add]; omega
      have hy : Z / B32 ^ n + c = 4294967296 := by
        have h1 : (Z % B32 ^ n + B32 ^ n * (Z / B32 ^ n + c)) / B32 ^ n = (U % D + B32 ^ n * 4294967296) / B32 ^ n := by rw [hsum]
        rwa [Nat.add_mul_div_left _ _ hpos, Nat.add_mul_div_left _ _ hpos, Nat.div_eq_of_lt hmz, Nat.div_eq_of_lt hR, Nat.zero_add, Nat.zero_add] at h1
      rw [htop, hy] at e2
      rw [hy] at hsum
      simp only [Nat.mod_self, Nat.mul_zero, Nat.add_zero] at e2
      omega
    rw [hV] at hS
    repeat (with_reducible first | refine c_seq ?_ | refine c_block ?_ | refine c_skip ?_ | refine x_then ?_ | refine x_block ?_)
    refine c_reg ?_
    refine l_pure rfl (s_move  h7 ?_)
    refine l_pure rfl (s_sub  rfl rfl (r := ((U / D : Nat) : Int)) (by rw [hgq]; exact wr_u64 _ ⟨by push_cast; omega, Int.natCast_nonneg _, by generalize U / D = z at hq ⊢; omega⟩) ?_)
    refine l_pure rfl (s_conv  rfl Tryz.underlying94 ⟨_, Tryz.underlying95⟩ (r := ((U / D : Nat) : Int)) (by exact wr_u32 _ ⟨rfl, Int.natCast_nonneg _, by generalize U / D = z at hq ⊢; omega⟩) ?_)
    refine l_pure rfl (s_asg  rfl ?_)
    refine l_nil ?_
    repeat (with_reducible first | refine c_seq ?_ | refine c_block ?_ | refine c_skip ?_ | refine x_then ?_ | refine x_block ?_)
    refine c_ret ?_
    repeat (with_reducible first | refine x_then_ret ?_ | refine x_block_ret ?_)
    refine r_one rfl rfl ?_
    exact ⟨rfl, hS⟩
end Go.Proofs.YtmghobajmhdbfaaGreatDoor
