/-
  Facts and walks that apportioning shares with others: lists that are filled, lists with a negative number.
-/
import Derived.Test.YtblfipdfklpmmabDoorLawFp
namespace Go.Proofs.YtblfipdfklpmmabDoor
open Go Go.RowKit Go.Sx

theorem int_of_den' {p : Rat} (h : p.den = 1) : ((p.num : Int) : Rat) = p := by
  have := Rat.mkRat_self p
  rw [h] at this
  rw [← this]
  have h2 := mkRat_int p.num
  rw [sg_num'] at h2
  rw [this]
  exact h2.symm.trans this
/-- A list that is being filled. -/
def fill {α : Type} (n i : Nat) (f : Nat → α) (z : α) : List α := tab n fun j => if j < i then f j else z
theorem fill_len {α : Type} (n i : Nat) (f : Nat → α) (z : α) : (fill n i f z).length = n := tab_len _ _
theorem fill_zero {α : Type} (n : Nat) (f : Nat → α) (z : α) : List.replicate n z = fill n 0 f z := by
  rw [tab_rep]; exact tab_congr fun _ _ => (if_neg (Nat.not_lt_zero _)).symm
theorem fill_all {α : Type} (n : Nat) (f : Nat → α) (z : α) : fill n n f z = tab n f := tab_congr fun _ hj => if_pos hj
theorem fill_set {α : Type} (n i : Nat) (f : Nat → α) (z : α) : (fill n i f z).set i (f i) = fill n (i + 1) f z := by
  unfold fill
  rw [tab_set]
  refine tab_congr fun j _ => ?_
  by_cases e : j = i
  · subst e; rw [if_pos rfl, if_pos (by omega)]
  · rw [if_neg e]
    by_cases e2 : j < i
    · rw [if_pos e2, if_pos (by omega)]
    · rw [if_neg e2, if_neg (by omega)]
theorem fill_get {α : Type} {n i k : Nat} (f : Nat → α) (z d : α) (hk : k < n) (hki : k < i) : (fill n i f z).getD k d = f k := by
  unfold fill
  rw [tab_get _ _ hk, if_pos hki]
theorem zI_fill (n : Nat) : (tab n fun j : Nat => (j : Int)) = zI (List.range n) := rfl
theorem sumL_le {K : Nat} {l : List RR} (h : RB K l) : sumL l ≤ l.length * (K + 1) := by
  induction l with
  | nil => exact Nat.zero_le _
  | cons r l ih =>
    have h1 := h r (List.mem_cons_self ..)
    have h2 := ih fun x hx => h x (List.mem_cons_of_mem _ hx)
    rw [sumL, List.length_cons, Nat.add_mul]
    omega
theorem L_sumQ (l : List RR) : L (sumQ (l.map toQ)) ≤ sumL l + 1 := by
  induction l with
  | nil => show L 0 ≤ _; rw [L_zero]; omega
  | cons r l ih =>
    rw [List.map_cons, sumQ_cons, sumL]
    have := L_add (toQ r) (sumQ (l.map toQ))
    have := L_toQ r
    omega
theorem negs_get {l : List RR} (h : negs l = false) (i : Nat) : 0 ≤ toQ (l.getD i zRR) := by
  by_cases hi : i < l.length
  · unfold negs at h
    rw [List.any_eq_false] at h
    have := h _ (getD_mem l i zRR hi)
    rw [decide_eq_true_eq] at this
    exact Rat.not_lt.1 this
  · rw [List.getD_eq_getElem?_getD, List.getElem?_eq_none (by omega)]
    show 0 ≤ toQ zRR
    rw [toQ_zRR]; exact Rat.le_refl
/-! ### Lists with a negative number -/
theorem IndexFuncG_ok {f : FuncId} (hcall : ∀ args w, (callFunc f args).run Tryd.prog w = .ok (.enter f args) w) (hf : ∀ (r : RR) (w : World), Lr r ≤ MX → Ret Tryd.prog f #[aggR r] w fun v w' => v = .bool (decide (toQ r < 0)) ∧ Below w.heap.size w w')
    (v : Value) (l : List RR) (w : World) (hv : Sl encR 3 w v l) (hl : RB MX l) :
    Ret Tryd.prog 43 #[v, .func (.func f) #[] #[]] w fun r w' => (∃ k : Int, r = .int .i64 k ∧ (0 ≤ k ↔ negs l = true)) ∧ Below w.heap.size w w' := by
  have hmax := hv.maxLen
  have hS := St.init w
  refine enter Tryd.func43 rfl Tryd.ntmps43 rfl ?_
  repeat (with_reducible first | refine c_seq ?_ | refine c_block ?_ | refine c_skip ?_ | refine x_then ?_ | refine x_block ?_)
  refine c_reg ?_
  refine l_pure rfl (s_asg  rfl ?_)
  refine l_nil ?_
  repeat (with_reducible first | refine c_seq ?_ | refine c_block ?_ | refine c_skip ?_ | refine x_then ?_ | refine x_block ?_)
  refine c_reg ?_
  refine l_pure rfl (s_move  rfl ?_)
  refine l_pure rfl (s_lenr  rfl (hv.below hS.below) ⟨_, Tryd.underlying23⟩ ?_)
  refine l_pure rfl (s_move  rfl ?_)
  refine l_nil ?_
  repeat (with_reducible first | refine c_seq ?_ | refine c_block ?_ | refine c_skip ?_ | refine x_then ?_ | refine x_block ?_)
  refine c_loop (σ := Nat) (fun i ρ w' => i ≤ l.length ∧ negs (l.take i) = false ∧ ρ 0 = v ∧ ρ 1 = .func (.func f) #[] #[] ∧ ρ 7 = .int .i64 l.length ∧ ρ 8 = .int .i64 i ∧ St w w' []) (fun i => l.length - i) 0
    ⟨Nat.zero_le _, rfl, rfl, rfl, rfl, rfl, hS⟩ ?_
  clear hS
  rintro i ρ w2 ⟨hi, hn, h0, h1, h7, h8, hS⟩
  repeat (with_reducible first | refine c_seq ?_ | refine c_block ?_ | refine c_skip ?_ | refine x_then ?_ | refine x_block ?_)
  refine c_reg ?_
  refine l_pure rfl (s_lss  h8 h7 ?_)
  refine l_nil ?_
  repeat (with_reducible first | refine c_seq ?_ | refine c_block ?_ | refine c_skip ?_ | refine x_then ?_ | refine x_block ?_)
  by_cases hlt : i < l.length
  · refine c_yes rfl (decide_eq_true (by omega)) ?_
    repeat (with_reducible first | refine c_seq ?_ | refine c_block ?_ | refine c_skip ?_ | refine x_then ?_ | refine x_block ?_)
    obtain ⟨t1, t2⟩ := negs_take l hlt hn
    repeat (with_reducible first | refine c_seq ?_ | refine c_block ?_ | refine c_skip ?_ | refine x_then ?_ | refine x_block ?_)
    refine c_reg ?_
    refine l_pure rfl (s_move  h8 ?_)
    refine l_pure rfl (s_asg  rfl ?_)
    refine l_nil ?_
    repeat (with_reducible first | refine c_seq ?_ | refine c_block ?_ | refine c_skip ?_ | refine x_then ?_ | refine x_block ?_)
    refine c_reg ?_
    refine l_pure rfl (s_move  h1 ?_)
    refine l_pure rfl (s_move  h0 ?_)
    refine l_pure rfl (s_move  rfl ?_)
    refine l_pure rfl (s_ixr (i := i)  rfl rfl (hv.below hS.below) (by omega) (by first | omega | (simp; done) | (simp; omega)) si_23 ?_)
    refine l_read rfl (s_lde (i := i) zRR  rfl vi_25 (hv.below hS.below) (by first | omega | (simp; done) | (simp; omega)) rfl rfl (.inl rfl) ?_)
    refine l_heavy rfl (s_callv hcall rfl rfl (hf (l.getD i zRR) _ (hl _ (getD_mem l i zRR hlt))) ?_)
    rintro r w3 ⟨rfl, hB3⟩
    replace hS := hS.grow hB3
    refine l_nil ?_
    repeat (with_reducible first | refine c_seq ?_ | refine c_block ?_ | refine c_skip ?_ | refine x_then ?_ | refine x_block ?_)
    by_cases hneg : toQ (l.getD i zRR) < 0
    · refine c_yes rfl (decide_eq_true hneg) ?_
      repeat (with_reducible first | refine c_seq ?_ | refine c_block ?_ | refine c_skip ?_ | refine x_then ?_ | refine x_block ?_)
      refine c_reg ?_
      refine l_pure rfl (s_move  rfl ?_)
      refine l_pure rfl (s_asg  rfl ?_)
      refine l_nil ?_
      repeat (with_reducible first | refine c_seq ?_ | refine c_block ?_ | refine c_skip ?_ | refine x_then ?_ | refine x_block ?_)
      refine c_ret ?_
      repeat (with_reducible first | refine x_then_ret ?_ | refine x_block_ret ?_)
      refine r_one rfl rfl ?_
      exact ⟨⟨_, rfl, ⟨fun _ => t2 hneg, fun _ => by omega⟩⟩, hS.below⟩
    · refine c_no rfl (decide_eq_false hneg) ?_
      repeat (with_reducible first | refine c_seq ?_ | refine c_block ?_ | refine c_skip ?_ | refine x_then ?_ | refine x_block ?_)
      refine c_reg ?_
      refine l_pure rfl (s_add  h8 rfl (IntWalk.i64_in _ (by omega)) ?_)
      refine l_pure rfl (s_move  rfl ?_)
      refine l_nil ?_
      repeat (with_reducible first | refine c_seq ?_ | refine c_block ?_ | refine c_skip ?_ | refine x_then ?_ | refine x_block ?_)
      exact ⟨i + 1, _, rfl, ⟨hlt, t1 hneg, h0, h1, h7, vi rfl (by omega), hS⟩, by omega⟩
  · refine c_no rfl (decide_eq_false (by omega)) ?_
    repeat (with_reducible first | refine c_seq ?_ | refine c_block ?_ | refine c_skip ?_ | refine x_then ?_ | refine x_block ?_)
    refine c_exit ?_
    repeat (with_reducible first | refine x_then_exit ?_ | refine x_block_exit ?_ | refine x_block_pass rfl ?_)
    repeat (with_reducible first | refine c_seq ?_ | refine c_block ?_ | refine c_skip ?_ | refine x_then ?_ | refine x_block ?_)
    obtain rfl : i = l.length := by omega
    rw [List.take_length] at hn
    repeat (with_reducible first | refine c_seq ?_ | refine c_block ?_ | refine c_skip ?_ | refine x_then ?_ | refine x_block ?_)
    refine c_reg ?_
    refine l_pure rfl (s_asg  rfl ?_)
    refine l_nil ?_
    repeat (with_reducible first | refine c_seq ?_ | refine c_block ?_ | refine c_skip ?_ | refine x_then ?_ | refine x_block ?_)
    refine c_ret ?_
    repeat (with_reducible first | refine x_then_ret ?_ | refine x_block_ret ?_)
    refine r_one rfl rfl ?_
    exact ⟨⟨_, rfl, ⟨fun h => by omega, fun h => by rw [hn] at h; cases h⟩⟩, hS.below⟩
theorem ContainsFuncG_ok {f : FuncId} (hcall : ∀ args w, (callFunc f args).run Tryd.prog w = .ok (.enter f args) w) (hf : ∀ (r : RR) (w : World), Lr r ≤ MX → Ret Tryd.prog f #[aggR r] w fun v w' => v = .bool (decide (toQ r < 0)) ∧ Below w.heap.size w w')
    (v : Value) (l : List RR) (w : World) (hv : Sl encR 3 w v l) (hl : RB MX l) :
    Ret Tryd.prog 25 #[v, .func (.func f) #[] #[]] w fun r w' => r = .bool (negs l) ∧ Below w.heap.size w w' := by
  have hS := St.init w
  refine enter Tryd.func25 rfl Tryd.ntmps25 rfl ?_
  repeat (with_reducible first | refine c_seq ?_ | refine c_block ?_ | refine c_skip ?_ | refine x_then ?_ | refine x_block ?_)
  refine c_reg ?_
  refine l_pure rfl (s_asg  rfl ?_)
  refine l_nil ?_
  repeat (with_reducible first | refine c_seq ?_ | refine c_block ?_ | refine c_skip ?_ | refine x_then ?_ | refine x_block ?_)
  refine c_reg ?_
  refine l_pure rfl (s_move  rfl ?_)
  refine l_pure rfl (s_move  rfl ?_)
  refine l_heavy rfl (s_call Tryd.call43 rfl (IndexFuncG_ok hcall hf v l _ hv hl) ?_)
  rintro r w3 ⟨⟨k, rfl, hk⟩, hB3⟩
  replace hS := hS.grow hB3
  refine l_pure rfl (s_geq  rfl rfl ?_)
  refine l_pure rfl (s_asg  rfl ?_)
  refine l_nil ?_
  repeat (with_reducible first | refine c_seq ?_ | refine c_block ?_ | refine c_skip ?_ | refine x_then ?_ | refine x_block ?_)
  refine c_ret ?_
  repeat (with_reducible first | refine x_then_ret ?_ | refine x_block_ret ?_)
  refine r_one rfl rfl ?_
  refine ⟨congrArg Value.bool ?_, hS.below⟩
  rw [Bool.eq_iff_iff, decide_eq_true_iff]; exact hk
end Go.Proofs.YtblfipdfklpmmabDoor
