/-
  Part 7 of the texts that the law's proof is made of: the framework and the walks.
-/
import Derived.Test.YtblfipdfklpmmaaDoorPo6
namespace Go.Proofs.YtblfipdfklpmmaaDoor
open Go Go.RowKit Go.Sx
theorem SameRats_eq (va vb_ : Value) (A : List RR) (w : World) (ha : Sl encR 3 w va A) (hb : Sl encR 3 w vb_ A) :
    Ret Tryd.prog 33 #[va, vb_] w fun v w' => v = .bool true ∧ Below w.heap.size w w' :=
  (SameRats_ok va vb_ A A w ha hb).mono fun _ _ ⟨h, hB⟩ => ⟨by rw [h, decide_eq_true rfl], hB⟩
theorem SameRows_eq (va vb_ : Value) (A : List (List RR)) (vs us : List Value) (w : World) (hA : Mts encR 3 w va A vs) (hB : Mts encR 3 w vb_ A us) :
    Ret Tryd.prog 13 #[va, vb_] w fun r w' => r = .bool true ∧ Below w.heap.size w w' := by
  have hS := St.init w
  have hmx := hA.sl.maxLen
  have hla := hA.len
  have hlb := hB.len
  refine enter Tryd.func13 rfl Tryd.ntmps13 rfl ?_
  repeat (with_reducible first | refine c_seq ?_ | refine c_block ?_ | refine c_skip ?_ | refine x_then ?_ | refine x_block ?_)
  refine c_reg ?_
  refine l_pure rfl (s_asg  rfl ?_)
  refine l_nil ?_
  repeat (with_reducible first | refine c_seq ?_ | refine c_block ?_ | refine c_skip ?_ | refine x_then ?_ | refine x_block ?_)
  refine c_reg ?_
  refine l_pure rfl (s_move  rfl ?_)
  refine l_pure rfl (s_lenr  rfl (hA.sl.below hS.below) ⟨_, Tryd.underlying24⟩ ?_)
  refine l_pure rfl (s_move  rfl ?_)
  refine l_pure rfl (s_lenr  rfl (hB.sl.below hS.below) ⟨_, Tryd.underlying24⟩ ?_)
  refine l_pure rfl (s_neq  rfl rfl ?_)
  refine l_nil ?_
  repeat (with_reducible first | refine c_seq ?_ | refine c_block ?_ | refine c_skip ?_ | refine x_then ?_ | refine x_block ?_)
  refine c_no rfl (decide_eq_false (by omega)) ?_
  repeat (with_reducible first | refine c_seq ?_ | refine c_block ?_ | refine c_skip ?_ | refine x_then ?_ | refine x_block ?_)
  refine c_reg ?_
  refine l_pure rfl (s_asg  rfl ?_)
  refine l_nil ?_
  repeat (with_reducible first | refine c_seq ?_ | refine c_block ?_ | refine c_skip ?_ | refine x_then ?_ | refine x_block ?_)
  refine c_loop (σ := Nat) (fun i ρ w' => i ≤ A.length ∧ ρ 0 = va ∧ ρ 1 = vb_ ∧ ρ 5 = .int .i64 i ∧ St w w' []) (fun i => A.length - i) 0
    ⟨Nat.zero_le _, rfl, rfl, rfl, hS⟩ ?_
  clear hS
  rintro i ρ w2 ⟨hi, h0, h1, h5, hS⟩
  repeat (with_reducible first | refine c_seq ?_ | refine c_block ?_ | refine c_skip ?_ | refine x_then ?_ | refine x_block ?_)
  refine c_reg ?_
  refine l_pure rfl (s_move  h5 ?_)
  refine l_pure rfl (s_move  h0 ?_)
  refine l_pure rfl (s_lenr  rfl (hA.sl.below hS.below) ⟨_, Tryd.underlying24⟩ ?_)
  refine l_pure rfl (s_lss  rfl rfl ?_)
  refine l_nil ?_
  repeat (with_reducible first | refine c_seq ?_ | refine c_block ?_ | refine c_skip ?_ | refine x_then ?_ | refine x_block ?_)
  by_cases hlt : i < A.length
  · refine c_yes rfl (decide_eq_true (by omega)) ?_
    repeat (with_reducible first | refine c_seq ?_ | refine c_block ?_ | refine c_skip ?_ | refine x_then ?_ | refine x_block ?_)
    have hra := hA.row i hlt
    have hrb := hB.row i hlt
    repeat (with_reducible first | refine c_seq ?_ | refine c_block ?_ | refine c_skip ?_ | refine x_then ?_ | refine x_block ?_)
    refine c_draw [(0, .pure), (1, .pure), (2, .pure), (3, .read), (4, .pure), (5, .pure), (6, .pure), (7, .read), (8, .grow), (9, .pure)] (by kernel_rfl) (by kernel_rfl) hS ?_
    intro wz1 hS hBz1
    refine w_pure rfl rfl (s_move  h0 ?_)
    refine w_pure rfl rfl (s_move  h5 ?_)
    refine w_pure rfl rfl (s_ixr (i := i)  rfl rfl (hA.sl.below hS.below) (by omega) (by first | omega | (simp; done) | (simp; omega)) si_24 ?_)
    refine w_read rfl rfl (s_lde (i := i) undef  rfl vi_30 (hA.sl.below hS.below) (by first | omega | (simp; done) | (simp; omega)) rfl rfl (.inr rfl) ?_)
    refine w_pure rfl rfl (s_move  h1 ?_)
    refine w_pure rfl rfl (s_move  h5 ?_)
    refine w_pure rfl rfl (s_ixr (i := i)  rfl rfl (hB.sl.below hS.below) (by omega) (by first | omega | (simp; done) | (simp; omega)) si_24 ?_)
    refine w_read rfl rfl (s_lde (i := i) undef  rfl vi_30 (hB.sl.below hS.below) (by first | omega | (simp; done) | (simp; omega)) rfl rfl (.inr rfl) ?_)
    refine w_grow rfl rfl (s_call Tryd.call33 rfl (SameRats_eq _ _ (A.getD i []) _ (hra.below hS.below) (hrb.below hS.below)) ?_)
    rintro _ wc2 ⟨rfl, hBc2⟩
    replace hS := hS.grow hBc2
    refine ⟨hBc2, ?_⟩
    refine w_pure rfl rfl (s_not  rfl ?_)
    refine w_end ?_
    repeat (with_reducible first | refine c_seq ?_ | refine c_block ?_ | refine c_skip ?_ | refine x_then ?_ | refine x_block ?_)
    refine c_no rfl (rfl) ?_
    repeat (with_reducible first | refine c_seq ?_ | refine c_block ?_ | refine c_skip ?_ | refine x_then ?_ | refine x_block ?_)
    refine c_reg ?_
    refine l_pure rfl (s_move  h5 ?_)
    refine l_pure rfl (s_add  rfl rfl (IntWalk.i64_in _ (by omega)) ?_)
    refine l_pure rfl (s_asg  rfl ?_)
    refine l_nil ?_
    repeat (with_reducible first | refine c_seq ?_ | refine c_block ?_ | refine c_skip ?_ | refine x_then ?_ | refine x_block ?_)
    exact ⟨i + 1, _, rfl, ⟨hlt, by assumption, by assumption, vi rfl (by omega), hS⟩, by omega⟩
  · refine c_no rfl (decide_eq_false (by omega)) ?_
    repeat (with_reducible first | refine c_seq ?_ | refine c_block ?_ | refine c_skip ?_ | refine x_then ?_ | refine x_block ?_)
    refine c_exit ?_
    repeat (with_reducible first | refine x_then_exit ?_ | refine x_block_exit ?_ | refine x_block_pass rfl ?_)
    repeat (with_reducible first | refine c_seq ?_ | refine c_block ?_ | refine c_skip ?_ | refine x_then ?_ | refine x_block ?_)
    refine c_reg ?_
    refine l_pure rfl (s_asg  rfl ?_)
    refine l_nil ?_
    repeat (with_reducible first | refine c_seq ?_ | refine c_block ?_ | refine c_skip ?_ | refine x_then ?_ | refine x_block ?_)
    refine c_ret ?_
    repeat (with_reducible first | refine x_then_ret ?_ | refine x_block_ret ?_)
    refine r_one rfl rfl ?_
    exact ⟨rfl, hS.below⟩
theorem SameInts_eq (va vb_ : Value) (A : List Int) (w : World) (ha : Sl enI 1 w va A) (hb : Sl enI 1 w vb_ A) :
    Ret Tryd.prog 14 #[va, vb_] w fun r w' => r = .bool true ∧ Below w.heap.size w w' := by
  have hS := St.init w
  have hmx := ha.maxLen
  refine enter Tryd.func14 rfl Tryd.ntmps14 rfl ?_
  repeat (with_reducible first | refine c_seq ?_ | refine c_block ?_ | refine c_skip ?_ | refine x_then ?_ | refine x_block ?_)
  refine c_reg ?_
  refine l_pure rfl (s_asg  rfl ?_)
  refine l_nil ?_
  repeat (with_reducible first | refine c_seq ?_ | refine c_block ?_ | refine c_skip ?_ | refine x_then ?_ | refine x_block ?_)
  refine c_reg ?_
  refine l_pure rfl (s_move  rfl ?_)
  refine l_pure rfl (s_lenr  rfl (ha.below hS.below) ⟨_, Tryd.underlying31⟩ ?_)
  refine l_pure rfl (s_move  rfl ?_)
  refine l_pure rfl (s_lenr  rfl (hb.below hS.below) ⟨_, Tryd.underlying31⟩ ?_)
  refine l_pure rfl (s_neq  rfl rfl ?_)
  refine l_nil ?_
  repeat (with_reducible first | refine c_seq ?_ | refine c_block ?_ | refine c_skip ?_ | refine x_then ?_ | refine x_block ?_)
  refine c_no rfl (decide_eq_false (by omega)) ?_
  repeat (with_reducible first | refine c_seq ?_ | refine c_block ?_ | refine c_skip ?_ | refine x_then ?_ | refine x_block ?_)
  refine c_reg ?_
  refine l_pure rfl (s_asg  rfl ?_)
  refine l_nil ?_
  repeat (with_reducible first | refine c_seq ?_ | refine c_block ?_ | refine c_skip ?_ | refine x_then ?_ | refine x_block ?_)
  refine c_loop (σ := Nat) (fun i ρ w' => i ≤ A.length ∧ ρ 0 = va ∧ ρ 1 = vb_ ∧ ρ 5 = .int .i64 i ∧ St w w' []) (fun i => A.length - i) 0
    ⟨Nat.zero_le _, rfl, rfl, rfl, hS⟩ ?_
  clear hS
  rintro i ρ w2 ⟨hi, h0, h1, h5, hS⟩
  repeat (with_reducible first | refine c_seq ?_ | refine c_block ?_ | refine c_skip ?_ | refine x_then ?_ | refine x_block ?_)
  refine c_reg ?_
  refine l_pure rfl (s_move  h5 ?_)
  refine l_pure rfl (s_move  h0 ?_)
  refine l_pure rfl (s_lenr  rfl (ha.below hS.below) ⟨_, Tryd.underlying31⟩ ?_)
  refine l_pure rfl (s_lss  rfl rfl ?_)
  refine l_nil ?_
  repeat (with_reducible first | refine c_seq ?_ | refine c_block ?_ | refine c_skip ?_ | refine x_then ?_ | refine x_block ?_)
  by_cases hlt : i < A.length
  · refine c_yes rfl (decide_eq_true (by omega)) ?_
    repeat (with_reducible first | refine c_seq ?_ | refine c_block ?_ | refine c_skip ?_ | refine x_then ?_ | refine x_block ?_)
    refine c_draw [(0, .pure), (1, .pure), (2, .pure), (3, .read), (4, .pure), (5, .pure), (6, .pure), (7, .read), (8, .pure)] (by kernel_rfl) (by kernel_rfl) hS ?_
    intro wz1 hS hBz1
    refine w_pure rfl rfl (s_move  h0 ?_)
    refine w_pure rfl rfl (s_move  h5 ?_)
    refine w_pure rfl rfl (s_ixr (i := i)  rfl rfl (ha.below hS.below) (by omega) (by first | omega | (simp; done) | (simp; omega)) si_31 ?_)
    refine w_read rfl rfl (s_lde (i := i) 0  rfl vi_3 (ha.below hS.below) (by first | omega | (simp; done) | (simp; omega)) rfl rfl (.inr rfl) ?_)
    refine w_pure rfl rfl (s_move  h1 ?_)
    refine w_pure rfl rfl (s_move  h5 ?_)
    refine w_pure rfl rfl (s_ixr (i := i)  rfl rfl (hb.below hS.below) (by omega) (by first | omega | (simp; done) | (simp; omega)) si_31 ?_)
    refine w_read rfl rfl (s_lde (i := i) 0  rfl vi_3 (hb.below hS.below) (by first | omega | (simp; done) | (simp; omega)) rfl rfl (.inr rfl) ?_)
    refine w_pure rfl rfl (s_neq  rfl rfl ?_)
    refine w_end ?_
    repeat (with_reducible first | refine c_seq ?_ | refine c_block ?_ | refine c_skip ?_ | refine x_then ?_ | refine x_block ?_)
    refine c_no rfl (decide_eq_false (fun h => h rfl)) ?_
    repeat (with_reducible first | refine c_seq ?_ | refine c_block ?_ | refine c_skip ?_ | refine x_then ?_ | refine x_block ?_)
    refine c_reg ?_
    refine l_pure rfl (s_move  h5 ?_)
    refine l_pure rfl (s_add  rfl rfl (IntWalk.i64_in _ (by omega)) ?_)
    refine l_pure rfl (s_asg  rfl ?_)
    refine l_nil ?_
    repeat (with_reducible first | refine c_seq ?_ | refine c_block ?_ | refine c_skip ?_ | refine x_then ?_ | refine x_block ?_)
    exact ⟨i + 1, _, rfl, ⟨hlt, by assumption, by assumption, vi rfl (by omega), hS⟩, by omega⟩
  · refine c_no rfl (decide_eq_false (by omega)) ?_
    repeat (with_reducible first | refine c_seq ?_ | refine c_block ?_ | refine c_skip ?_ | refine x_then ?_ | refine x_block ?_)
    refine c_exit ?_
    repeat (with_reducible first | refine x_then_exit ?_ | refine x_block_exit ?_ | refine x_block_pass rfl ?_)
    repeat (with_reducible first | refine c_seq ?_ | refine c_block ?_ | refine c_skip ?_ | refine x_then ?_ | refine x_block ?_)
    refine c_reg ?_
    refine l_pure rfl (s_asg  rfl ?_)
    refine l_nil ?_
    repeat (with_reducible first | refine c_seq ?_ | refine c_block ?_ | refine c_skip ?_ | refine x_then ?_ | refine x_block ?_)
    refine c_ret ?_
    repeat (with_reducible first | refine x_then_ret ?_ | refine x_block_ret ?_)
    refine r_one rfl rfl ?_
    exact ⟨rfl, hS.below⟩
end Go.Proofs.YtblfipdfklpmmaaDoor
namespace Go.Proofs.YtblfipdfklpmmaaDoor
open Go Go.RowKit Go.Sx
def sgQ (x : Nat) : Rat := if x % 2 = 1 then - amtQ (x / 2) else amtQ (x / 2)
theorem L_sgQ (x : Nat) : L (sgQ x) ≤ 1 := by
  unfold sgQ
  split
  · rw [L_neg]; exact L_amtQ _
  · exact L_amtQ _
def matQ (l : List Nat) (cols : Nat) : Mx := fun i j => if i * cols + j < l.length then sgQ (l.getD (i * cols + j) 0) else 0
theorem L_matQ (l : List Nat) (cols i j : Nat) : L (matQ l cols i j) ≤ 1 := by
  unfold matQ
  split
  · exact L_sgQ _
  · rw [L_zero]; exact Nat.le_refl _
theorem Signed_ok (x : Nat) (w : World) (hx : x < 65536) :
    Ret Tryd.prog 8 #[.int .u16 x] w fun v w' => v = aggR (ofQ (sgQ x)) ∧ Below w.heap.size w w' := by
  have hS := St.init w
  refine enter Tryd.func8 rfl Tryd.ntmps8 rfl ?_
  repeat (with_reducible first | refine c_seq ?_ | refine c_block ?_ | refine c_skip ?_ | refine x_then ?_ | refine x_block ?_)
  refine c_reg ?_
  refine l_heavy rfl (s_alloc  vi_27 hS ?_)
  intro b2 wz1 hS hBz1
  refine l_nil ?_
  repeat (with_reducible first | refine c_seq ?_ | refine c_block ?_ | refine c_skip ?_ | refine x_then ?_ | refine x_block ?_)
  refine c_reg ?_
  refine l_pure rfl (s_move  rfl ?_)
  refine l_pure rfl (s_quo  rfl rfl (by omega) (quo_u16 x 2 hx) ?_)
  refine l_heavy rfl (s_call Tryd.call22 rfl (Amount_ok (x / 2) _ (by omega)) ?_)
  rintro _ wc2 ⟨rfl, hBc2⟩
  replace hS := hS.grow hBc2
  refine l_heavy rfl (s_alloc  vi_27 hS ?_)
  intro b3 wz3 hS hBz3
  refine l_heavy rfl (s_sta (k := 0)  rfl rfl vi_27 hS rfl rfl rfl (Nat.le_of_ble_eq_true rfl) rfl ?_)
  intro wz4 hS
  refine l_nil ?_
  repeat (with_reducible first | refine c_seq ?_ | refine c_block ?_ | refine c_skip ?_ | refine x_then ?_ | refine x_block ?_)
  refine c_reg ?_
  refine l_pure rfl (s_move  rfl ?_)
  refine l_pure rfl (s_rem  rfl rfl (by omega) (Int.tmod_eq_emod_of_nonneg (by omega)) ?_)
  refine l_pure rfl (s_eql  rfl rfl ?_)
  refine l_nil ?_
  repeat (with_reducible first | refine c_seq ?_ | refine c_block ?_ | refine c_skip ?_ | refine x_then ?_ | refine x_block ?_)
  by_cases h : x % 2 = 1
  · have e : sgQ x = - amtQ (x / 2) := if_pos h
    rw [e]
    refine c_yes rfl (decide_eq_true (by omega)) ?_
    repeat (with_reducible first | refine c_seq ?_ | refine c_block ?_ | refine c_skip ?_ | refine x_then ?_ | refine x_block ?_)
    refine c_reg ?_
    refine l_read rfl (s_ldo (k := 0)  rfl vi_27 hS rfl rfl rfl (.inl rfl) ?_)
    refine l_heavy rfl (s_call Tryd.call23 rfl (rOpposite_ok (amtQ (x / 2)) _) ?_)
    rintro _ wc5 ⟨rfl, hBc5⟩
    replace hS := hS.grow hBc5
    refine l_heavy rfl (s_sta (k := 1)  rfl rfl vi_27 hS rfl rfl rfl (Nat.le_of_ble_eq_true rfl) rfl ?_)
    intro wz6 hS
    refine l_nil ?_
    repeat (with_reducible first | refine c_seq ?_ | refine c_block ?_ | refine c_skip ?_ | refine x_then ?_ | refine x_block ?_)
    refine c_ret ?_
    repeat (with_reducible first | refine x_then_ret ?_ | refine x_block_ret ?_)
    refine r_cell (k := 1) rfl rfl vi_27 hS rfl rfl ?_
    exact ⟨rfl, hS.below⟩
  · have e : sgQ x = amtQ (x / 2) := if_neg h
    rw [e]
    refine c_no rfl (decide_eq_false (by omega)) ?_
    repeat (with_reducible first | refine c_seq ?_ | refine c_block ?_ | refine c_skip ?_ | refine x_then ?_ | refine x_block ?_)
    refine c_reg ?_
    refine l_read rfl (s_ldo (k := 0)  rfl vi_27 hS rfl rfl rfl (.inl rfl) ?_)
    refine l_heavy rfl (s_sta (k := 1)  rfl rfl vi_27 hS rfl rfl rfl (Nat.le_of_ble_eq_true rfl) rfl ?_)
    intro wz7 hS
    refine l_nil ?_
    repeat (with_reducible first | refine c_seq ?_ | refine c_block ?_ | refine c_skip ?_ | refine x_then ?_ | refine x_block ?_)
    refine c_ret ?_
    repeat (with_reducible first | refine x_then_ret ?_ | refine x_block_ret ?_)
    refine r_cell (k := 1) rfl rfl vi_27 hS rfl rfl ?_
    exact ⟨rfl, hS.below⟩
set_option maxHeartbeats 4000000 in
theorem Matrix_ok (n m : Nat) (vl : Value) (l : List Nat) (w : World) (hl : Sl (uk .u16) 1 w vl l) (hlb : ∀ x ∈ l, x < 65536) (hn1 : 1 ≤ n) (hn : n ≤ 16) (hm1 : 1 ≤ m) (hm : m ≤ 16) :
    Ret Tryd.prog 7 #[.int .i64 n, .int .i64 m, vl] w fun r w' => (∃ bo cap so R, r = .slice (some ⟨bo, 0, none⟩) n cap ∧ n ≤ cap ∧ cap ≤ 9223372036854775807 ∧ MatG R n m (qM (matQ l m)) ∧ St w w' (mD encR 27 30 bo (R.map Rw.v ++ so) R [])) ∧ Below w.heap.size w w' := by
  have hmx := hl.maxLen
  have hS := St.init w
  have hkm : ∀ i j, i < n → j ≤ m → i * m + j ≤ 16 * 16 + 16 := fun i j hi hj => by
    have := Nat.mul_le_mul (show i ≤ 16 by omega) hm
    omega
  refine enter Tryd.func7 rfl Tryd.ntmps7 rfl ?_
  repeat (with_reducible first | refine c_seq ?_ | refine c_block ?_ | refine c_skip ?_ | refine x_then ?_ | refine x_block ?_)
  refine c_reg ?_
  refine l_pure rfl (s_asg  rfl ?_)
  refine l_nil ?_
  repeat (with_reducible first | refine c_seq ?_ | refine c_block ?_ | refine c_skip ?_ | refine x_then ?_ | refine x_block ?_)
  refine c_reg ?_
  refine l_pure rfl (s_asg  rfl ?_)
  refine l_nil ?_
  repeat (with_reducible first | refine c_seq ?_ | refine c_block ?_ | refine c_skip ?_ | refine x_then ?_ | refine x_block ?_)
  refine c_reg ?_
  refine l_pure rfl (s_asg  rfl ?_)
  refine l_nil ?_
  repeat (with_reducible first | refine c_seq ?_ | refine c_block ?_ | refine c_skip ?_ | refine x_then ?_ | refine x_block ?_)
  refine c_reg ?_
  refine l_pure rfl (s_asg  rfl ?_)
  refine l_nil ?_
  repeat (with_reducible first | refine c_seq ?_ | refine c_block ?_ | refine c_skip ?_ | refine x_then ?_ | refine x_block ?_)
  refine c_loop (σ := Nat) (fun i ρ w' => i ≤ n ∧ ρ 0 = .int .i64 n ∧ ρ 1 = .int .i64 m ∧ ρ 2 = vl ∧ ρ 8 = .int .i64 (i * m : Nat) ∧ ρ 9 = .int .i64 i ∧ ∃ vo LO R, ρ 7 = vo ∧ MatG R i m (qM (matQ l m)) ∧ Gl enV 30 1 vo (R.map Rw.v) LO ∧ St w w' (R.map (Rw.blk encR 27) ++ LO)) (fun i => n - i) 0
    ⟨Nat.zero_le _, rfl, rfl, rfl, vi rfl (by omega), rfl, _, [], [], rfl, ⟨rfl, fun i hi => absurd hi (Nat.not_lt_zero _), fun i hi => absurd hi (Nat.not_lt_zero _)⟩, Gl.nil _ _ _, hS⟩ ?_
  clear hS
  rintro i ρ w2 ⟨hi, h0, h1, h2, h8, h9, vo, LO, R, h7, hR, hG, hS⟩
  have hvl : (R.map Rw.v).length = i := by rw [List.length_map, hR.len]
  repeat (with_reducible first | refine c_seq ?_ | refine c_block ?_ | refine c_skip ?_ | refine x_then ?_ | refine x_block ?_)
  refine c_reg ?_
  refine l_pure rfl (s_move  h9 ?_)
  refine l_pure rfl (s_move  h0 ?_)
  refine l_pure rfl (s_lss  rfl rfl ?_)
  refine l_nil ?_
  repeat (with_reducible first | refine c_seq ?_ | refine c_block ?_ | refine c_skip ?_ | refine x_then ?_ | refine x_block ?_)
  by_cases hlt : i < n
  · refine c_yes rfl (decide_eq_true (by omega)) ?_
    repeat (with_reducible first | refine c_seq ?_ | refine c_block ?_ | refine c_skip ?_ | refine x_then ?_ | refine x_block ?_)
    have hsm : (i + 1) * m = i * m + m := Nat.succ_mul i m
    repeat (with_reducible first | refine c_seq ?_ | refine c_block ?_ | refine c_skip ?_ | refine x_then ?_ | refine x_block ?_)
    refine c_reg ?_
    refine l_pure rfl (s_asg  rfl ?_)
    refine l_nil ?_
    repeat (with_reducible first | refine c_seq ?_ | refine c_block ?_ | refine c_skip ?_ | refine x_then ?_ | refine x_block ?_)
    refine c_reg ?_
    refine l_pure rfl (s_asg  rfl ?_)
    refine l_nil ?_
    repeat (with_reducible first | refine c_seq ?_ | refine c_skip ?_ | refine x_then ?_ | refine x_block ?_)
    refine c_cut1 (fun ρ w' => ρ 0 = .int .i64 n ∧ ρ 1 = .int .i64 m ∧ ρ 2 = vl ∧ ρ 7 = vo ∧ ρ 8 = .int .i64 ((i + 1) * m : Nat) ∧ ρ 9 = .int .i64 i ∧ ∃ sr Lr, ρ 10 = sr ∧ Gl encR 27 3 sr (tab m (qM (matQ l m) i)) Lr ∧ St w w' ((R.map (Rw.blk encR 27) ++ LO) ++ Lr)) ?_ ?_
    · repeat (with_reducible first | refine c_seq ?_ | refine c_block ?_ | refine c_skip ?_ | refine x_then ?_ | refine x_block ?_)
      refine c_loop (σ := Nat) (fun j ρ w' => j ≤ m ∧ ρ 0 = .int .i64 n ∧ ρ 1 = .int .i64 m ∧ ρ 2 = vl ∧ ρ 7 = vo ∧ ρ 8 = .int .i64 (i * m + j : Nat) ∧ ρ 9 = .int .i64 i ∧ ρ 11 = .int .i64 j ∧ ∃ sr Lr, ρ 10 = sr ∧ Gl encR 27 3 sr (tab j (qM (matQ l m) i)) Lr ∧ St w w' ((R.map (Rw.blk encR 27) ++ LO) ++ Lr)) (fun j => m - j) 0
        ⟨Nat.zero_le _, by assumption, by assumption, by assumption, by assumption, by assumption, by assumption, rfl, _, [], rfl, Gl.nil _ _ _, by rw [List.append_nil]; exact hS⟩ ?_
      clear hS
      rintro j ρ w3 ⟨hj, h0, h1, h2, h7, h8, h9, h11, sr, Lr, h10, hGr, hS⟩
      have htl := tab_len j (qM (matQ l m) i)
      have hkj := hkm i j hlt hj
      repeat (with_reducible first | refine c_seq ?_ | refine c_block ?_ | refine c_skip ?_ | refine x_then ?_ | refine x_block ?_)
      refine c_reg ?_
      refine l_pure rfl (s_move  h11 ?_)
      refine l_pure rfl (s_move  h1 ?_)
      refine l_pure rfl (s_lss  rfl rfl ?_)
      refine l_nil ?_
      repeat (with_reducible first | refine c_seq ?_ | refine c_block ?_ | refine c_skip ?_ | refine x_then ?_ | refine x_block ?_)
      by_cases hjl : j < m
      · refine c_yes rfl (decide_eq_true (by omega)) ?_
        repeat (with_reducible first | refine c_seq ?_ | refine c_block ?_ | refine c_skip ?_ | refine x_then ?_ | refine x_block ?_)
        refine c_reg ?_
        refine l_pure rfl (s_build  rfl bz_27 ?_)
        refine l_heavy rfl (s_alloc  vi_27 hS ?_)
        intro b12 wz1 hS hBz1
        refine l_heavy rfl (s_sta (k := 0)  rfl rfl vi_27 hS rfl rfl rfl (Nat.le_of_ble_eq_true rfl) rfl ?_)
        intro wz2 hS
        refine l_nil ?_
        repeat (with_reducible first | refine c_seq ?_ | refine c_block ?_ | refine c_skip ?_ | refine x_then ?_ | refine x_block ?_)
        replace hS : St w _ ((b12, 27, encR zRR) :: ((R.map (Rw.blk encR 27) ++ LO) ++ Lr)) := hS
        rw [encR_zero] at hS
        repeat (with_reducible first | refine c_seq ?_ | refine c_block ?_ | refine c_skip ?_ | refine x_then ?_ | refine x_block ?_)
        refine c_reg ?_
        refine l_pure rfl (s_move  h8 ?_)
        refine l_pure rfl (s_move  h2 ?_)
        refine l_pure rfl (s_lenr  rfl (hl.below hS.below) ⟨_, Tryd.underlying22⟩ ?_)
        refine l_pure rfl (s_lss  rfl rfl ?_)
        refine l_nil ?_
        repeat (with_reducible first | refine c_seq ?_ | refine c_block ?_ | refine c_skip ?_ | refine x_then ?_ | refine x_block ?_)
        refine c_cut1 (fun ρ w' => ρ 0 = .int .i64 n ∧ ρ 1 = .int .i64 m ∧ ρ 2 = vl ∧ ρ 7 = vo ∧ ρ 8 = .int .i64 (i * m + j : Nat) ∧ ρ 9 = .int .i64 i ∧ ρ 10 = sr ∧ ρ 11 = .int .i64 j ∧ ρ 12 = .pointer (some ⟨b12, 0, none⟩) ∧ St w w' (((b12, 27, encR (ofQ (matQ l m i j))) :: (R.map (Rw.blk encR 27) ++ LO)) ++ Lr)) ?_ ?_
        · by_cases hk : i * m + j < l.length
          · have e : matQ l m i j = sgQ (l.getD (i * m + j) 0) := if_pos hk
            rw [e]
            refine c_yes rfl (decide_eq_true (by omega)) ?_
            repeat (with_reducible first | refine c_seq ?_ | refine c_block ?_ | refine c_skip ?_ | refine x_then ?_ | refine x_block ?_)
            refine c_reg ?_
            refine l_pure rfl (s_move  h2 ?_)
            refine l_pure rfl (s_move  h8 ?_)
            refine l_pure rfl (s_ixr (i := (i * m + j))  rfl rfl (hl.below hS.below) (by omega) (by first | omega | (simp; done) | (simp; omega)) si_22 ?_)
            refine l_read rfl (s_lde (i := (i * m + j)) 0  rfl vi_23 (hl.below hS.below) (by first | omega | (simp; done) | (simp; omega)) rfl rfl (.inr rfl) ?_)
            refine l_heavy rfl (s_call Tryd.call8 rfl (Signed_ok (l.getD (i * m + j) 0) _ (hlb _ (getD_mem l _ 0 hk))) ?_)
            rintro _ wc3 ⟨rfl, hBc3⟩
            replace hS := hS.grow hBc3
            refine l_heavy rfl (s_sta (k := 0)  rfl rfl vi_27 hS rfl rfl rfl (Nat.le_of_ble_eq_true rfl) rfl ?_)
            intro wz4 hS
            refine l_nil ?_
            repeat (with_reducible first | refine c_seq ?_ | refine c_block ?_ | refine c_skip ?_ | refine x_then ?_ | refine x_block ?_)
            exact ⟨_, rfl, by assumption, by assumption, by assumption, by assumption, by assumption, by assumption, by assumption, by assumption, rfl, hS⟩
          · have e : matQ l m i j = 0 := if_neg hk
            rw [e]
            refine c_no rfl (decide_eq_false (by omega)) ?_
            repeat (with_reducible first | refine c_seq ?_ | refine c_block ?_ | refine c_skip ?_ | refine x_then ?_ | refine x_block ?_)
            exact ⟨_, rfl, by assumption, by assumption, by assumption, by assumption, by assumption, by assumption, by assumption, by assumption, rfl, hS⟩
        clear hS
        rintro ρ w4 ⟨h0, h1, h2, h7, h8, h9, h10, h11, h12, hS⟩
        repeat (with_reducible first | refine c_seq ?_ | refine c_block ?_ | refine c_skip ?_ | refine x_then ?_ | refine x_block ?_)
        refine c_reg ?_
        refine l_pure rfl (s_move  h8 ?_)
        refine l_pure rfl (s_add  rfl rfl (IntWalk.i64_in _ (by omega)) ?_)
        refine l_pure rfl (s_asg  rfl ?_)
        refine l_nil ?_
        repeat (with_reducible first | refine c_seq ?_ | refine c_block ?_ | refine c_skip ?_ | refine x_then ?_ | refine x_block ?_)
        refine c_reg ?_
        refine l_pure rfl (s_move  h10 ?_)
        refine l_read rfl (s_ldo (k := 0)  h12 vi_27 hS rfl rfl rfl (.inl rfl) ?_)
        refine l_heavy rfl (s_bsl (vs := [aggR (ofQ (matQ l m i j))])  rfl si_30 rfl (by decide) (by decide) (by decide) (by simp [Value.cells, aggR]) rfl hS ?_)
        intro b37 wz5 hS hBz5
        refine l_heavy rfl (s_appl [ofQ (matQ l m i j)]  rfl rfl si_30 (by decide) hGr hS rfl rfl encR_len (encR_one [ofQ (matQ l m i j)]) (by first | omega | (simp only [List.length_cons, List.length_nil]; omega)) (by first | omega | (simp only [List.length_cons, List.length_nil]; omega)) ?_)
        intro va6 La6 wa6 hGr hS hga6
        refine l_pure rfl (s_asg  rfl ?_)
        refine l_nil ?_
        repeat (with_reducible first | refine c_seq ?_ | refine c_block ?_ | refine c_skip ?_ | refine x_then ?_ | refine x_block ?_)
        rw [← tab_succ (f := qM (matQ l m) i)] at hGr
        replace hS := hS.drop (List.sublist_cons_self _ _)
        repeat (with_reducible first | refine c_seq ?_ | refine c_block ?_ | refine c_skip ?_ | refine x_then ?_ | refine x_block ?_)
        refine c_reg ?_
        refine l_pure rfl (s_move  h11 ?_)
        refine l_pure rfl (s_add  rfl rfl (IntWalk.i64_in _ (by omega)) ?_)
        refine l_pure rfl (s_asg  rfl ?_)
        refine l_nil ?_
        repeat (with_reducible first | refine c_seq ?_ | refine c_block ?_ | refine c_skip ?_ | refine x_then ?_ | refine x_block ?_)
        exact ⟨j + 1, _, rfl, ⟨hjl, by assumption, by assumption, by assumption, by assumption, vi rfl (by omega), by assumption, vi rfl (by omega), _, _, rfl, hGr, hS⟩, by omega⟩
      · refine c_no rfl (decide_eq_false (by omega)) ?_
        repeat (with_reducible first | refine c_seq ?_ | refine c_block ?_ | refine c_skip ?_ | refine x_then ?_ | refine x_block ?_)
        refine c_exit ?_
        repeat (with_reducible first | refine x_then_exit ?_ | refine x_block_exit ?_ | refine x_block_pass rfl ?_)
        repeat (with_reducible first | refine c_seq ?_ | refine c_block ?_ | refine c_skip ?_ | refine x_then ?_ | refine x_block ?_)
        obtain rfl : m = j := by omega
        exact ⟨_, rfl, h0, h1, h2, h7, vi h8 (by rw [hsm]), h9, _, Lr, h10, hGr, hS⟩
    clear hS
    rintro ρ w3 ⟨h0, h1, h2, h7, h8, h9, sr, Lr, h10, hGr, hS⟩
    obtain ⟨nr, hX, rfl, rfl, hc1, hc2, _⟩ := Gl_blk hGr (by intro e; have := congrArg List.length e; rw [tab_len] at this; simp at this; omega)
    replace hS := hS.perm (perm_row (R.map (Rw.blk encR 27)) LO (nr.blk encR 27))
    have hR2 := MatG_snoc hR hX ⟨by rw [hX, tab_len] at hc1; exact hc1, hc2⟩
    repeat (with_reducible first | refine c_seq ?_ | refine c_block ?_ | refine c_skip ?_ | refine x_then ?_ | refine x_block ?_)
    refine c_reg ?_
    refine l_pure rfl (s_move  h7 ?_)
    refine l_pure rfl (s_move  h10 ?_)
    refine l_heavy rfl (s_bsl (vs := [nr.v])  rfl si_24 rfl (by decide) (by decide) (by decide) (by simp [Value.cells, Rw.v]) rfl hS ?_)
    intro b41 wz7 hS hBz7
    refine l_heavy rfl (s_appl [nr.v]  rfl rfl si_24 (by decide) hG hS rfl rfl (fun _ => rfl) (fun u hu => by rw [List.mem_singleton.1 (show u ∈ [nr.v] from hu)]; rfl) (by first | omega | (simp only [List.length_cons, List.length_nil]; omega)) (by first | omega | (simp only [List.length_cons, List.length_nil]; omega)) ?_)
    intro va8 La8 wa8 hG hS hga8
    refine l_pure rfl (s_asg  rfl ?_)
    refine l_nil ?_
    repeat (with_reducible first | refine c_seq ?_ | refine c_block ?_ | refine c_skip ?_ | refine x_then ?_ | refine x_block ?_)
    rw [show R.map Rw.v ++ [nr.v] = (R ++ [nr]).map Rw.v by rw [List.map_append]; rfl] at hG
    have eb : ∀ T : List Blk, (nr.blk encR 27 :: R.map (Rw.blk encR 27) ++ T).Perm ((R ++ [nr]).map (Rw.blk encR 27) ++ T) := by
      intro T
      rw [List.map_append]
      exact List.Perm.append_right _ (List.perm_append_singleton _ _).symm
    replace hS := hS.perm (eb _)
    repeat (with_reducible first | refine c_seq ?_ | refine c_block ?_ | refine c_skip ?_ | refine x_then ?_ | refine x_block ?_)
    refine c_reg ?_
    refine l_pure rfl (s_move  h9 ?_)
    refine l_pure rfl (s_add  rfl rfl (IntWalk.i64_in _ (by omega)) ?_)
    refine l_pure rfl (s_asg  rfl ?_)
    refine l_nil ?_
    repeat (with_reducible first | refine c_seq ?_ | refine c_block ?_ | refine c_skip ?_ | refine x_then ?_ | refine x_block ?_)
    exact ⟨i + 1, _, rfl, ⟨hlt, by assumption, by assumption, by assumption, by assumption, vi rfl (by omega), _, _, R ++ [nr], rfl, hR2, hG, hS⟩, by omega⟩
  · refine c_no rfl (decide_eq_false (by omega)) ?_
    repeat (with_reducible first | refine c_seq ?_ | refine c_block ?_ | refine c_skip ?_ | refine x_then ?_ | refine x_block ?_)
    refine c_exit ?_
    repeat (with_reducible first | refine x_then_exit ?_ | refine x_block_exit ?_ | refine x_block_pass rfl ?_)
    repeat (with_reducible first | refine c_seq ?_ | refine c_block ?_ | refine c_skip ?_ | refine x_then ?_ | refine x_block ?_)
    obtain rfl : n = i := by omega
    obtain ⟨_, ⟨_, h2, _⟩ | ⟨bo, cap, so, rfl, rfl, h5, h6, _⟩⟩ := hG
    · omega
    · rw [enV_flat] at hS
      rw [hvl] at h7 h5
      repeat (with_reducible first | refine c_seq ?_ | refine c_block ?_ | refine c_skip ?_ | refine x_then ?_ | refine x_block ?_)
      refine c_reg ?_
      refine l_pure rfl (s_move  h7 ?_)
      refine l_pure rfl (s_asg  rfl ?_)
      refine l_nil ?_
      repeat (with_reducible first | refine c_seq ?_ | refine c_block ?_ | refine c_skip ?_ | refine x_then ?_ | refine x_block ?_)
      refine c_ret ?_
      repeat (with_reducible first | refine x_then_ret ?_ | refine x_block_ret ?_)
      refine r_one rfl rfl ?_
      refine ⟨⟨bo, cap, so, R, rfl, h5, by unfold Go.maxLen at h6; omega, hR, hS.perm ?_⟩, hS.below⟩
      unfold mD
      rw [List.append_nil]
      exact List.perm_append_singleton _ _
end Go.Proofs.YtblfipdfklpmmaaDoor
namespace Go.Proofs.YtblfipdfklpmmaaDoor
open Go Go.RowKit Go.Sx
def mkA (n m : Nat) (M : Mx) : List (List RR) := tabM n m (qM M)
theorem mkA_len (n m : Nat) (M : Mx) : (mkA n m M).length = n := tabM_len _ _ _
theorem mkA_row {n m : Nat} (M : Mx) {i : Nat} (hi : i < n) : (mkA n m M).getD i [] = tab m (qM M i) := tabM_row _ hi
theorem mkA_cols {n m : Nat} (M : Mx) (hn : 1 ≤ n) : colsA (mkA n m M) = m := by unfold colsA; rw [mkA_row M (by omega), tab_len]
theorem mkA_RM {n m : Nat} (M : Mx) {i j : Nat} (hi : i < n) (hj : j < m) : RM (mkA n m M) i j = M i j := by
  unfold RM
  rw [mkA_row M hi, tab_get _ _ hj]
  exact toQ_ofQ _
theorem mkA_even {n m : Nat} (M : Mx) (hn : 1 ≤ n) : evenA (mkA n m M) = true := List.all_eq_true.2 fun r hr => by
  obtain ⟨i, hi, rfl⟩ := tab_mem (show r ∈ tab n fun i => tab m (qM M i) from hr)
  rw [mkA_cols M hn, tab_len]
  exact decide_eq_true rfl
theorem mkA_shp {n m : Nat} (M : Mx) (hn : 1 ≤ n) (hn2 : n ≤ 16) (hm : 1 ≤ m) (hm2 : m ≤ 16) : shpE (mkA n m M) = 0 := by
  unfold shpE
  rw [mkA_len, mkA_cols M hn, if_neg (by omega), mkA_even M hn, if_neg (by decide), if_neg (by omega)]
theorem mkA_sq {n : Nat} (M : Mx) (hn : 1 ≤ n) (hn2 : n ≤ 16) : sqE (mkA n n M) = 0 := by
  unfold sqE
  rw [mkA_shp M hn hn2 hn hn2, if_neg (by decide), mkA_len, mkA_cols M hn, if_neg (by omega)]
theorem mkA_RB {n m K : Nat} {M : Mx} (h : ∀ i, i < n → ∀ j, j < m → L (M i j) ≤ K) : RBM K (mkA n m M) := fun a ha r hr => by
  obtain ⟨i, hi, rfl⟩ := tab_mem (show a ∈ tab n fun i => tab m (qM M i) from ha)
  obtain ⟨j, hj, rfl⟩ := tab_mem hr
  rw [Lr_ofQ]; exact h i hi j hj
section
variable {n : Nat} {M : Mx} {b : Nat → Rat}
end
theorem MatG_mkA {R : List (Rw RR)} {n m cap bo : Nat} {M : Mx} {so : List Value} {w0 w : World} {tR tS : TypeId} {H : List Blk} (h : MatG R n m (qM M)) (hS : St w0 w (mD encR tR tS bo (R.map Rw.v ++ so) R H)) (h1 : n ≤ cap) (h2 : cap ≤ 9223372036854775807) :
    Mts encR 3 w (.slice (some ⟨bo, 0, none⟩) n cap) (mkA n m M) (R.map Rw.v) := h.mtsD [] hS encR_len h1 h2
end Go.Proofs.YtblfipdfklpmmaaDoor
namespace Go.Proofs.YtblfipdfklpmmaaDoor
open Go Go.RowKit Go.Sx
def scK (M : Mx) (p : Nat) (f : Rat) (k : Nat) : Mx := fun a b => if a = p ∧ b < k then f * M a b else M a b
theorem mkA_dt {n : Nat} (M : Mx) (hn : 1 ≤ n) (hn2 : n ≤ 16) : dtQ (mkA n n M) = det n M := by
  unfold dtQ
  rw [if_pos (mkA_sq M hn hn2), mkA_len, detP_eq]
  exact det_congr fun i hi j hj => mkA_RM M hi hj
theorem det_scK {n p : Nat} (M : Mx) (f : Rat) (hp : p < n) : det n (scK M p f n) = f * det n M := by
  rw [← det_scale hp M f]
  refine det_congr fun i hi j hj => ?_
  unfold scK setR
  by_cases e : i = p
  · rw [if_pos ⟨e, hj⟩, if_pos e, e]
  · rw [if_neg (fun q => e q.1), if_neg e]
theorem mkA_dtL {n : Nat} {M : Mx} (hn : 1 ≤ n) (hn2 : n ≤ 5) (h : ∀ i, i < n → ∀ j, j < n → L (M i j) ≤ 1) : L (dtQ (mkA n n M)) ≤ 2048 := by
  unfold dtQ
  rw [if_pos (mkA_sq M hn (by omega)), mkA_len]
  unfold detP
  have h := (rdc_L (n := n) (m := n) (M := RM (mkA n n M)) (K := 1) (fun i hi j hj => by rw [mkA_RM _ hi hj]; exact h i hi j hj) n (Nat.le_refl _)).2
  have hp := (rinv n (RM (mkA n n M)) n).len
  have hmm := BB_mono 1 (r := (rdc n (RM (mkA n n M)) n).P.length) (s := 5) (by omega)
  have h5 : BB 1 5 = 2048 := by decide
  split
  · omega
  · rw [L_zero]; decide
set_option maxHeartbeats 4000000 in
theorem LinearScale_ok (x : Nat) (vl : Value) (l : List Nat) (y z : Nat) (w : World) (hl : Sl (uk .u16) 1 w vl l) (hlb : ∀ x ∈ l, x < 65536) (hy : y < 256) (hz : z < 65536) :
    Ret Tryd.prog 4 #[.int .u8 x, vl, .int .u8 y, .int .u16 z] w fun v w' => v = .bool true ∧ Below w.heap.size w w' := by
  have hM : MX = 1099511627776 := rfl
  obtain ⟨n, hn⟩ : ∃ n, n = 2 + x % 3 := ⟨_, rfl⟩
  have hn1 : 2 ≤ n := by omega
  have hn4 : n ≤ 4 := by omega
  obtain ⟨p, hp⟩ : ∃ p, p = y % n := ⟨_, rfl⟩
  have hpn : p < n := by rw [hp]; exact Nat.mod_lt _ (by omega)
  have hS := St.init w
  refine enter Tryd.func4 rfl Tryd.ntmps4 rfl ?_
  repeat (with_reducible first | refine c_seq ?_ | refine c_block ?_ | refine c_skip ?_ | refine x_then ?_ | refine x_block ?_)
  refine c_reg ?_
  refine l_pure rfl (s_asg  rfl ?_)
  refine l_nil ?_
  repeat (with_reducible first | refine c_seq ?_ | refine c_block ?_ | refine c_skip ?_ | refine x_then ?_ | refine x_block ?_)
  refine c_reg ?_
  refine l_pure rfl (s_move  rfl ?_)
  refine l_pure rfl (s_rem  rfl rfl (by omega) (r := ((x % 3 : Nat) : Int)) (by exact rem_nat x 3) ?_)
  refine l_pure rfl (s_conv  rfl Tryd.underlying3 ⟨_, Tryd.underlying5⟩ (IntWalk.i64_in _ (by omega)) ?_)
  refine l_pure rfl (s_add  rfl rfl (r := (n : Int)) (by rw [hn]; exact wr_i64 _ ⟨rfl, by omega, by omega⟩) ?_)
  refine l_pure rfl (s_asg  rfl ?_)
  refine l_nil ?_
  repeat (with_reducible first | refine c_seq ?_ | refine c_block ?_ | refine c_skip ?_ | refine x_then ?_ | refine x_block ?_)
  refine c_reg ?_
  refine l_pure rfl (s_move  rfl ?_)
  refine l_pure rfl (s_move  rfl ?_)
  refine l_pure rfl (s_move  rfl ?_)
  refine l_heavy rfl (s_call Tryd.call7 rfl (Matrix_ok n n vl l _ (hl.below hS.below) hlb (by omega) (by omega) (by omega) (by omega)) ?_)
  rintro r_ w1 ⟨⟨bo, cap, so, R, rfl, hc1, hc2, hR, hS1⟩, hB1⟩
  replace hS := hS.grow hB1
  have hm := MatG_mkA hR hS1 hc1 hc2
  clear hS1 hR
  refine l_pure rfl (s_asg  rfl ?_)
  refine l_nil ?_
  repeat (with_reducible first | refine c_seq ?_ | refine c_block ?_ | refine c_skip ?_ | refine x_then ?_ | refine x_block ?_)
  refine c_reg ?_
  refine l_pure rfl (s_move  rfl ?_)
  refine l_pure rfl (s_move  rfl ?_)
  refine l_pure rfl (s_move  rfl ?_)
  refine l_heavy rfl (s_call Tryd.call7 rfl (Matrix_ok n n vl l _ (hl.below hS.below) hlb (by omega) (by omega) (by omega) (by omega)) ?_)
  rintro r_ w2 ⟨⟨bo2, cap2, so2, R2, rfl, hd1, hd2, hR, hS2⟩, hB2⟩
  have hW := hS.below
  replace hl := hl.below hW
  clear hS
  replace hS : St w1 w2 ([] ++ mD encR 27 30 bo2 (R2.map Rw.v ++ so2) R2 []) := hS2
  clear hS2 hB2
  obtain ⟨M, hMd⟩ : ∃ M, M = matQ l n := ⟨_, rfl⟩
  have hLM : ∀ i j, L (M i j) ≤ 1 := fun i j => by rw [hMd]; exact L_matQ l n i j
  rw [← hMd] at hm hR
  refine l_pure rfl (s_asg  rfl ?_)
  refine l_nil ?_
  repeat (with_reducible first | refine c_seq ?_ | refine c_block ?_ | refine c_skip ?_ | refine x_then ?_ | refine x_block ?_)
  refine c_reg ?_
  refine l_pure rfl (s_move  rfl ?_)
  refine l_pure rfl (s_conv  rfl Tryd.underlying3 ⟨_, Tryd.underlying5⟩ (IntWalk.i64_in _ (by omega)) ?_)
  refine l_pure rfl (s_move  rfl ?_)
  refine l_pure rfl (s_rem  rfl rfl (by omega) (r := (p : Int)) (by rw [hp]; exact rem_nat y n) ?_)
  refine l_pure rfl (s_asg  rfl ?_)
  refine l_nil ?_
  repeat (with_reducible first | refine c_seq ?_ | refine c_block ?_ | refine c_skip ?_ | refine x_then ?_ | refine x_block ?_)
  refine c_reg ?_
  refine l_pure rfl (s_move  rfl ?_)
  refine l_heavy rfl (s_call Tryd.call8 rfl (Signed_ok z _ hz) ?_)
  rintro _ wc1 ⟨rfl, hBc1⟩
  replace hS := hS.grow hBc1
  refine l_heavy rfl (s_alloc  vi_27 hS ?_)
  intro b13 wz2 hS hBz2
  refine l_heavy rfl (s_sta (k := 0)  rfl rfl vi_27 hS rfl rfl rfl (Nat.le_of_ble_eq_true rfl) rfl ?_)
  intro wz3 hS
  refine l_nil ?_
  repeat (with_reducible first | refine c_seq ?_ | refine c_block ?_ | refine c_skip ?_ | refine x_then ?_ | refine x_block ?_)
  obtain ⟨f, hf⟩ : ∃ f, f = sgQ z := ⟨_, rfl⟩
  have hLf : L f ≤ 1 := by rw [hf]; exact L_sgQ z
  rw [← hf] at hS
  have hl2 : p < R2.length := by rw [hR.len]; exact hpn
  have htp := tab_len n (qM M p)
  replace hS : St w1 _ ([(b13, 27, encR (ofQ f))] ++ mD encR 27 30 bo2 (R2.map Rw.v ++ so2) R2 []) := hS
  repeat (with_reducible first | refine c_seq ?_ | refine c_block ?_ | refine c_skip ?_ | refine x_then ?_ | refine x_block ?_)
  refine c_reg ?_
  refine l_pure rfl (s_move  rfl ?_)
  refine l_pure rfl (s_move  rfl ?_)
  refine l_pure rfl (s_ixo (i := p)  rfl rfl (by omega) (by first | omega | (simp; done) | (simp; omega)) si_24 ?_)
  refine l_read rfl (s_mrowD [_]  rfl vi_30 hS (by omega) (mC_row hl2) ?_)
  refine l_pure rfl (s_lenr  rfl (hR.slD [_] hS encR_len hpn) ⟨_, Tryd.underlying30⟩ ?_)
  refine l_pure rfl (s_move  rfl ?_)
  refine l_nil ?_
  repeat (with_reducible first | refine c_seq ?_ | refine c_skip ?_ | refine x_then ?_ | refine x_block ?_)
  refine c_cut1 (fun ρ w' => ρ 9 = .int .i64 n ∧ ρ 10 = .slice (some ⟨bo, 0, none⟩) n cap ∧ ρ 11 = .slice (some ⟨bo2, 0, none⟩) n cap2 ∧ ρ 13 = .pointer (some ⟨b13, 0, none⟩) ∧ ρ 1 = vl ∧ ∃ R, MatG R n n (qM (scK M p f n)) ∧ St w1 w' ([(b13, 27, encR (ofQ f))] ++ mD encR 27 30 bo2 (R.map Rw.v ++ so2) R [])) ?_ ?_
  · repeat (with_reducible first | refine c_seq ?_ | refine c_block ?_ | refine c_skip ?_ | refine x_then ?_ | refine x_block ?_)
    refine c_loop (σ := Nat) (fun k ρ w' => k ≤ n ∧ ρ 1 = vl ∧ ρ 9 = .int .i64 n ∧ ρ 10 = .slice (some ⟨bo, 0, none⟩) n cap ∧ ρ 11 = .slice (some ⟨bo2, 0, none⟩) n cap2 ∧ ρ 12 = .int .i64 p ∧ ρ 13 = .pointer (some ⟨b13, 0, none⟩) ∧ ρ 44 = .int .i64 n ∧ ρ 45 = .int .i64 k ∧ ∃ R, MatG R n n (qM (scK M p f k)) ∧ St w1 w' ([(b13, 27, encR (ofQ f))] ++ mD encR 27 30 bo2 (R.map Rw.v ++ so2) R [])) (fun k => n - k) 0
      ⟨Nat.zero_le _, rfl, rfl, rfl, rfl, rfl, rfl, vi rfl (by omega), rfl, R2, hR.congr fun a _ b _ => by show ofQ (M a b) = ofQ (scK M p f 0 a b); unfold scK; rw [if_neg (by omega)], hS⟩ ?_
    clear hS hR hl2 htp
    rintro k ρ w3 ⟨hk, h1, h9, h10, h11, h12, h13, h44, h45, R, hR, hS⟩
    have hlp : p < R.length := by rw [hR.len]; exact hpn
    have htp := tab_len n (qM (scK M p f k) p)
    have hxp := hR.xlen hpn
    repeat (with_reducible first | refine c_seq ?_ | refine c_block ?_ | refine c_skip ?_ | refine x_then ?_ | refine x_block ?_)
    refine c_reg ?_
    refine l_pure rfl (s_lss  h45 h44 ?_)
    refine l_nil ?_
    repeat (with_reducible first | refine c_seq ?_ | refine c_block ?_ | refine c_skip ?_ | refine x_then ?_ | refine x_block ?_)
    by_cases hkn : k < n
    · refine c_yes rfl (decide_eq_true (by omega)) ?_
      repeat (with_reducible first | refine c_seq ?_ | refine c_block ?_ | refine c_skip ?_ | refine x_then ?_ | refine x_block ?_)
      have hg : (tab n (qM (scK M p f k) p)).getD k zRR = ofQ (M p k) := by
        rw [tab_get _ _ hkn]; show ofQ (scK M p f k p k) = _; unfold scK; rw [if_neg (by omega)]
      have hti := fun w => QMultiply_ok (ofQ f) (ofQ (M p k)) w (by rw [Lr_ofQ, Lr_ofQ]; have := hLM p k; omega)
      rw [toQ_ofQ, toQ_ofQ] at hti
      repeat (with_reducible first | refine c_seq ?_ | refine c_block ?_ | refine c_skip ?_ | refine x_then ?_ | refine x_block ?_)
      refine c_reg ?_
      refine l_pure rfl (s_move  h45 ?_)
      refine l_pure rfl (s_asg  rfl ?_)
      refine l_nil ?_
      repeat (with_reducible first | refine c_seq ?_ | refine c_block ?_ | refine c_skip ?_ | refine x_then ?_ | refine x_block ?_)
      refine c_draw [(0, .pure), (1, .pure), (2, .pure), (3, .read), (4, .pure), (5, .read), (6, .pure), (7, .pure), (8, .pure), (9, .read), (10, .pure), (11, .pure), (12, .read), (13, .grow), (14, .pure), (15, .free)] (by kernel_rfl) (by kernel_rfl) hS ?_
      intro wz4 hS hBz4
      refine w_pure rfl rfl (s_move  h11 ?_)
      refine w_pure rfl rfl (s_move  h12 ?_)
      refine w_pure rfl rfl (s_ixo (i := p)  rfl rfl (by omega) (by first | omega | (simp; done) | (simp; omega)) si_24 ?_)
      refine w_read rfl rfl (s_mrowD [_]  rfl vi_30 hS (by omega) (mC_row hlp) ?_)
      refine w_pure rfl rfl (s_move  rfl ?_)
      refine w_read rfl rfl (s_ldo (k := 0)  h13 vi_27 hS rfl rfl rfl (.inl rfl) ?_)
      refine w_pure rfl rfl (s_move  h11 ?_)
      refine w_pure rfl rfl (s_move  h12 ?_)
      refine w_pure rfl rfl (s_ixo (i := p)  rfl rfl (by omega) (by first | omega | (simp; done) | (simp; omega)) si_24 ?_)
      refine w_read rfl rfl (s_mrowD [_]  rfl vi_30 hS (by omega) (mC_row hlp) ?_)
      refine w_pure rfl rfl (s_move  rfl ?_)
      refine w_pure rfl rfl (s_ixr (i := k)  rfl rfl (hR.slD [_] hS encR_len hpn) (by omega) (by first | omega | (simp; done) | (simp; omega)) si_30 ?_)
      refine w_read rfl rfl (s_lde (i := k) zRR  rfl vi_27 (hR.slD [_] hS encR_len hpn) (by first | omega | (simp; done) | (simp; omega)) rfl rfl (.inl rfl) ?_)
      rw [hg]
      refine w_grow rfl rfl (s_call Tryd.call10 rfl (hti _) ?_)
      rintro _ wc5 ⟨rfl, hBc5⟩
      replace hS := hS.grow hBc5
      refine ⟨hBc5, ?_⟩
      refine w_pure rfl rfl (s_ixo (i := k)  rfl rfl (by omega) (by first | omega | (simp; done) | (simp; omega)) si_30 ?_)
      refine w_free rfl rfl (s_mstD [_] (i := p) (j := k) (ofQ (f * M p k)) encR_len  rfl rfl vi_27 hS rfl hlp (by omega) (by omega) rfl rfl ?_)
      intro wz6 hS
      refine w_end ?_
      repeat (with_reducible first | refine c_seq ?_ | refine c_block ?_ | refine c_skip ?_ | refine x_then ?_ | refine x_block ?_)
      rw [← map_put_v R k (ofQ (f * M p k)) hlp] at hS
      repeat (with_reducible first | refine c_seq ?_ | refine c_block ?_ | refine c_skip ?_ | refine x_then ?_ | refine x_block ?_)
      refine c_reg ?_
      refine l_pure rfl (s_add  h45 rfl (IntWalk.i64_in _ (by omega)) ?_)
      refine l_pure rfl (s_move  rfl ?_)
      refine l_nil ?_
      repeat (with_reducible first | refine c_seq ?_ | refine c_block ?_ | refine c_skip ?_ | refine x_then ?_ | refine x_block ?_)
      refine ⟨k + 1, _, rfl, ⟨hkn, by assumption, by assumption, by assumption, by assumption, by assumption, by assumption, by assumption, vi rfl (by omega), _, (hR.put hpn k (ofQ (f * M p k))).congr fun a _ b _ => ?_, hS⟩, by omega⟩
      show (if a = p ∧ b = k then ofQ (f * M p k) else ofQ (scK M p f k a b)) = ofQ (scK M p f (k + 1) a b)
      unfold scK
      by_cases g : a = p ∧ b = k
      · rw [if_pos g, if_pos (by omega), g.1, g.2]
      · rw [if_neg g]
        by_cases g2 : a = p ∧ b < k
        · rw [if_pos g2, if_pos (by omega)]
        · rw [if_neg g2, if_neg (by omega)]
    · refine c_no rfl (decide_eq_false (by omega)) ?_
      repeat (with_reducible first | refine c_seq ?_ | refine c_block ?_ | refine c_skip ?_ | refine x_then ?_ | refine x_block ?_)
      refine c_exit ?_
      repeat (with_reducible first | refine x_then_exit ?_ | refine x_block_exit ?_ | refine x_block_pass rfl ?_)
      repeat (with_reducible first | refine c_seq ?_ | refine c_block ?_ | refine c_skip ?_ | refine x_then ?_ | refine x_block ?_)
      obtain rfl : n = k := by omega
      exact ⟨_, rfl, h9, h10, h11, h13, h1, R, hR, hS⟩
  clear hS hR hl2 htp
  rintro ρ w3 ⟨h9, h10, h11, h13, h1, R, hR, hS⟩
  have hmb := hR.mtsD [_] hS encR_len hd1 hd2
  replace hS := hS.drop (List.sublist_append_left _ _)
  clear hR
  repeat (with_reducible first | refine c_seq ?_ | refine c_block ?_ | refine c_skip ?_ | refine x_then ?_ | refine x_block ?_)
  refine c_reg ?_
  refine l_pure rfl (s_move  h9 ?_)
  refine l_pure rfl (s_move  h9 ?_)
  refine l_pure rfl (s_move  h1 ?_)
  refine l_heavy rfl (s_call Tryd.call7 rfl (Matrix_ok n n vl l _ (hl.below (hS.below)) hlb (by omega) (by omega) (by omega) (by omega)) ?_)
  rintro r_ w4 ⟨⟨bo3, cap3, so3, R3, rfl, he1, he2, hR, hS2⟩, hB2⟩
  have hSb := hS
  clear hS
  replace hS : St w3 w4 ([] ++ mD encR 27 30 bo3 (R3.map Rw.v ++ so3) R3 []) := hS2
  clear hS2
  rw [← hMd] at hR
  have hl0 : 0 < R3.length := by rw [hR.len]; omega
  have hl1 : 1 < R3.length := by rw [hR.len]; omega
  have hcl : (R3.map Rw.v ++ so3).length = n + so3.length := by rw [List.length_append, List.length_map, hR.len]
  refine l_pure rfl (s_asg  rfl ?_)
  refine l_nil ?_
  repeat (with_reducible first | refine c_seq ?_ | refine c_block ?_ | refine c_skip ?_ | refine x_then ?_ | refine x_block ?_)
  refine c_draw [(0, .pure), (1, .pure), (2, .pure), (3, .pure), (4, .read), (5, .pure), (6, .pure), (7, .read), (8, .pure), (9, .free), (10, .pure), (11, .free)] (by kernel_rfl) (by kernel_rfl) hS ?_
  intro wz7 hS hBz7
  refine w_pure rfl rfl (s_move  rfl ?_)
  refine w_pure rfl rfl (s_move  rfl ?_)
  refine w_pure rfl rfl (s_move  rfl ?_)
  refine w_pure rfl rfl (s_ixo (i := 1)  rfl rfl (by omega) (by first | omega | (simp; done) | (simp; omega)) si_24 ?_)
  refine w_read rfl rfl (s_mrowD []  rfl vi_30 hS (by omega) (mC_row hl1) ?_)
  refine w_pure rfl rfl (s_move  rfl ?_)
  refine w_pure rfl rfl (s_ixo (i := 0)  rfl rfl (by omega) (by first | omega | (simp; done) | (simp; omega)) si_24 ?_)
  refine w_read rfl rfl (s_mrowD []  rfl vi_30 hS (by omega) (mC_row hl0) ?_)
  refine w_pure rfl rfl (s_ixo (i := 0)  rfl rfl (by omega) (by first | omega | (simp; done) | (simp; omega)) si_24 ?_)
  refine w_free rfl rfl (s_mrowstP [] (i := 0)  rfl rfl vi_30 hS (by omega) (by omega) (Rw_one _) ?_)
  intro wz8 hS
  refine w_pure rfl rfl (s_ixo (i := 1)  rfl rfl (by omega) (by first | omega | (simp; done) | (simp; omega)) si_24 ?_)
  refine w_free rfl rfl (s_mrowstP [] (i := 1)  rfl rfl vi_30 hS (by omega) (by rw [List.length_set]; omega) (Rw_one _) ?_)
  intro wz9 hS
  refine w_end ?_
  repeat (with_reducible first | refine c_seq ?_ | refine c_block ?_ | refine c_skip ?_ | refine x_then ?_ | refine x_block ?_)
  have hS2 := mC_swp (pre := []) (R := R3) (R0 := R3) rfl hl0 hl1 hS
  clear hS
  rename _ => hS
  have hR2 := (hR.swp (show 0 < n by omega) (show 1 < n by omega)).congr (g := qM (swpR M 0 1)) fun i _ j _ => by
    show (if i = 1 then ofQ (M 0 j) else if i = 0 then ofQ (M 1 j) else ofQ (M i j)) = ofQ (swpR M 0 1 i j)
    unfold swpR
    by_cases e : i = 0
    · rw [if_pos e, if_neg (by omega), if_pos e]
    · rw [if_neg e, if_neg e]
      split <;> rfl
  have hmc := hR2.mtsD [] hS encR_len he1 he2
  replace hm := hm.below (hSb.below.trans (hS.below.mono hSb.below.size))
  replace hmb := hmb.below hS.below
  replace hSb := hSb.grow hS.below
  clear hS hR hR2
  have hS := hSb
  clear hSb
  have ed1 := mkA_dt M (show 1 ≤ n by omega) (show n ≤ 16 by omega)
  have ed2 := mkA_dt (scK M p f n) (show 1 ≤ n by omega) (show n ≤ 16 by omega)
  have ed3 := mkA_dt (swpR M 0 1) (show 1 ≤ n by omega) (show n ≤ 16 by omega)
  rw [det_scK M f hpn, ← ed1] at ed2
  rw [det_swap (show 0 < n by omega) (show 1 < n by omega) (by decide) M, ← ed1] at ed3
  have es1 := mkA_sq M (show 1 ≤ n by omega) (show n ≤ 16 by omega)
  have es2 := mkA_sq (scK M p f n) (show 1 ≤ n by omega) (show n ≤ 16 by omega)
  have es3 := mkA_sq (swpR M 0 1) (show 1 ≤ n by omega) (show n ≤ 16 by omega)
  have hLd := mkA_dtL (M := M) (show 1 ≤ n by omega) (show n ≤ 5 by omega) fun i _ j _ => hLM i j
  have hA1 : RBM 4 (mkA n n M) := mkA_RB fun i _ j _ => Nat.le_trans (hLM i j) (by decide)
  have hA2 : RBM 4 (mkA n n (scK M p f n)) := mkA_RB fun i _ j _ => by
    unfold scK
    split
    · have := L_mul f (M i j); have := hLM i j; omega
    · have := hLM i j; omega
  have hA3 : RBM 4 (mkA n n (swpR M 0 1)) := mkA_RB fun i _ j _ => by
    unfold swpR
    have h1 := hLM 0 j
    have h2 := hLM 1 j
    have h3 := hLM i j
    split
    · omega
    · split <;> omega
  obtain ⟨A1, hA1d⟩ : ∃ A, A = mkA n n M := ⟨_, rfl⟩
  obtain ⟨A2, hA2d⟩ : ∃ A, A = mkA n n (scK M p f n) := ⟨_, rfl⟩
  obtain ⟨A3, hA3d⟩ : ∃ A, A = mkA n n (swpR M 0 1) := ⟨_, rfl⟩
  change Mts encR 3 _ _ (mkA n n (scK M p f n)) _ at hmb
  change Mts encR 3 _ _ (mkA n n (swpR M 0 1)) _ at hmc
  rw [← hA1d] at hm ed1 ed2 ed3 es1 hLd hA1
  rw [← hA2d] at hmb ed2 es2 hA2
  rw [← hA3d] at hmc ed3 es3 hA3
  have hWs := hW.trans (hS.below.mono hW.size)
  repeat (with_reducible first | refine c_seq ?_ | refine c_block ?_ | refine c_skip ?_ | refine x_then ?_ | refine x_block ?_)
  refine c_reg ?_
  refine l_pure rfl (s_move  h10 ?_)
  refine l_heavy rfl (s_call Tryd.call15 rfl (lDeterminant_ok _ A1 _ 4 _ hm hA1 (by decide)) ?_)
  rintro r_ w6 ⟨rfl, hB6⟩
  replace hS := hS.grow hB6
  replace hmb := hmb.below hB6
  replace hmc := hmc.below hB6
  rw [es1]
  have hSb := hS
  clear hS
  have hS := St.init w6
  refine l_pure rfl (s_move  rfl ?_)
  refine l_pure rfl (s_ext  rfl rfl ?_)
  refine l_pure rfl (s_ext  rfl rfl ?_)
  refine l_heavy rfl (s_alloc  vi_27 hS ?_)
  intro b16 wz10 hS hBz10
  refine l_heavy rfl (s_sta (k := 0)  rfl rfl vi_27 hS rfl rfl rfl (Nat.le_of_ble_eq_true rfl) rfl ?_)
  intro wz11 hS
  refine l_pure rfl (s_asg  rfl ?_)
  refine l_nil ?_
  repeat (with_reducible first | refine c_seq ?_ | refine c_block ?_ | refine c_skip ?_ | refine x_then ?_ | refine x_block ?_)
  refine c_reg ?_
  refine l_pure rfl (s_move  h11 ?_)
  refine l_heavy rfl (s_call Tryd.call15 rfl (lDeterminant_ok _ A2 _ 4 _ (hmb.below hS.below) hA2 (by decide)) ?_)
  rintro r_ w7 ⟨rfl, hB7⟩
  replace hS := hS.grow hB7
  rw [es2, ed2]
  refine l_pure rfl (s_move  rfl ?_)
  refine l_pure rfl (s_ext  rfl rfl ?_)
  refine l_pure rfl (s_ext  rfl rfl ?_)
  refine l_heavy rfl (s_alloc  vi_27 hS ?_)
  intro b18 wz12 hS hBz12
  refine l_heavy rfl (s_sta (k := 0)  rfl rfl vi_27 hS rfl rfl rfl (Nat.le_of_ble_eq_true rfl) rfl ?_)
  intro wz13 hS
  refine l_pure rfl (s_asg  rfl ?_)
  refine l_nil ?_
  repeat (with_reducible first | refine c_seq ?_ | refine c_block ?_ | refine c_skip ?_ | refine x_then ?_ | refine x_block ?_)
  refine c_reg ?_
  refine l_pure rfl (s_move  rfl ?_)
  refine l_heavy rfl (s_call Tryd.call15 rfl (lDeterminant_ok _ A3 _ 4 _ (hmc.below hS.below) hA3 (by decide)) ?_)
  rintro r_ w8 ⟨rfl, hB8⟩
  replace hS := hS.grow hB8
  rw [es3, ed3]
  refine l_pure rfl (s_move  rfl ?_)
  refine l_pure rfl (s_ext  rfl rfl ?_)
  refine l_pure rfl (s_ext  rfl rfl ?_)
  refine l_heavy rfl (s_alloc  vi_27 hS ?_)
  intro b20 wz14 hS hBz14
  refine l_heavy rfl (s_sta (k := 0)  rfl rfl vi_27 hS rfl rfl rfl (Nat.le_of_ble_eq_true rfl) rfl ?_)
  intro wz15 hS
  refine l_pure rfl (s_asg  rfl ?_)
  refine l_nil ?_
  repeat (with_reducible first | refine c_seq ?_ | refine c_block ?_ | refine c_skip ?_ | refine x_then ?_ | refine x_block ?_)
  obtain ⟨d, hd⟩ : ∃ d, d = dtQ A1 := ⟨_, rfl⟩
  rw [← hd] at hS hLd
  replace hS := hSb.join hS
  have hmu := fun w => QMultiply_ok (ofQ f) (ofQ d) w (by rw [Lr_ofQ, Lr_ofQ]; omega)
  have hne := fun w => QNegate_ok (ofQ d) w (by rw [Lr_ofQ]; omega)
  rw [toQ_ofQ, toQ_ofQ] at hmu
  rw [toQ_ofQ] at hne
  have haw := fun w => Lawake_ok w
  repeat (with_reducible first | refine c_seq ?_ | refine c_block ?_ | refine c_skip ?_ | refine x_then ?_ | refine x_block ?_)
  refine c_forget (fun ρ' => ρ' 13 = .pointer (some ⟨b13, 0, none⟩) ∧ ρ' 16 = .pointer (some ⟨b16, 0, none⟩) ∧ ρ' 17 = .int .i64 0 ∧ ρ' 18 = .pointer (some ⟨b18, 0, none⟩) ∧ ρ' 19 = .int .i64 0 ∧ ρ' 20 = .pointer (some ⟨b20, 0, none⟩) ∧ ρ' 21 = .int .i64 0 ∧ True) ⟨h13, rfl, rfl, rfl, rfl, rfl, rfl, trivial⟩ ?_
  rintro ρk16 ⟨hk16_13, hk16_16, hk16_17, hk16_18, hk16_19, hk16_20, hk16_21, -⟩
  repeat (with_reducible first | refine c_seq ?_ | refine c_block ?_ | refine c_skip ?_ | refine x_then ?_ | refine x_block ?_)
  refine c_draw [(0, .grow), (1, .pure), (2, .pure), (3, .pure), (4, .pure), (5, .pure), (6, .pure), (7, .pure), (8, .pure), (9, .pure), (10, .pure), (11, .pure), (12, .pure), (13, .pure), (14, .read), (15, .read), (16, .read), (17, .grow), (18, .pure), (19, .pure), (20, .pure), (21, .read), (22, .read), (23, .grow), (24, .pure), (25, .pure), (26, .pure)] (by kernel_rfl) (by kernel_rfl) hS ?_
  intro wz17 hS hBz17
  refine w_grow rfl rfl (s_call Tryd.call12 rfl (haw _) ?_)
  rintro _ wc18 ⟨rfl, hBc18⟩
  replace hS := hS.grow hBc18
  refine ⟨hBc18, ?_⟩
  refine w_pure rfl rfl (s_move  rfl ?_)
  refine w_pure rfl (gd_yes 94 (by kernel_rfl) rfl rfl) (s_move  hk16_17 ?_)
  refine w_pure rfl (gd_yes 94 (by kernel_rfl) rfl rfl) (s_eql  rfl rfl ?_)
  refine w_pure rfl rfl (s_pick (vb rfl rfl) rfl ?_)
  refine w_pure rfl rfl (s_move  rfl ?_)
  refine w_pure rfl (gd_yes 98 (by kernel_rfl) rfl (decide_eq_true rfl)) (s_move  hk16_19 ?_)
  refine w_pure rfl (gd_yes 98 (by kernel_rfl) rfl (decide_eq_true rfl)) (s_eql  rfl rfl ?_)
  refine w_pure rfl rfl (s_pick (vb rfl (decide_eq_true rfl)) rfl ?_)
  refine w_pure rfl rfl (s_move  rfl ?_)
  refine w_pure rfl (gd_yes 102 (by kernel_rfl) rfl (decide_eq_true rfl)) (s_move  hk16_21 ?_)
  refine w_pure rfl (gd_yes 102 (by kernel_rfl) rfl (decide_eq_true rfl)) (s_eql  rfl rfl ?_)
  refine w_pure rfl rfl (s_pick (vb rfl (decide_eq_true rfl)) rfl ?_)
  refine w_pure rfl rfl (s_move  rfl ?_)
  refine w_read rfl (gd_yes 106 (by kernel_rfl) rfl (decide_eq_true rfl)) (s_ldo (k := 1)  hk16_18 vi_27 hS rfl rfl rfl (.inl rfl) ?_)
  refine w_read rfl (gd_yes 106 (by kernel_rfl) rfl (decide_eq_true rfl)) (s_ldo (k := 3)  hk16_13 vi_27 hS rfl rfl rfl (.inl rfl) ?_)
  refine w_read rfl (gd_yes 106 (by kernel_rfl) rfl (decide_eq_true rfl)) (s_ldo (k := 2)  hk16_16 vi_27 hS rfl rfl rfl (.inl rfl) ?_)
  refine w_grow rfl (gd_yes 106 (by kernel_rfl) rfl (decide_eq_true rfl)) (s_call Tryd.call10 rfl (hmu _) ?_)
  rintro _ wc19 ⟨rfl, hBc19⟩
  replace hS := hS.grow hBc19
  refine ⟨hBc19, ?_⟩
  refine w_pure rfl (gd_yes 106 (by kernel_rfl) rfl (decide_eq_true rfl)) (s_eqR  rfl rfl ?_)
  refine w_pure rfl rfl (s_pick (vb rfl (decide_eq_true rfl)) rfl ?_)
  refine w_pure rfl rfl (s_move  rfl ?_)
  refine w_read rfl (gd_yes 113 (by kernel_rfl) rfl (decide_eq_true rfl)) (s_ldo (k := 0)  hk16_20 vi_27 hS rfl rfl rfl (.inl rfl) ?_)
  refine w_read rfl (gd_yes 113 (by kernel_rfl) rfl (decide_eq_true rfl)) (s_ldo (k := 2)  hk16_16 vi_27 hS rfl rfl rfl (.inl rfl) ?_)
  refine w_grow rfl (gd_yes 113 (by kernel_rfl) rfl (decide_eq_true rfl)) (s_call Tryd.call16 rfl (hne _) ?_)
  rintro _ wc20 ⟨rfl, hBc20⟩
  replace hS := hS.grow hBc20
  refine ⟨hBc20, ?_⟩
  refine w_pure rfl (gd_yes 113 (by kernel_rfl) rfl (decide_eq_true rfl)) (s_eqR  rfl rfl ?_)
  refine w_pure rfl rfl (s_pick (vb rfl (decide_eq_true rfl)) rfl ?_)
  refine w_pure rfl rfl (s_asg  rfl ?_)
  refine w_end ?_
  repeat (with_reducible first | refine c_seq ?_ | refine c_block ?_ | refine c_skip ?_ | refine x_then ?_ | refine x_block ?_)
  refine c_ret ?_
  repeat (with_reducible first | refine x_then_ret ?_ | refine x_block_ret ?_)
  refine r_one rfl rfl ?_
  exact ⟨vb rfl (decide_eq_true rfl), hW.trans (hS.below.mono hW.size)⟩
end Go.Proofs.YtblfipdfklpmmaaDoor
namespace Go.Proofs.YtblfipdfklpmmaaDoor
open Go Go.RowKit Go.Sx
def adK (M : Mx) (p q : Nat) (f : Rat) (k : Nat) : Mx := fun a b => if a = p ∧ p ≠ q ∧ b < k then M a b + f * M q b else M a b
theorem ker_congr {n m : Nat} {M N : Mx} (h : ∀ i, i < n → ∀ j, j < m → M i j = N i j) (x : Nat → Rat) : Ker n m M x ↔ Ker n m N x := by
  have e : ∀ i, i < n → dotM M x m i = dotM N x m i := fun i hi => sumF_congr fun j hj => by rw [h i hi j hj]
  exact ⟨fun g i hi => by rw [← e i hi]; exact g i hi, fun g i hi => by rw [e i hi]; exact g i hi⟩
theorem dot_adK (M : Mx) (x : Nat → Rat) (m : Nat) {p q : Nat} (f : Rat) (hpq : p ≠ q) (i : Nat) : dotM (adK M p q f m) x m i = if i = p then dotM M x m p + f * dotM M x m q else dotM M x m i := by
  unfold dotM
  by_cases h : i = p
  · rw [if_pos h, h, ← sumF_lin]
    exact sumF_congr fun j hj => by
      unfold adK
      rw [if_pos ⟨rfl, hpq, hj⟩]; grind
  · rw [if_neg h]
    exact sumF_congr fun j hj => by
      unfold adK
      rw [if_neg (fun g => h g.1)]
theorem ker_adK {n m p q : Nat} (hp : p < n) (hq : q < n) (M : Mx) (f : Rat) (x : Nat → Rat) : Ker n m (adK M p q f m) x ↔ Ker n m M x := by
  by_cases hpq : p = q
  · exact ker_congr (fun i _ j _ => by unfold adK; rw [if_neg (fun g => g.2.1 hpq)]) x
  · constructor
    · intro h i hi
      have hqq := h q hq
      rw [dot_adK M x m f hpq, if_neg (fun e => hpq e.symm)] at hqq
      by_cases e : i = p
      · have hpp := h p hp
        rw [dot_adK M x m f hpq, if_pos rfl, hqq] at hpp
        rw [e]; grind
      · have hii := h i hi
        rwa [dot_adK M x m f hpq, if_neg e] at hii
    · intro h i hi
      rw [dot_adK M x m f hpq]
      split
      · rw [h p hp, h q hq]; grind
      · exact h i hi
theorem swp0 (A : Mx) (q i j : Nat) : (if i = q then A 0 j else if i = 0 then A q j else A i j) = swpR A 0 q i j := by
  unfold swpR
  by_cases e : i = 0 <;> by_cases e2 : i = q <;> simp_all
theorem mkA_red {n m : Nat} {M N : Mx} (hn : 1 ≤ n) (hn2 : n ≤ 16) (hm : 1 ≤ m) (hm2 : m ≤ 16) (hk : ∀ x, Ker n m M x ↔ Ker n m N x) : rdL (mkA n m M) = rdL (mkA n m N) ∧ rdP (mkA n m M) = rdP (mkA n m N) := by
  have hk2 : ∀ x, Ker n m (RM (mkA n m M)) x ↔ Ker n m (RM (mkA n m N)) x := fun x =>
    (ker_congr (fun i hi j hj => mkA_RM M hi hj) x).trans ((hk x).trans (ker_congr (fun i hi j hj => mkA_RM N hi hj) x).symm)
  obtain ⟨hP, hM⟩ := rref_uniq hk2 m (Nat.le_refl _)
  have s1 := mkA_shp M hn hn2 hm hm2
  have s2 := mkA_shp N hn hn2 hm hm2
  unfold rdL rdP rdA
  rw [if_pos s1, if_pos s2, if_pos s1, if_pos s2, mkA_len, mkA_len, mkA_cols M hn, mkA_cols N hn]
  refine ⟨tab_congr fun i hi => tab_congr fun j hj => ?_, hP⟩
  show ofQ _ = ofQ _
  rw [hM i hi j hj]
set_option maxHeartbeats 4000000 in
theorem LinearRows_ok (x1 x2 : Nat) (vl : Value) (l : List Nat) (y1 y2 z : Nat) (w : World) (hl : Sl (uk .u16) 1 w vl l) (hlb : ∀ x ∈ l, x < 65536) (hy1 : y1 < 256) (hy2 : y2 < 256) (hz : z < 65536) :
    Ret Tryd.prog 3 #[.int .u8 x1, .int .u8 x2, vl, .int .u8 y1, .int .u8 y2, .int .u16 z] w fun v w' => v = .bool true ∧ Below w.heap.size w w' := by
  have hM : MX = 1099511627776 := rfl
  obtain ⟨n, hn⟩ : ∃ n, n = 2 + x1 % 3 := ⟨_, rfl⟩
  obtain ⟨m, hmd⟩ : ∃ m, m = 1 + x2 % 4 := ⟨_, rfl⟩
  have hn1 : 2 ≤ n := by omega
  have hn4 : n ≤ 4 := by omega
  have hm1 : 1 ≤ m := by omega
  have hm4 : m ≤ 4 := by omega
  obtain ⟨p, hp⟩ : ∃ p, p = y1 % n := ⟨_, rfl⟩
  have hpn : p < n := by rw [hp]; exact Nat.mod_lt _ (by omega)
  obtain ⟨q, hq⟩ : ∃ q, q = y2 % n := ⟨_, rfl⟩
  have hqn : q < n := by rw [hq]; exact Nat.mod_lt _ (by omega)
  have hS := St.init w
  refine enter Tryd.func3 rfl Tryd.ntmps3 rfl ?_
  repeat (with_reducible first | refine c_seq ?_ | refine c_block ?_ | refine c_skip ?_ | refine x_then ?_ | refine x_block ?_)
  refine c_reg ?_
  refine l_pure rfl (s_asg  rfl ?_)
  refine l_nil ?_
  repeat (with_reducible first | refine c_seq ?_ | refine c_block ?_ | refine c_skip ?_ | refine x_then ?_ | refine x_block ?_)
  refine c_reg ?_
  refine l_pure rfl (s_move  rfl ?_)
  refine l_pure rfl (s_rem  rfl rfl (by omega) (r := ((x1 % 3 : Nat) : Int)) (by exact rem_nat x1 3) ?_)
  refine l_pure rfl (s_conv  rfl Tryd.underlying3 ⟨_, Tryd.underlying5⟩ (IntWalk.i64_in _ (by omega)) ?_)
  refine l_pure rfl (s_add  rfl rfl (r := (n : Int)) (by rw [hn]; exact wr_i64 _ ⟨rfl, by omega, by omega⟩) ?_)
  refine l_pure rfl (s_move  rfl ?_)
  refine l_pure rfl (s_rem  rfl rfl (by omega) (r := ((x2 % 4 : Nat) : Int)) (by exact rem_nat x2 4) ?_)
  refine l_pure rfl (s_conv  rfl Tryd.underlying3 ⟨_, Tryd.underlying5⟩ (IntWalk.i64_in _ (by omega)) ?_)
  refine l_pure rfl (s_add  rfl rfl (r := (m : Int)) (by rw [hmd]; exact wr_i64 _ ⟨rfl, by omega, by omega⟩) ?_)
  refine l_pure rfl (s_asg  rfl ?_)
  refine l_pure rfl (s_asg  rfl ?_)
  refine l_nil ?_
  repeat (with_reducible first | refine c_seq ?_ | refine c_block ?_ | refine c_skip ?_ | refine x_then ?_ | refine x_block ?_)
  refine c_reg ?_
  refine l_pure rfl (s_move  rfl ?_)
  refine l_pure rfl (s_move  rfl ?_)
  refine l_pure rfl (s_move  rfl ?_)
  refine l_heavy rfl (s_call Tryd.call7 rfl (Matrix_ok n m vl l _ (hl.below hS.below) hlb (by omega) (by omega) (by omega) (by omega)) ?_)
  rintro r_ w1 ⟨⟨bo, cap, so, R, rfl, hc1, hc2, hR, hS1⟩, hB1⟩
  replace hS := hS.grow hB1
  have hm := MatG_mkA hR hS1 hc1 hc2
  clear hS1 hR
  refine l_pure rfl (s_asg  rfl ?_)
  refine l_nil ?_
  repeat (with_reducible first | refine c_seq ?_ | refine c_block ?_ | refine c_skip ?_ | refine x_then ?_ | refine x_block ?_)
  refine c_reg ?_
  refine l_pure rfl (s_move  rfl ?_)
  refine l_pure rfl (s_move  rfl ?_)
  refine l_pure rfl (s_move  rfl ?_)
  refine l_heavy rfl (s_call Tryd.call7 rfl (Matrix_ok n m vl l _ (hl.below hS.below) hlb (by omega) (by omega) (by omega) (by omega)) ?_)
  rintro r_ w2 ⟨⟨bo2, cap2, so2, R2, rfl, hd1, hd2, hR, hS2⟩, hB2⟩
  have hW := hS.below
  clear hS
  replace hS : St w1 w2 ([] ++ mD encR 27 30 bo2 (R2.map Rw.v ++ so2) R2 []) := hS2
  clear hS2 hB2
  obtain ⟨M, hMd⟩ : ∃ M, M = matQ l m := ⟨_, rfl⟩
  have hLM : ∀ i j, L (M i j) ≤ 1 := fun i j => by rw [hMd]; exact L_matQ l m i j
  rw [← hMd] at hm hR
  refine l_pure rfl (s_asg  rfl ?_)
  refine l_nil ?_
  repeat (with_reducible first | refine c_seq ?_ | refine c_block ?_ | refine c_skip ?_ | refine x_then ?_ | refine x_block ?_)
  refine c_draw [(0, .pure), (1, .pure), (2, .pure), (3, .pure), (4, .pure), (5, .pure), (6, .pure), (7, .pure), (8, .pure), (9, .pure)] (by kernel_rfl) (by kernel_rfl) hS ?_
  intro wz1 hS hBz1
  refine w_pure rfl rfl (s_move  rfl ?_)
  refine w_pure rfl rfl (s_conv  rfl Tryd.underlying3 ⟨_, Tryd.underlying5⟩ (IntWalk.i64_in _ (by omega)) ?_)
  refine w_pure rfl rfl (s_move  rfl ?_)
  refine w_pure rfl rfl (s_rem  rfl rfl (by omega) (r := (p : Int)) (by rw [hp]; exact rem_nat y1 n) ?_)
  refine w_pure rfl rfl (s_move  rfl ?_)
  refine w_pure rfl rfl (s_conv  rfl Tryd.underlying3 ⟨_, Tryd.underlying5⟩ (IntWalk.i64_in _ (by omega)) ?_)
  refine w_pure rfl rfl (s_move  rfl ?_)
  refine w_pure rfl rfl (s_rem  rfl rfl (by omega) (r := (q : Int)) (by rw [hq]; exact rem_nat y2 n) ?_)
  refine w_pure rfl rfl (s_asg  rfl ?_)
  refine w_pure rfl rfl (s_asg  rfl ?_)
  refine w_end ?_
  repeat (with_reducible first | refine c_seq ?_ | refine c_block ?_ | refine c_skip ?_ | refine x_then ?_ | refine x_block ?_)
  refine c_reg ?_
  refine l_pure rfl (s_move  rfl ?_)
  refine l_heavy rfl (s_call Tryd.call8 rfl (Signed_ok z _ hz) ?_)
  rintro _ wc2 ⟨rfl, hBc2⟩
  replace hS := hS.grow hBc2
  refine l_heavy rfl (s_alloc  vi_27 hS ?_)
  intro b19 wz3 hS hBz3
  refine l_heavy rfl (s_sta (k := 0)  rfl rfl vi_27 hS rfl rfl rfl (Nat.le_of_ble_eq_true rfl) rfl ?_)
  intro wz4 hS
  refine l_nil ?_
  repeat (with_reducible first | refine c_seq ?_ | refine c_block ?_ | refine c_skip ?_ | refine x_then ?_ | refine x_block ?_)
  obtain ⟨f, hf⟩ : ∃ f, f = sgQ z := ⟨_, rfl⟩
  have hLf : L f ≤ 1 := by rw [hf]; exact L_sgQ z
  rw [← hf] at hS
  replace hS : St w1 _ ([(b19, 27, encR (ofQ f))] ++ mD encR 27 30 bo2 (R2.map Rw.v ++ so2) R2 []) := hS
  repeat (with_reducible first | refine c_seq ?_ | refine c_block ?_ | refine c_skip ?_ | refine x_then ?_ | refine x_block ?_)
  refine c_reg ?_
  refine l_pure rfl (s_asg  rfl ?_)
  refine l_nil ?_
  repeat (with_reducible first | refine c_seq ?_ | refine c_skip ?_ | refine x_then ?_ | refine x_block ?_)
  refine c_cut1 (fun ρ w' => ρ 15 = .slice (some ⟨bo, 0, none⟩) n cap ∧ ρ 16 = .slice (some ⟨bo2, 0, none⟩) n cap2 ∧ ρ 18 = .int .i64 q ∧ ∃ R, MatG R n m (qM (adK M p q f m)) ∧ St w1 w' ([(b19, 27, encR (ofQ f))] ++ mD encR 27 30 bo2 (R.map Rw.v ++ so2) R [])) ?_ ?_
  · repeat (with_reducible first | refine c_seq ?_ | refine c_block ?_ | refine c_skip ?_ | refine x_then ?_ | refine x_block ?_)
    refine c_loop (σ := Nat) (fun k ρ w' => k ≤ m ∧ ρ 14 = .int .i64 m ∧ ρ 15 = .slice (some ⟨bo, 0, none⟩) n cap ∧ ρ 16 = .slice (some ⟨bo2, 0, none⟩) n cap2 ∧ ρ 17 = .int .i64 p ∧ ρ 18 = .int .i64 q ∧ ρ 19 = .pointer (some ⟨b19, 0, none⟩) ∧ ρ 20 = .int .i64 k ∧ ∃ R, MatG R n m (qM (adK M p q f k)) ∧ St w1 w' ([(b19, 27, encR (ofQ f))] ++ mD encR 27 30 bo2 (R.map Rw.v ++ so2) R [])) (fun k => m - k) 0
      ⟨Nat.zero_le _, rfl, rfl, rfl, rfl, rfl, rfl, rfl, R2, hR.congr fun a _ b _ => by show ofQ (M a b) = ofQ (adK M p q f 0 a b); unfold adK; rw [if_neg (by omega)], hS⟩ ?_
    clear hS hR
    rintro k ρ w3 ⟨hk, h14, h15, h16, h17, h18, h19, h20, R, hR, hS⟩
    have hlp : p < R.length := by rw [hR.len]; exact hpn
    have hlq : q < R.length := by rw [hR.len]; exact hqn
    have htp := tab_len m (qM (adK M p q f k) p)
    have htq := tab_len m (qM (adK M p q f k) q)
    have hxp := hR.xlen hpn
    repeat (with_reducible first | refine c_seq ?_ | refine c_block ?_ | refine c_skip ?_ | refine x_then ?_ | refine x_block ?_)
    by_cases hkm : k < m
    · repeat (with_reducible first | refine c_seq ?_ | refine c_block ?_ | refine c_skip ?_ | refine x_then ?_ | refine x_block ?_)
      refine c_reg ?_
      refine l_pure rfl (s_move  h20 ?_)
      refine l_pure rfl (s_move  h14 ?_)
      refine l_pure rfl (s_lss  rfl rfl ?_)
      refine l_pure rfl (s_move  rfl ?_)
      refine l_pure (gd_yes 56 (by kernel_rfl) rfl (decide_eq_true (by omega))) (s_move  h17 ?_)
      refine l_pure (gd_yes 56 (by kernel_rfl) rfl (decide_eq_true (by omega))) (s_move  h18 ?_)
      refine l_pure (gd_yes 56 (by kernel_rfl) rfl (decide_eq_true (by omega))) (s_neq  rfl rfl ?_)
      refine l_pure rfl (s_pick (vb rfl (decide_eq_true (by omega))) rfl ?_)
      refine l_nil ?_
      repeat (with_reducible first | refine c_seq ?_ | refine c_block ?_ | refine c_skip ?_ | refine x_then ?_ | refine x_block ?_)
      by_cases hpq : p = q
      · refine c_no rfl (decide_eq_false (by omega)) ?_
        repeat (with_reducible first | refine c_seq ?_ | refine c_block ?_ | refine c_skip ?_ | refine x_then ?_ | refine x_block ?_)
        refine c_exit ?_
        repeat (with_reducible first | refine x_then_exit ?_ | refine x_block_exit ?_ | refine x_block_pass rfl ?_)
        repeat (with_reducible first | refine c_seq ?_ | refine c_block ?_ | refine c_skip ?_ | refine x_then ?_ | refine x_block ?_)
        refine ⟨_, rfl, h15, h16, h18, R, hR.congr fun a _ b _ => ?_, hS⟩
        show ofQ (adK M p q f k a b) = ofQ (adK M p q f m a b)
        unfold adK
        rw [if_neg (fun g => g.2.1 hpq), if_neg (fun g => g.2.1 hpq)]
      · refine c_yes rfl (decide_eq_true (by omega)) ?_
        repeat (with_reducible first | refine c_seq ?_ | refine c_block ?_ | refine c_skip ?_ | refine x_then ?_ | refine x_block ?_)
        have g1 : (tab m (qM (adK M p q f k) p)).getD k zRR = ofQ (M p k) := by
          rw [tab_get _ _ hkm]; show ofQ (adK M p q f k p k) = _; unfold adK; rw [if_neg (by omega)]
        have g2 : (tab m (qM (adK M p q f k) q)).getD k zRR = ofQ (M q k) := by
          rw [tab_get _ _ hkm]; show ofQ (adK M p q f k q k) = _; unfold adK; rw [if_neg (by omega)]
        have q1 := hLM p k
        have q2 := hLM q k
        have q3 := L_mul f (M q k)
        have hti := fun w => QMultiply_ok (ofQ f) (ofQ (M q k)) w (by rw [Lr_ofQ, Lr_ofQ]; omega)
        rw [toQ_ofQ, toQ_ofQ] at hti
        have had := fun w => QAdd_ok (ofQ (M p k)) (ofQ (f * M q k)) w (by rw [Lr_ofQ, Lr_ofQ]; omega)
        rw [toQ_ofQ, toQ_ofQ] at had
        repeat (with_reducible first | refine c_seq ?_ | refine c_block ?_ | refine c_skip ?_ | refine x_then ?_ | refine x_block ?_)
        refine c_draw [(0, .pure), (1, .pure), (2, .pure), (3, .read), (4, .pure), (5, .pure), (6, .pure), (7, .pure), (8, .read), (9, .pure), (10, .pure), (11, .read), (12, .read), (13, .pure), (14, .pure), (15, .pure), (16, .read), (17, .pure), (18, .pure), (19, .read), (20, .grow), (21, .grow), (22, .pure), (23, .free)] (by kernel_rfl) (by kernel_rfl) hS ?_
        intro wz5 hS hBz5
        refine w_pure rfl rfl (s_move  h16 ?_)
        refine w_pure rfl rfl (s_move  h17 ?_)
        refine w_pure rfl rfl (s_ixo (i := p)  rfl rfl (by omega) (by first | omega | (simp; done) | (simp; omega)) si_24 ?_)
        refine w_read rfl rfl (s_mrowD [_]  rfl vi_30 hS (by omega) (mC_row hlp) ?_)
        refine w_pure rfl rfl (s_move  h20 ?_)
        refine w_pure rfl rfl (s_move  h16 ?_)
        refine w_pure rfl rfl (s_move  h17 ?_)
        refine w_pure rfl rfl (s_ixo (i := p)  rfl rfl (by omega) (by first | omega | (simp; done) | (simp; omega)) si_24 ?_)
        refine w_read rfl rfl (s_mrowD [_]  rfl vi_30 hS (by omega) (mC_row hlp) ?_)
        refine w_pure rfl rfl (s_move  h20 ?_)
        refine w_pure rfl rfl (s_ixr (i := k)  rfl rfl (hR.slD [_] hS encR_len hpn) (by omega) (by first | omega | (simp; done) | (simp; omega)) si_30 ?_)
        refine w_read rfl rfl (s_lde (i := k) zRR  rfl vi_27 (hR.slD [_] hS encR_len hpn) (by first | omega | (simp; done) | (simp; omega)) rfl rfl (.inl rfl) ?_)
        refine w_read rfl rfl (s_ldo (k := 0)  h19 vi_27 hS rfl rfl rfl (.inl rfl) ?_)
        refine w_pure rfl rfl (s_move  h16 ?_)
        refine w_pure rfl rfl (s_move  h18 ?_)
        refine w_pure rfl rfl (s_ixo (i := q)  rfl rfl (by omega) (by first | omega | (simp; done) | (simp; omega)) si_24 ?_)
        refine w_read rfl rfl (s_mrowD [_]  rfl vi_30 hS (by omega) (mC_row hlq) ?_)
        refine w_pure rfl rfl (s_move  h20 ?_)
        refine w_pure rfl rfl (s_ixr (i := k)  rfl rfl (hR.slD [_] hS encR_len hqn) (by omega) (by first | omega | (simp; done) | (simp; omega)) si_30 ?_)
        refine w_read rfl rfl (s_lde (i := k) zRR  rfl vi_27 (hR.slD [_] hS encR_len hqn) (by first | omega | (simp; done) | (simp; omega)) rfl rfl (.inl rfl) ?_)
        rw [g1, g2]
        refine w_grow rfl rfl (s_call Tryd.call10 rfl (hti _) ?_)
        rintro _ wc6 ⟨rfl, hBc6⟩
        replace hS := hS.grow hBc6
        refine ⟨hBc6, ?_⟩
        refine w_grow rfl rfl (s_call Tryd.call9 rfl (had _) ?_)
        rintro _ wc7 ⟨rfl, hBc7⟩
        replace hS := hS.grow hBc7
        refine ⟨hBc7, ?_⟩
        refine w_pure rfl rfl (s_ixo (i := k)  rfl rfl (by omega) (by first | omega | (simp; done) | (simp; omega)) si_30 ?_)
        refine w_free rfl rfl (s_mstD [_] (i := p) (j := k) (ofQ (M p k + f * M q k)) encR_len  rfl rfl vi_27 hS rfl hlp (by omega) (by omega) rfl rfl ?_)
        intro wz8 hS
        refine w_end ?_
        repeat (with_reducible first | refine c_seq ?_ | refine c_block ?_ | refine c_skip ?_ | refine x_then ?_ | refine x_block ?_)
        rw [← map_put_v R k (ofQ (M p k + f * M q k)) hlp] at hS
        repeat (with_reducible first | refine c_seq ?_ | refine c_block ?_ | refine c_skip ?_ | refine x_then ?_ | refine x_block ?_)
        refine c_reg ?_
        refine l_pure rfl (s_move  h20 ?_)
        refine l_pure rfl (s_add  rfl rfl (IntWalk.i64_in _ (by omega)) ?_)
        refine l_pure rfl (s_asg  rfl ?_)
        refine l_nil ?_
        repeat (with_reducible first | refine c_seq ?_ | refine c_block ?_ | refine c_skip ?_ | refine x_then ?_ | refine x_block ?_)
        refine ⟨k + 1, _, rfl, ⟨hkm, by assumption, by assumption, by assumption, by assumption, by assumption, by assumption, vi rfl (by omega), _, (hR.put hpn k (ofQ (M p k + f * M q k))).congr fun a _ b _ => ?_, hS⟩, by omega⟩
        show (if a = p ∧ b = k then ofQ (M p k + f * M q k) else ofQ (adK M p q f k a b)) = ofQ (adK M p q f (k + 1) a b)
        unfold adK
        by_cases g : a = p ∧ b = k
        · rw [if_pos g, if_pos (by omega), g.1, g.2]
        · rw [if_neg g]
          by_cases g2 : a = p ∧ p ≠ q ∧ b < k
          · rw [if_pos g2, if_pos (by omega)]
          · rw [if_neg g2, if_neg (by omega)]
    · repeat (with_reducible first | refine c_seq ?_ | refine c_block ?_ | refine c_skip ?_ | refine x_then ?_ | refine x_block ?_)
      refine c_reg ?_
      refine l_pure rfl (s_move  h20 ?_)
      refine l_pure rfl (s_move  h14 ?_)
      refine l_pure rfl (s_lss  rfl rfl ?_)
      refine l_pure rfl (s_move  rfl ?_)
      refine l_no (gno_yes 56 (by kernel_rfl) rfl (decide_eq_false (by omega))) ?_
      refine l_no (gno_yes 56 (by kernel_rfl) rfl (decide_eq_false (by omega))) ?_
      refine l_no (gno_yes 56 (by kernel_rfl) rfl (decide_eq_false (by omega))) ?_
      refine l_pure rfl (s_pick (vb rfl (decide_eq_false (by omega))) rfl ?_)
      refine l_nil ?_
      repeat (with_reducible first | refine c_seq ?_ | refine c_block ?_ | refine c_skip ?_ | refine x_then ?_ | refine x_block ?_)
      refine c_no rfl (rfl) ?_
      repeat (with_reducible first | refine c_seq ?_ | refine c_block ?_ | refine c_skip ?_ | refine x_then ?_ | refine x_block ?_)
      refine c_exit ?_
      repeat (with_reducible first | refine x_then_exit ?_ | refine x_block_exit ?_ | refine x_block_pass rfl ?_)
      repeat (with_reducible first | refine c_seq ?_ | refine c_block ?_ | refine c_skip ?_ | refine x_then ?_ | refine x_block ?_)
      obtain rfl : m = k := by omega
      exact ⟨_, rfl, h15, h16, h18, R, hR, hS⟩
  clear hS hR
  rintro ρ w3 ⟨h15, h16, h18, R, hR, hS⟩
  have hl0 : 0 < R.length := by rw [hR.len]; omega
  have hlq : q < R.length := by rw [hR.len]; exact hqn
  have hcl : (R.map Rw.v ++ so2).length = n + so2.length := by rw [List.length_append, List.length_map, hR.len]
  repeat (with_reducible first | refine c_seq ?_ | refine c_block ?_ | refine c_skip ?_ | refine x_then ?_ | refine x_block ?_)
  refine c_draw [(0, .pure), (1, .pure), (2, .pure), (3, .pure), (4, .pure), (5, .pure), (6, .read), (7, .pure), (8, .pure), (9, .read), (10, .pure), (11, .free), (12, .pure), (13, .free)] (by kernel_rfl) (by kernel_rfl) hS ?_
  intro wz9 hS hBz9
  refine w_pure rfl rfl (s_move  h16 ?_)
  refine w_pure rfl rfl (s_move  h16 ?_)
  refine w_pure rfl rfl (s_move  h18 ?_)
  refine w_pure rfl rfl (s_move  h16 ?_)
  refine w_pure rfl rfl (s_move  h18 ?_)
  refine w_pure rfl rfl (s_ixo (i := q)  rfl rfl (by omega) (by first | omega | (simp; done) | (simp; omega)) si_24 ?_)
  refine w_read rfl rfl (s_mrowD [_]  rfl vi_30 hS (by omega) (mC_row hlq) ?_)
  refine w_pure rfl rfl (s_move  h16 ?_)
  refine w_pure rfl rfl (s_ixo (i := 0)  rfl rfl (by omega) (by first | omega | (simp; done) | (simp; omega)) si_24 ?_)
  refine w_read rfl rfl (s_mrowD [_]  rfl vi_30 hS (by omega) (mC_row hl0) ?_)
  refine w_pure rfl rfl (s_ixo (i := 0)  rfl rfl (by omega) (by first | omega | (simp; done) | (simp; omega)) si_24 ?_)
  refine w_free rfl rfl (s_mrowstP [_] (i := 0)  rfl rfl vi_30 hS (by omega) (by omega) (Rw_one _) ?_)
  intro wz10 hS
  refine w_pure rfl rfl (s_ixo (i := q)  rfl rfl (by omega) (by first | omega | (simp; done) | (simp; omega)) si_24 ?_)
  refine w_free rfl rfl (s_mrowstP [_] (i := q)  rfl rfl vi_30 hS (by omega) (by rw [List.length_set]; omega) (Rw_one _) ?_)
  intro wz11 hS
  refine w_end ?_
  repeat (with_reducible first | refine c_seq ?_ | refine c_block ?_ | refine c_skip ?_ | refine x_then ?_ | refine x_block ?_)
  have hS2 := mC_swp (pre := [_]) (R := R) (R0 := R) rfl hl0 hlq hS
  clear hS
  rename _ => hS
  have hR2 := (hR.swp (show 0 < n by omega) hqn).congr (g := qM (swpR (adK M p q f m) 0 q)) fun i _ j _ => by
    show (if i = q then ofQ (adK M p q f m 0 j) else if i = 0 then ofQ (adK M p q f m q j) else ofQ (adK M p q f m i j)) = ofQ (swpR (adK M p q f m) 0 q i j)
    rw [← swp0]
    split
    · rfl
    · split <;> rfl
  have hmb := hR2.mtsD [_] hS encR_len hd1 hd2
  replace hm := hm.below hS.below
  replace hS := hS.drop (List.nil_sublist _)
  clear hR hR2
  change Mts encR 3 _ _ (mkA n m (swpR (adK M p q f m) 0 q)) _ at hmb
  obtain ⟨eL, eP⟩ := mkA_red (M := M) (N := swpR (adK M p q f m) 0 q) (show 1 ≤ n by omega) (show n ≤ 16 by omega) hm1 (by omega) fun x => ((ker_swp (show 0 < n by omega) hqn _ x).trans (ker_adK hpn hqn M f x)).symm
  have s1 := mkA_shp M (show 1 ≤ n by omega) (show n ≤ 16 by omega) hm1 (by omega)
  have s2 := mkA_shp (swpR (adK M p q f m) 0 q) (show 1 ≤ n by omega) (show n ≤ 16 by omega) hm1 (by omega)
  have hLA : ∀ i j, L (adK M p q f m i j) ≤ 8 := fun i j => by
    unfold adK
    have h1 := hLM i j
    split
    · have h2 := hLM q j
      have h3 := L_mul f (M q j)
      have h4 := L_add (M i j) (f * M q j)
      omega
    · omega
  have hA1 : RBM 8 (mkA n m M) := mkA_RB fun i _ j _ => Nat.le_trans (hLM i j) (by decide)
  have hA2 : RBM 8 (mkA n m (swpR (adK M p q f m) 0 q)) := mkA_RB fun i _ j _ => by
    unfold swpR
    split
    · exact hLA _ _
    · split <;> exact hLA _ _
  obtain ⟨A1, hA1d⟩ : ∃ A, A = mkA n m M := ⟨_, rfl⟩
  obtain ⟨A2, hA2d⟩ : ∃ A, A = mkA n m (swpR (adK M p q f m) 0 q) := ⟨_, rfl⟩
  rw [← hA1d] at hm eL eP s1 hA1
  rw [← hA2d] at hmb eL eP s2 hA2
  repeat (with_reducible first | refine c_seq ?_ | refine c_block ?_ | refine c_skip ?_ | refine x_then ?_ | refine x_block ?_)
  refine c_reg ?_
  refine l_pure rfl (s_move  h15 ?_)
  refine l_heavy rfl (s_call Tryd.call11 rfl (lReduce_ok _ A1 _ 8 _ hm hA1 (by decide)) ?_)
  rintro r_ w6 ⟨⟨v1, vs1, vp1, rfl, hm1', hp1⟩, hB6⟩
  replace hS := hS.grow hB6
  replace hmb := hmb.below hB6
  rw [s1]
  refine l_pure rfl (s_move  rfl ?_)
  refine l_pure rfl (s_ext  rfl rfl ?_)
  refine l_pure rfl (s_ext  rfl rfl ?_)
  refine l_pure rfl (s_ext  rfl rfl ?_)
  refine l_pure rfl (s_asg  rfl ?_)
  refine l_pure rfl (s_asg  rfl ?_)
  refine l_pure rfl (s_asg  rfl ?_)
  refine l_nil ?_
  repeat (with_reducible first | refine c_seq ?_ | refine c_block ?_ | refine c_skip ?_ | refine x_then ?_ | refine x_block ?_)
  refine c_reg ?_
  refine l_pure rfl (s_move  h16 ?_)
  refine l_heavy rfl (s_call Tryd.call11 rfl (lReduce_ok _ A2 _ 8 _ hmb hA2 (by decide)) ?_)
  rintro r_ w7 ⟨⟨v2, vs2, vp2, rfl, hm2', hp2⟩, hB7⟩
  replace hS := hS.grow hB7
  replace hm1' := hm1'.below hB7
  replace hp1 := hp1.below hB7
  rw [← eL] at hm2'
  rw [← eP] at hp2
  rw [s2]
  refine l_pure rfl (s_move  rfl ?_)
  refine l_pure rfl (s_ext  rfl rfl ?_)
  refine l_pure rfl (s_ext  rfl rfl ?_)
  refine l_pure rfl (s_ext  rfl rfl ?_)
  refine l_pure rfl (s_asg  rfl ?_)
  refine l_pure rfl (s_asg  rfl ?_)
  refine l_pure rfl (s_asg  rfl ?_)
  refine l_nil ?_
  repeat (with_reducible first | refine c_seq ?_ | refine c_block ?_ | refine c_skip ?_ | refine x_then ?_ | refine x_block ?_)
  refine c_reg ?_
  refine l_heavy rfl (s_call Tryd.call12 rfl (Lawake_ok _) ?_)
  rintro r wa ⟨rfl, hBa⟩
  replace hS := hS.grow hBa
  replace hm1' := hm1'.below hBa
  replace hp1 := hp1.below hBa
  replace hm2' := hm2'.below hBa
  replace hp2 := hp2.below hBa
  refine l_pure rfl (s_move  rfl ?_)
  refine l_pure (gd_yes 111 (by kernel_rfl) rfl rfl) (s_move  rfl ?_)
  refine l_pure (gd_yes 111 (by kernel_rfl) rfl rfl) (s_eql  rfl rfl ?_)
  refine l_pure rfl (s_pick (vb rfl rfl) rfl ?_)
  refine l_pure rfl (s_move  rfl ?_)
  refine l_pure (gd_yes 115 (by kernel_rfl) rfl (decide_eq_true rfl)) (s_move  rfl ?_)
  refine l_pure (gd_yes 115 (by kernel_rfl) rfl (decide_eq_true rfl)) (s_eql  rfl rfl ?_)
  refine l_pure rfl (s_pick (vb rfl (decide_eq_true rfl)) rfl ?_)
  refine l_pure rfl (s_move  rfl ?_)
  refine l_pure (gd_yes 119 (by kernel_rfl) rfl (decide_eq_true rfl)) (s_move  rfl ?_)
  refine l_pure (gd_yes 119 (by kernel_rfl) rfl (decide_eq_true rfl)) (s_move  rfl ?_)
  refine l_heavy (gd_yes 119 (by kernel_rfl) rfl (decide_eq_true rfl)) (s_call Tryd.call13 rfl (SameRows_eq _ _ _ _ _ _ hm1' hm2') ?_)
  rintro r w8 ⟨rfl, hB8⟩
  replace hS := hS.grow hB8
  replace hp1 := hp1.below hB8
  replace hp2 := hp2.below hB8
  refine l_pure rfl (s_pick (vb rfl (decide_eq_true rfl)) rfl ?_)
  refine l_pure rfl (s_move  rfl ?_)
  refine l_pure (gd_yes 124 (by kernel_rfl) rfl rfl) (s_move  rfl ?_)
  refine l_pure (gd_yes 124 (by kernel_rfl) rfl rfl) (s_move  rfl ?_)
  refine l_heavy (gd_yes 124 (by kernel_rfl) rfl rfl) (s_call Tryd.call14 rfl (SameInts_eq _ _ _ _ hp1 hp2) ?_)
  rintro r w9 ⟨rfl, hB9⟩
  replace hS := hS.grow hB9
  refine l_pure rfl (s_pick (vb rfl rfl) rfl ?_)
  refine l_pure rfl (s_asg  rfl ?_)
  refine l_nil ?_
  repeat (with_reducible first | refine c_seq ?_ | refine c_block ?_ | refine c_skip ?_ | refine x_then ?_ | refine x_block ?_)
  refine c_ret ?_
  repeat (with_reducible first | refine x_then_ret ?_ | refine x_block_ret ?_)
  refine r_one rfl rfl ?_
  exact ⟨vb rfl rfl, hW.trans (hS.below.mono hW.size)⟩
end Go.Proofs.YtblfipdfklpmmaaDoor
