/-
  Walks: apportioning by the largest remainder (reference).
-/
import Derived.Test.YtmapmdldlcfjhaaGreatDoorLawVc
namespace Go.Proofs.YtmapmdldlcfjhaaGreatDoor
open Go Go.RowKit Go.Sx

theorem rbelow_ok (v : Value) (l : List RR) (w : World) (hv : Sl encR 3 w v l) (hl : RB MX l) :
    Ret Tryz.prog 48 #[v] w fun r w' => r = .bool (negs l) ∧ Below w.heap.size w w' := by
  have hmax := hv.maxLen
  have hS := St.init w
  refine enter Tryz.func48 rfl Tryz.ntmps48 rfl ?_
  repeat (with_reducible first | refine c_seq ?_ | refine c_block ?_ | refine c_skip ?_ | refine x_then ?_ | refine x_block ?_)
  refine c_reg ?_
  refine l_pure rfl (s_asg  rfl ?_)
  refine l_nil ?_
  repeat (with_reducible first | refine c_seq ?_ | refine c_block ?_ | refine c_skip ?_ | refine x_then ?_ | refine x_block ?_)
  refine c_reg ?_
  refine l_pure rfl (s_asg  rfl ?_)
  refine l_nil ?_
  repeat (with_reducible first | refine c_seq ?_ | refine c_block ?_ | refine c_skip ?_ | refine x_then ?_ | refine x_block ?_)
  refine c_loop (σ := Nat) (fun i ρ w' => i ≤ l.length ∧ negs (l.take i) = false ∧ ρ 0 = v ∧ ρ 3 = .int .i64 i ∧ St w w' []) (fun i => l.length - i) 0
    ⟨Nat.zero_le _, rfl, rfl, rfl, hS⟩ ?_
  clear hS
  rintro i ρ w2 ⟨hi, hn, h0, h3, hS⟩
  repeat (with_reducible first | refine c_seq ?_ | refine c_block ?_ | refine c_skip ?_ | refine x_then ?_ | refine x_block ?_)
  refine c_reg ?_
  refine l_pure rfl (s_move  h3 ?_)
  refine l_pure rfl (s_move  h0 ?_)
  refine l_pure rfl (s_lenr  rfl (hv.below hS.below) ⟨_, Tryz.underlying22⟩ ?_)
  refine l_pure rfl (s_lss  rfl rfl ?_)
  refine l_nil ?_
  repeat (with_reducible first | refine c_seq ?_ | refine c_block ?_ | refine c_skip ?_ | refine x_then ?_ | refine x_block ?_)
  by_cases hlt : i < l.length
  · refine c_yes rfl (decide_eq_true (by omega)) ?_
    repeat (with_reducible first | refine c_seq ?_ | refine c_block ?_ | refine c_skip ?_ | refine x_then ?_ | refine x_block ?_)
    obtain ⟨t1, t2⟩ := negs_take l hlt hn
    repeat (with_reducible first | refine c_seq ?_ | refine c_block ?_ | refine c_skip ?_ | refine x_then ?_ | refine x_block ?_)
    refine c_reg ?_
    refine l_pure rfl (s_move  h0 ?_)
    refine l_pure rfl (s_move  h3 ?_)
    refine l_pure rfl (s_ixr (i := i)  rfl rfl (hv.below hS.below) (by omega) (by first | omega | (simp; done) | (simp; omega)) si_22 ?_)
    refine l_read rfl (s_lde (i := i) zRR  rfl vi_37 (hv.below hS.below) (by first | omega | (simp; done) | (simp; omega)) rfl rfl (.inl rfl) ?_)
    refine l_heavy rfl (s_call Tryz.call61 rfl (rSign_ok (l.getD i zRR) _ (hl _ (getD_mem l i zRR hlt))) ?_)
    rintro _ wc1 ⟨rfl, hBc1⟩
    replace hS := hS.grow hBc1
    refine l_pure rfl (s_lss  rfl rfl ?_)
    refine l_nil ?_
    repeat (with_reducible first | refine c_seq ?_ | refine c_block ?_ | refine c_skip ?_ | refine x_then ?_ | refine x_block ?_)
    by_cases hneg : toQ (l.getD i zRR) < 0
    · refine c_yes rfl (decide_eq_true (sgnQ_neg.2 hneg)) ?_
      repeat (with_reducible first | refine c_seq ?_ | refine c_block ?_ | refine c_skip ?_ | refine x_then ?_ | refine x_block ?_)
      refine c_reg ?_
      refine l_pure rfl (s_asg  rfl ?_)
      refine l_nil ?_
      repeat (with_reducible first | refine c_seq ?_ | refine c_block ?_ | refine c_skip ?_ | refine x_then ?_ | refine x_block ?_)
      refine c_ret ?_
      repeat (with_reducible first | refine x_then_ret ?_ | refine x_block_ret ?_)
      refine r_one rfl rfl ?_
      exact ⟨by rw [t2 hneg]; rfl, hS.below⟩
    · refine c_no rfl (decide_eq_false (fun g => hneg (sgnQ_neg.1 g))) ?_
      repeat (with_reducible first | refine c_seq ?_ | refine c_block ?_ | refine c_skip ?_ | refine x_then ?_ | refine x_block ?_)
      refine c_reg ?_
      refine l_pure rfl (s_move  h3 ?_)
      refine l_pure rfl (s_add  rfl rfl (IntWalk.i64_in _ (by omega)) ?_)
      refine l_pure rfl (s_asg  rfl ?_)
      refine l_nil ?_
      repeat (with_reducible first | refine c_seq ?_ | refine c_block ?_ | refine c_skip ?_ | refine x_then ?_ | refine x_block ?_)
      exact ⟨i + 1, _, rfl, ⟨hlt, t1 hneg, h0, vi rfl (by omega), hS⟩, by omega⟩
  · refine c_no rfl (decide_eq_false (by omega)) ?_
    repeat (with_reducible first | refine c_seq ?_ | refine c_block ?_ | refine c_skip ?_ | refine x_then ?_ | refine x_block ?_)
    refine c_exit ?_
    repeat (with_reducible first | refine x_then_exit ?_ | refine x_block_exit ?_ | refine x_block_pass rfl ?_)
    repeat (with_reducible first | refine c_seq ?_ | refine c_block ?_ | refine c_skip ?_ | refine x_then ?_ | refine x_block ?_)
    obtain rfl : i = l.length := by omega
    rw [List.take_length] at hn
    repeat (with_reducible first | refine c_seq ?_ | refine c_block ?_ | refine c_skip ?_ | refine x_then ?_ | refine x_block ?_)
    refine c_reg ?_
    refine l_pure rfl (s_asg  rfl ?_)
    refine l_nil ?_
    repeat (with_reducible first | refine c_seq ?_ | refine c_block ?_ | refine c_skip ?_ | refine x_then ?_ | refine x_block ?_)
    refine c_ret ?_
    repeat (with_reducible first | refine x_then_ret ?_ | refine x_block_ret ?_)
    refine r_one rfl rfl ?_
    exact ⟨by rw [hn]; rfl, hS.below⟩

def atJ : Option Nat → Int
  | none => -1
  | some b => (b : Int)
/-- Those that can still be raised. -/
def cdA (J : List Nat) (fr : Nat → Rat) (k i : Nat) : Bool := !decide (i ∈ J.take k) && decide (fr i ≠ 0)
/-- The parts that are left. -/
def pT (J : List Nat) (fr : Nat → Rat) (k j : Nat) : RR := if j ∈ J.take k then zRR else ofQ (fr j)
theorem pT_zero (J : List Nat) (fr : Nat → Rat) (n : Nat) : tab n (pT J fr 0) = tab n fun j => ofQ (fr j) := tab_congr fun j _ => by
  unfold pT; rw [List.take_zero, if_neg (fun h => nomatch h)]
theorem pT_set {J : List Nat} {fr : Nat → Rat} {n k : Nat} (hk : k < J.length) : (tab n (pT J fr k)).set (J.getD k 0) zRR = tab n (pT J fr (k + 1)) := by
  rw [tab_set]
  refine tab_congr fun j _ => ?_
  unfold pT
  rw [take_succ' J k 0 hk]
  by_cases e : j = J.getD k 0
  · rw [if_pos e, if_pos (by rw [e]; exact List.mem_append_right _ (List.mem_singleton.2 rfl))]
  · rw [if_neg e]
    by_cases g : j ∈ J.take k
    · rw [if_pos g, if_pos (List.mem_append_left _ g)]
    · rw [if_neg g, if_neg]
      intro q
      rcases List.mem_append.1 q with q | q
      · exact g q
      · exact e (List.mem_singleton.1 q)
theorem pT_num {J : List Nat} {fr : Nat → Rat} {k j : Nat} : (pT J fr k j).num = ⟨#[]⟩ ↔ cdA J fr k j = false := by
  unfold pT cdA
  by_cases g : j ∈ J.take k
  · rw [if_pos g, decide_eq_true g]
    exact ⟨fun _ => rfl, fun _ => rfl⟩
  · rw [if_neg g, decide_eq_false g, ofQ_num_nil]
    by_cases e : fr j = 0
    · rw [decide_eq_false (not_not_intro e)]; exact ⟨fun _ => rfl, fun _ => e⟩
    · rw [decide_eq_true e]; exact ⟨fun q => absurd q e, fun q => by cases q⟩
theorem pT_cd {J : List Nat} {fr : Nat → Rat} {k j : Nat} (h : cdA J fr k j = true) : pT J fr k j = ofQ (fr j) := by
  unfold cdA at h
  rw [Bool.and_eq_true] at h
  unfold pT
  rw [if_neg]
  intro g
  rw [decide_eq_true g] at h
  cases h.1
theorem pickA {fr : Nat → Rat} {n : Nat} {J : List Nat} (h : Ord fr n J) {k : Nat} (hk : k < n) (hne : fr (J.getD k 0) ≠ 0) : best (cdA J fr k) fr n = some (J.getD k 0) :=
  h.pick hk (fun i hi => by unfold cdA at hi; rw [Bool.and_eq_true] at hi; simpa using hi.1) (by
    unfold cdA
    rw [decide_eq_true hne, decide_eq_false (nodup_at h.nodup (by rw [h.len]; exact hk))]; rfl)
theorem bestA_no {cd : Nat → Bool} {fr : Nat → Rat} {i : Nat} (h : cd i = false) : best cd fr (i + 1) = best cd fr i := by
  have hn : ¬ cd i = true := by rw [h]; decide
  rw [best]
  cases best cd fr i with
  | none => simp only; rw [if_neg hn]
  | some b => simp only; rw [if_neg (fun g => hn g.1)]
theorem bestA_none {cd : Nat → Bool} {fr : Nat → Rat} {i : Nat} (h : cd i = true) (hb : best cd fr i = none) : best cd fr (i + 1) = some i := by
  rw [best, hb]
  simp only; rw [if_pos h]
theorem bestA_some {cd : Nat → Bool} {fr : Nat → Rat} {i b : Nat} (h : cd i = true) (hb : best cd fr i = some b) : best cd fr (i + 1) = if fr b < fr i then some i else some b := by
  rw [best, hb]
  simp only
  by_cases g : fr b < fr i
  · rw [if_pos g, if_pos ⟨h, g⟩]
  · rw [if_neg g, if_neg (fun q => g q.2)]
set_option maxHeartbeats 4000000 in
theorem rLargest_ok (v : Value) (l : List RR) (K : Nat) (w : World) (hv : Sl encR 3 w v l) (hl : RB K l) (h20 : l.length ≤ 20) (hK : 100 * K + 200 ≤ MX) :
    Ret Tryz.prog 14 #[v] w fun r w' => (∃ v', r = .tuple #[v', .int .i64 (lgE l)] ∧ Sl enI 1 w' v' (lgL l)) ∧ Below w.heap.size w w' := by
  have hM : MX = 1099511627776 := rfl
  have hno : lgE l ≠ 0 → lgL l = [] := fun h => if_neg h
  have hsl := sumL_le hl
  have hsl2 : l.length * (K + 1) ≤ 20 * (K + 1) := Nat.mul_le_mul_right _ h20
  have hLs := L_sumQ l
  have hsum := fun w h => rSum_ok v l w h (by omega)
  have hS := St.init w
  refine enter Tryz.func14 rfl Tryz.ntmps14 rfl ?_
  repeat (with_reducible first | refine c_seq ?_ | refine c_block ?_ | refine c_skip ?_ | refine x_then ?_ | refine x_block ?_)
  refine c_reg ?_
  refine l_pure rfl (s_asg  rfl ?_)
  refine l_pure rfl (s_asg  rfl ?_)
  refine l_nil ?_
  repeat (with_reducible first | refine c_seq ?_ | refine c_block ?_ | refine c_skip ?_ | refine x_then ?_ | refine x_block ?_)
  refine c_reg ?_
  refine l_pure rfl (s_move  rfl ?_)
  refine l_pure rfl (s_lenr  rfl (hv.below hS.below) ⟨_, Tryz.underlying22⟩ ?_)
  refine l_pure rfl (s_gtr  rfl rfl ?_)
  refine l_nil ?_
  repeat (with_reducible first | refine c_seq ?_ | refine c_block ?_ | refine c_skip ?_ | refine x_then ?_ | refine x_block ?_)
  refine c_no rfl (decide_eq_false (by omega)) ?_
  repeat (with_reducible first | refine c_seq ?_ | refine c_block ?_ | refine c_skip ?_ | refine x_then ?_ | refine x_block ?_)
  refine c_reg ?_
  refine l_pure rfl (s_move  rfl ?_)
  refine l_heavy rfl (s_call Tryz.call48 rfl (rbelow_ok v l _ (hv.below hS.below) (RB_mono hl (by omega))) ?_)
  rintro _ wc1 ⟨rfl, hBc1⟩
  replace hS := hS.grow hBc1
  refine l_nil ?_
  repeat (with_reducible first | refine c_seq ?_ | refine c_block ?_ | refine c_skip ?_ | refine x_then ?_ | refine x_block ?_)
  cases hn : negs l with
  | true =>
    have he : lgE l = 7 := by unfold lgE; rw [if_neg (by omega), hn, if_pos rfl]
    refine c_yes rfl (rfl) ?_
    repeat (with_reducible first | refine c_seq ?_ | refine c_block ?_ | refine c_skip ?_ | refine x_then ?_ | refine x_block ?_)
    refine c_reg ?_
    refine l_pure rfl (s_asg  rfl ?_)
    refine l_pure rfl (s_asg  rfl ?_)
    refine l_nil ?_
    repeat (with_reducible first | refine c_seq ?_ | refine c_block ?_ | refine c_skip ?_ | refine x_then ?_ | refine x_block ?_)
    refine c_ret ?_
    repeat (with_reducible first | refine x_then_ret ?_ | refine x_block_ret ?_)
    refine r_two rfl rfl rfl ?_
    refine ⟨⟨_, by rw [he]; rfl, ?_⟩, hS.below⟩
    rw [hno (by rw [he]; decide)]; exact Sl.nil _ _ _
  | false =>
  have he : lgE l = if (i64V (sumQ (l.map toQ))).2 = false then 6 else 0 := by unfold lgE; rw [if_neg (by omega), hn, if_neg (by decide)]
  have hi64 := fun w => rInt64_ok (ofQ (sumQ (l.map toQ))) w (by rw [Lr_ofQ]; omega) (by rw [toQ_ofQ]; exact sumQ_nn hn)
  rw [toQ_ofQ] at hi64
  refine c_no rfl (rfl) ?_
  repeat (with_reducible first | refine c_seq ?_ | refine c_block ?_ | refine c_skip ?_ | refine x_then ?_ | refine x_block ?_)
  refine c_reg ?_
  refine l_pure rfl (s_move  rfl ?_)
  refine l_heavy rfl (s_call Tryz.call27 rfl (hsum _ (hv.below hS.below)) ?_)
  rintro _ wc2 ⟨rfl, hBc2⟩
  replace hS := hS.grow hBc2
  refine l_heavy rfl (s_call Tryz.call49 rfl (hi64 _) ?_)
  rintro _ wc3 ⟨rfl, hBc3⟩
  replace hS := hS.grow hBc3
  refine l_pure rfl (s_move  rfl ?_)
  refine l_pure rfl (s_ext  rfl rfl ?_)
  refine l_pure rfl (s_ext  rfl rfl ?_)
  refine l_pure rfl (s_asg  rfl ?_)
  refine l_pure rfl (s_asg  rfl ?_)
  refine l_nil ?_
  repeat (with_reducible first | refine c_seq ?_ | refine c_block ?_ | refine c_skip ?_ | refine x_then ?_ | refine x_block ?_)
  refine c_reg ?_
  refine l_pure rfl (s_move  rfl ?_)
  refine l_pure rfl (s_not  rfl ?_)
  refine l_nil ?_
  repeat (with_reducible first | refine c_seq ?_ | refine c_block ?_ | refine c_skip ?_ | refine x_then ?_ | refine x_block ?_)
  cases hz0 : (i64V (sumQ (l.map toQ))).2 with
  | false =>
    have he6 : lgE l = 6 := by rw [he, hz0]; rfl
    refine c_yes rfl (rfl) ?_
    repeat (with_reducible first | refine c_seq ?_ | refine c_block ?_ | refine c_skip ?_ | refine x_then ?_ | refine x_block ?_)
    refine c_reg ?_
    refine l_pure rfl (s_asg  rfl ?_)
    refine l_pure rfl (s_asg  rfl ?_)
    refine l_nil ?_
    repeat (with_reducible first | refine c_seq ?_ | refine c_block ?_ | refine c_skip ?_ | refine x_then ?_ | refine x_block ?_)
    refine c_ret ?_
    repeat (with_reducible first | refine x_then_ret ?_ | refine x_block_ret ?_)
    refine r_two rfl rfl rfl ?_
    refine ⟨⟨_, by rw [he6]; rfl, ?_⟩, hS.below⟩
    rw [hno (by rw [he6]; decide)]; exact Sl.nil _ _ _
  | true =>
  have hz : lgE l = 0 := by rw [he, hz0]; rfl
  obtain ⟨_, _, T, hT, hT0, hTm⟩ := lgE_zero hz
  have hTv : (i64V (sumQ (l.map toQ))).1 = T := by rw [hT, i64V_int, if_pos ⟨by omega, hTm⟩]
  have hlL : lgL l = tab l.length (resA l) := if_pos hz
  rw [hlL, hz, hTv]
  obtain ⟨n, hn'⟩ : ∃ n, n = l.length := ⟨_, rfl⟩
  obtain ⟨q, hq⟩ : ∃ q, q = qA l := ⟨_, rfl⟩
  obtain ⟨J, hJ⟩ : ∃ J, J = ordG l := ⟨_, rfl⟩
  have hord := ordG_ord l
  have hbb := fun i hi => baA_bound hn hT (i := i) hi
  have hsT : sumR (qA l) l.length = (T : Rat) := by rw [← qA_sum, hT]
  obtain ⟨hlf1, hlf2, _⟩ := lf_int hsT
  have hrl := fun i hi => res_le hord hsT (fun j _ => negs_get hn j) (i := i) hi
  have hres : resA l = resQ q J n := by rw [hq, hJ, hn']; rfl
  have hfq : ∀ i, (toQ (l.getD i zRR)).floor = baQ q i := fun i => by rw [hq]; rfl
  have hrq : ∀ i, toQ (l.getD i zRR) - ((baQ q i : Int) : Rat) = frQ q i := fun i => by rw [hq]; rfl
  have hLq : ∀ i, i < n → Lr (l.getD i zRR) ≤ K := fun i hi => hl _ (getD_mem l i zRR (by omega))
  have hLb : ∀ i, i < n → L ((baQ q i : Int) : Rat) ≤ K + 1 := fun i hi => by
    rw [← hfq]
    have := L_floor (toQ (l.getD i zRR))
    have := L_toQ (l.getD i zRR)
    have := hLq i hi
    omega
  have hLf : ∀ i, i < n → L (frQ q i) ≤ 2 * K + 2 := fun i hi => by
    rw [← hrq]
    have := L_sub (toQ (l.getD i zRR)) ((baQ q i : Int) : Rat)
    have := L_toQ (l.getD i zRR)
    have := hLq i hi
    have := hLb i hi
    omega
  rw [hres] at ⊢
  rw [← hq] at hbb hlf1 hlf2 hord hsT hrl
  rw [← hJ] at hord hrl
  rw [← hn'] at hbb hlf1 hlf2 hord hrl h20 ⊢
  have hsb : ∀ i, i ≤ n → 0 ≤ sumZ (baQ q) i ∧ sumZ (baQ q) i ≤ T := fun i hi => by
    have h1 := sumZ_mono (f := baQ q) (fun j hj => (hbb j hj).1) hi
    have h2 := lfQ_nonneg q n
    exact ⟨sumZ_nonneg fun j hj => (hbb j (by omega)).1, by omega⟩
  refine c_no rfl (rfl) ?_
  repeat (with_reducible first | refine c_seq ?_ | refine c_block ?_ | refine c_skip ?_ | refine x_then ?_ | refine x_block ?_)
  refine c_forget (fun ρ' => ρ' 0 = v ∧ ρ' 4 = .int .i64 T ∧ True) ⟨rfl, rfl, trivial⟩ ?_
  rintro ρk4 ⟨hk4_0, hk4_4, -⟩
  repeat (with_reducible first | refine c_seq ?_ | refine c_block ?_ | refine c_skip ?_ | refine x_then ?_ | refine x_block ?_)
  refine c_reg ?_
  refine l_pure rfl (s_asg  rfl ?_)
  refine l_nil ?_
  repeat (with_reducible first | refine c_seq ?_ | refine c_block ?_ | refine c_skip ?_ | refine x_then ?_ | refine x_block ?_)
  refine c_reg ?_
  refine l_pure rfl (s_asg  rfl ?_)
  refine l_nil ?_
  repeat (with_reducible first | refine c_seq ?_ | refine c_block ?_ | refine c_skip ?_ | refine x_then ?_ | refine x_block ?_)
  refine c_reg ?_
  refine l_pure rfl (s_asg  rfl ?_)
  refine l_nil ?_
  repeat (with_reducible first | refine c_seq ?_ | refine c_skip ?_ | refine x_then ?_ | refine x_block ?_)
  refine c_cut1 (fun ρ w' => ρ 4 = .int .i64 (T - sumZ (baQ q) n) ∧ ∃ sO LO sP LP, ρ 6 = sO ∧ ρ 7 = sP ∧ Gl enI 2 1 sO (tab n (baQ q)) LO ∧ Gl encR 37 3 sP (tab n fun j => ofQ (frQ q j)) LP ∧ St w w' ([] ++ LP ++ LO)) ?_ ?_
  · repeat (with_reducible first | refine c_seq ?_ | refine c_block ?_ | refine c_skip ?_ | refine x_then ?_ | refine x_block ?_)
    refine c_loop (σ := Nat) (fun i ρ w' => i ≤ n ∧ ρ 0 = v ∧ ρ 4 = .int .i64 (T - sumZ (baQ q) i) ∧ ρ 8 = .int .i64 i ∧ ∃ sO LO sP LP, ρ 6 = sO ∧ ρ 7 = sP ∧ Gl enI 2 1 sO (tab i (baQ q)) LO ∧ Gl encR 37 3 sP (tab i fun j => ofQ (frQ q j)) LP ∧ St w w' ([] ++ LP ++ LO)) (fun i => n - i) 0
      ⟨Nat.zero_le _, by assumption, vi (by assumption) (by show T = T - 0; omega), rfl, ⟨_, [], _, [], rfl, rfl, Gl.nil _ _ _, Gl.nil _ _ _, hS⟩⟩ ?_
    clear hS
    rintro i ρ w3 ⟨hi, h0, h4, h8, sO, LO, sP, LP, h6, h7, hO, hP, hS⟩
    have htl := tab_len i (baQ q)
    have htp := tab_len i (fun j => ofQ (frQ q j))
    repeat (with_reducible first | refine c_seq ?_ | refine c_block ?_ | refine c_skip ?_ | refine x_then ?_ | refine x_block ?_)
    refine c_reg ?_
    refine l_pure rfl (s_move  h8 ?_)
    refine l_pure rfl (s_move  h0 ?_)
    refine l_pure rfl (s_lenr  rfl (hv.below hS.below) ⟨_, Tryz.underlying22⟩ ?_)
    refine l_pure rfl (s_lss  rfl rfl ?_)
    refine l_nil ?_
    repeat (with_reducible first | refine c_seq ?_ | refine c_block ?_ | refine c_skip ?_ | refine x_then ?_ | refine x_block ?_)
    by_cases hlt : i < n
    · refine c_yes rfl (decide_eq_true (by omega)) ?_
      repeat (with_reducible first | refine c_seq ?_ | refine c_block ?_ | refine c_skip ?_ | refine x_then ?_ | refine x_block ?_)
      obtain ⟨bb1, bb2⟩ := hbb i hlt
      obtain ⟨sb1, sb2⟩ := hsb i (by omega)
      obtain ⟨sc1, sc2⟩ := hsb (i + 1) (by omega)
      have hss : sumZ (baQ q) (i + 1) = sumZ (baQ q) i + baQ q i := rfl
      have hLi := hLq i hlt
      have hLbi := hLb i hlt
      have hfl := fun w => rFloor_ok (l.getD i zRR) w (by omega)
      rw [hfq] at hfl
      have hce := fun w => rInt64_ok (ofQ ((baQ q i : Int) : Rat)) w (by rw [Lr_ofQ]; omega) (by rw [toQ_ofQ]; exact Rat.intCast_nonneg.2 bb1)
      rw [toQ_ofQ, i64V_int, if_pos ⟨by omega, by omega⟩] at hce
      have hfx := fun w => rFix_ok (l.getD i zRR) w (by omega)
      unfold fx at hfx
      have hLt := L_toQ (l.getD i zRR)
      have hmi := fun w => rMinus_ok (toQ (l.getD i zRR)) ((baQ q i : Int) : Rat) w (by omega)
      rw [hrq] at hmi
      repeat (with_reducible first | refine c_seq ?_ | refine c_block ?_ | refine c_skip ?_ | refine x_then ?_ | refine x_block ?_)
      refine c_reg ?_
      refine l_pure rfl (s_move  h0 ?_)
      refine l_pure rfl (s_move  h8 ?_)
      refine l_pure rfl (s_ixr (i := i)  rfl rfl (hv.below hS.below) (by omega) (by first | omega | (simp; done) | (simp; omega)) si_22 ?_)
      refine l_read rfl (s_lde (i := i) zRR  rfl vi_37 (hv.below hS.below) (by first | omega | (simp; done) | (simp; omega)) rfl rfl (.inl rfl) ?_)
      refine l_heavy rfl (s_call Tryz.call50 rfl (hfl _) ?_)
      rintro _ wc5 ⟨rfl, hBc5⟩
      replace hS := hS.grow hBc5
      refine l_heavy rfl (s_alloc  vi_37 hS ?_)
      intro b9 wz6 hS hBz6
      refine l_heavy rfl (s_sta (k := 0)  rfl rfl vi_37 hS rfl rfl rfl (Nat.le_of_ble_eq_true rfl) rfl ?_)
      intro wz7 hS
      refine l_nil ?_
      repeat (with_reducible first | refine c_seq ?_ | refine c_block ?_ | refine c_skip ?_ | refine x_then ?_ | refine x_block ?_)
      replace hS : St w _ ([(b9, 37, encR (ofQ ((baQ q i : Int) : Rat)))] ++ LP ++ LO) := hS
      repeat (with_reducible first | refine c_seq ?_ | refine c_block ?_ | refine c_skip ?_ | refine x_then ?_ | refine x_block ?_)
      refine c_reg ?_
      refine l_read rfl (s_ldo (k := 0)  rfl vi_37 hS rfl rfl rfl (.inl rfl) ?_)
      refine l_heavy rfl (s_call Tryz.call49 rfl (hce _) ?_)
      rintro _ wc8 ⟨rfl, hBc8⟩
      replace hS := hS.grow hBc8
      refine l_pure rfl (s_move  rfl ?_)
      refine l_pure rfl (s_ext  rfl rfl ?_)
      refine l_pure rfl (s_ext  rfl rfl ?_)
      refine l_pure rfl (s_asg  rfl ?_)
      refine l_pure rfl (s_asg  rfl ?_)
      refine l_nil ?_
      repeat (with_reducible first | refine c_seq ?_ | refine c_block ?_ | refine c_skip ?_ | refine x_then ?_ | refine x_block ?_)
      refine c_reg ?_
      refine l_pure rfl (s_move  h6 ?_)
      refine l_pure rfl (s_move  rfl ?_)
      refine l_heavy rfl (s_bsl (vs := [.int .i64 (baQ q i)])  rfl si_25 rfl (by decide) (by decide) (by decide) (by simp [Value.cells]) rfl hS ?_)
      intro bx wz9 hS hBz9
      refine l_heavy rfl (s_appl [baQ q i]  rfl rfl si_25 (by decide) hO hS rfl rfl enI_len (enI_one [baQ q i]) (by first | omega | (simp only [List.length_cons, List.length_nil]; omega)) (by first | omega | (simp only [List.length_cons, List.length_nil]; omega)) ?_)
      intro va10 La10 wa10 hO hS hga10
      refine l_pure rfl (s_asg  rfl ?_)
      refine l_nil ?_
      repeat (with_reducible first | refine c_seq ?_ | refine c_block ?_ | refine c_skip ?_ | refine x_then ?_ | refine x_block ?_)
      rw [← tab_succ] at hO
      replace hS := hS.perm (permEnd _ _ _)
      repeat (with_reducible first | refine c_seq ?_ | refine c_block ?_ | refine c_skip ?_ | refine x_then ?_ | refine x_block ?_)
      refine c_draw [(0, .pure), (1, .pure), (2, .pure), (3, .pure), (4, .read), (6, .read), (5, .grow), (7, .grow), (8, .grow), (9, .free), (10, .pure)] (by kernel_rfl) (by kernel_rfl) hS ?_
      intro wz11 hS hBz11
      refine w_pure rfl rfl (s_move  h7 ?_)
      refine w_pure rfl rfl (s_move  h0 ?_)
      refine w_pure rfl rfl (s_move  h8 ?_)
      refine w_pure rfl rfl (s_ixr (i := i)  rfl rfl (hv.below hS.below) (by omega) (by first | omega | (simp; done) | (simp; omega)) si_22 ?_)
      refine w_read rfl rfl (s_lde (i := i) zRR  rfl vi_37 (hv.below hS.below) (by first | omega | (simp; done) | (simp; omega)) rfl rfl (.inl rfl) ?_)
      refine w_read rfl rfl (s_ldo (k := 0)  rfl vi_37 hS rfl rfl rfl (.inl rfl) ?_)
      refine w_grow rfl rfl (s_call Tryz.call52 rfl (hfx _) ?_)
      rintro _ wc12 ⟨rfl, hBc12⟩
      replace hS := hS.grow hBc12
      refine ⟨hBc12, ?_⟩
      refine w_grow rfl rfl (s_call Tryz.call51 rfl (hmi _) ?_)
      rintro _ wc13 ⟨rfl, hBc13⟩
      replace hS := hS.grow hBc13
      refine ⟨hBc13, ?_⟩
      refine w_grow rfl rfl (s_bsl (vs := [aggR (ofQ (frQ q i))])  rfl si_22 rfl (by decide) (by decide) (by decide) (by simp [Value.cells, aggR]) rfl hS ?_)
      intro by_ wz14 hS hBz14
      refine ⟨hBz14, ?_⟩
      refine w_free rfl rfl (s_appl [ofQ (frQ q i)]  rfl rfl si_22 (by decide) hP hS rfl rfl encR_len (encR_one [ofQ (frQ q i)]) (by first | omega | (simp only [List.length_cons, List.length_nil]; omega)) (by first | omega | (simp only [List.length_cons, List.length_nil]; omega)) ?_)
      intro va15 La15 wa15 hP hS hga15
      refine w_pure rfl rfl (s_asg  rfl ?_)
      refine w_end ?_
      repeat (with_reducible first | refine c_seq ?_ | refine c_block ?_ | refine c_skip ?_ | refine x_then ?_ | refine x_block ?_)
      rw [← tab_succ] at hP
      replace hS := hS.perm (permEnd _ _ _)
      repeat (with_reducible first | refine c_seq ?_ | refine c_block ?_ | refine c_skip ?_ | refine x_then ?_ | refine x_block ?_)
      refine c_reg ?_
      refine l_pure rfl (s_move  h4 ?_)
      refine l_pure rfl (s_move  rfl ?_)
      refine l_pure rfl (s_sub  rfl rfl (r := (T - sumZ (baQ q) (i + 1))) (by exact wr_i64 _ ⟨by omega, by omega, by omega⟩) ?_)
      refine l_pure rfl (s_asg  rfl ?_)
      refine l_nil ?_
      repeat (with_reducible first | refine c_seq ?_ | refine c_block ?_ | refine c_skip ?_ | refine x_then ?_ | refine x_block ?_)
      refine c_reg ?_
      refine l_pure rfl (s_move  h8 ?_)
      refine l_pure rfl (s_add  rfl rfl (IntWalk.i64_in _ (by omega)) ?_)
      refine l_pure rfl (s_asg  rfl ?_)
      refine l_nil ?_
      repeat (with_reducible first | refine c_seq ?_ | refine c_block ?_ | refine c_skip ?_ | refine x_then ?_ | refine x_block ?_)
      exact ⟨i + 1, _, rfl, ⟨hlt, by assumption, rfl, vi rfl (by omega), ⟨_, _, _, _, rfl, rfl, hO, hP, hS.drop (List.sublist_cons_self _ _)⟩⟩, by omega⟩
    · refine c_no rfl (decide_eq_false (by omega)) ?_
      repeat (with_reducible first | refine c_seq ?_ | refine c_block ?_ | refine c_skip ?_ | refine x_then ?_ | refine x_block ?_)
      refine c_exit ?_
      repeat (with_reducible first | refine x_then_exit ?_ | refine x_block_exit ?_ | refine x_block_pass rfl ?_)
      repeat (with_reducible first | refine c_seq ?_ | refine c_block ?_ | refine c_skip ?_ | refine x_then ?_ | refine x_block ?_)
      obtain rfl : i = n := by omega
      exact ⟨_, rfl, h4, ⟨_, _, _, _, h6, h7, hO, hP, hS⟩⟩
  clear hS
  rintro ρ w3 ⟨h4, sO, LO, sP, LP, h6, h7, hO, hP, hS⟩
  rw [← hlf2] at h4
  have hroom := lf_room hord
  have hl0 := lfQ_nonneg q n
  obtain ⟨m, hm⟩ : ∃ m, m = (lfQ q n).toNat := ⟨_, rfl⟩
  have hlm : lfQ q n = (m : Int) := by omega
  have hmn : m ≤ n := by rw [hm]; exact hroom.1
  have hne : ∀ k, k < m → frQ q (J.getD k 0) ≠ 0 := fun k hk => hroom.2 k (by omega)
  rw [hlm] at h4
  have hrm : resQ q J n = rnd (baQ q) J m := by rw [hm]; rfl
  rw [hrm] at hrl ⊢
  have hJl : J.length = n := hord.len
  rw [← rnd_zero (baQ q) J] at hO
  rw [← pT_zero J] at hP
  replace hS := hS.perm (permEnd _ _ _)
  repeat (with_reducible first | refine c_seq ?_ | refine c_block ?_ | refine c_skip ?_ | refine x_then ?_ | refine x_block ?_)
  refine c_loop (σ := Nat) (fun k ρ w' => k ≤ m ∧ ρ 4 = .int .i64 ((m : Int) - k) ∧ ρ 6 = sO ∧ ρ 7 = sP ∧ ∃ LO LP, Gl enI 2 1 sO (tab n (rnd (baQ q) J k)) LO ∧ Gl encR 37 3 sP (tab n (pT J (frQ q) k)) LP ∧ St w w' ([] ++ LO ++ LP)) (fun k => m - k) 0
    ⟨Nat.zero_le _, vi h4 (by omega), h6, h7, ⟨LO, LP, hO, hP, hS⟩⟩ ?_
  clear hS hO hP h4 h6 h7
  rintro k ρ w4 ⟨hk, h4, h6, h7, LO, LP, hO, hP, hS⟩
  have htp := tab_len n (pT J (frQ q) k)
  have htr := tab_len n (rnd (baQ q) J k)
  repeat (with_reducible first | refine c_seq ?_ | refine c_block ?_ | refine c_skip ?_ | refine x_then ?_ | refine x_block ?_)
  refine c_reg ?_
  refine l_pure rfl (s_move  h4 ?_)
  refine l_pure rfl (s_gtr  rfl rfl ?_)
  refine l_nil ?_
  repeat (with_reducible first | refine c_seq ?_ | refine c_block ?_ | refine c_skip ?_ | refine x_then ?_ | refine x_block ?_)
  by_cases hkm : k < m
  · refine c_yes rfl (decide_eq_true (by omega)) ?_
    repeat (with_reducible first | refine c_seq ?_ | refine c_block ?_ | refine c_skip ?_ | refine x_then ?_ | refine x_block ?_)
    have hps := pT_set (J := J) (fr := frQ q) (n := n) (k := k) (by omega)
    have hpk := pickA hord (k := k) (by omega) (hne k hkm)
    have hjn := hord.lt (k := k) (by omega)
    have hra := rnd_at (ba := baQ q) hord.nodup (k := k) (by omega)
    have hrs := rnd_set (ba := baQ q) (l := J) (n := n) (k := k) (by omega)
    have hrj := hrl (J.getD k 0) hjn
    have hin : J.getD k 0 ∈ J.take m := by
      rw [List.mem_iff_getElem]
      refine ⟨k, by rw [List.length_take]; omega, ?_⟩
      rw [List.getElem_take, List.getD_eq_getElem?_getD, List.getElem?_eq_getElem (by omega)]; rfl
    have hrj2 : rnd (baQ q) J m (J.getD k 0) = baQ q (J.getD k 0) + 1 := if_pos hin
    rw [hrj2] at hrj
    obtain ⟨j, hj⟩ : ∃ j, j = J.getD k 0 := ⟨_, rfl⟩
    rw [← hj] at hps hpk hjn hra hrs hrj
    have hbj := hbb j hjn
    repeat (with_reducible first | refine c_seq ?_ | refine c_block ?_ | refine c_skip ?_ | refine x_then ?_ | refine x_block ?_)
    refine c_reg ?_
    refine l_pure rfl (s_asg  rfl ?_)
    refine l_nil ?_
    repeat (with_reducible first | refine c_seq ?_ | refine c_block ?_ | refine c_skip ?_ | refine x_then ?_ | refine x_block ?_)
    refine c_reg ?_
    refine l_pure rfl (s_asg  rfl ?_)
    refine l_nil ?_
    repeat (with_reducible first | refine c_seq ?_ | refine c_skip ?_ | refine x_then ?_ | refine x_block ?_)
    refine c_cut1 (fun ρ w' => ρ 4 = .int .i64 ((m : Int) - k) ∧ ρ 6 = sO ∧ ρ 7 = sP ∧ ρ 12 = .int .i64 j ∧ St w w' ([] ++ LO ++ LP)) ?_ ?_
    · repeat (with_reducible first | refine c_seq ?_ | refine c_block ?_ | refine c_skip ?_ | refine x_then ?_ | refine x_block ?_)
      refine c_loop (σ := Nat) (fun i ρ w' => i ≤ n ∧ ρ 4 = .int .i64 ((m : Int) - k) ∧ ρ 6 = sO ∧ ρ 7 = sP ∧ ρ 12 = .int .i64 (atJ (best (cdA J (frQ q) k) (frQ q) i)) ∧ ρ 13 = .int .i64 i ∧ St w w' ([] ++ LO ++ LP)) (fun i => n - i) 0
        ⟨Nat.zero_le _, by assumption, by assumption, by assumption, rfl, rfl, hS⟩ ?_
      clear hS h4 h6 h7
      rintro i ρ w5 ⟨hi, h4, h6, h7, h12, h13, hS⟩
      repeat (with_reducible first | refine c_seq ?_ | refine c_block ?_ | refine c_skip ?_ | refine x_then ?_ | refine x_block ?_)
      refine c_reg ?_
      refine l_pure rfl (s_move  h13 ?_)
      refine l_pure rfl (s_move  h7 ?_)
      refine l_pure rfl (s_lenr  rfl (hP.sl hS encR_len) ⟨_, Tryz.underlying22⟩ ?_)
      refine l_pure rfl (s_lss  rfl rfl ?_)
      refine l_nil ?_
      repeat (with_reducible first | refine c_seq ?_ | refine c_block ?_ | refine c_skip ?_ | refine x_then ?_ | refine x_block ?_)
      by_cases hlt : i < n
      · refine c_yes rfl (decide_eq_true (by omega)) ?_
        repeat (with_reducible first | refine c_seq ?_ | refine c_block ?_ | refine c_skip ?_ | refine x_then ?_ | refine x_block ?_)
        have hgu : (tab n (pT J (frQ q) k)).getD i zRR = pT J (frQ q) k i := tab_get _ _ hlt
        cases hu : cdA J (frQ q) k i with
        | false =>
          have hnum : ((tab n (pT J (frQ q) k)).getD i zRR).num = ⟨#[]⟩ := by rw [hgu]; exact pT_num.2 hu
          repeat (with_reducible first | refine c_seq ?_ | refine c_block ?_ | refine c_skip ?_ | refine x_then ?_ | refine x_block ?_)
          refine c_draw [(0, .pure), (1, .pure), (2, .pure), (3, .pure), (4, .read), (5, .pure), (6, .pure), (7, .pure), (8, .pure), (9, .pure), (10, .pure), (11, .pure), (12, .pure), (13, .read), (14, .pure), (15, .pure), (16, .pure), (17, .read), (18, .grow), (19, .pure), (20, .pure)] (by kernel_rfl) (by kernel_rfl) hS ?_
          intro wz16 hS hBz16
          refine w_pure rfl rfl (s_move  h7 ?_)
          refine w_pure rfl rfl (s_move  h13 ?_)
          refine w_pure rfl rfl (s_ixr (i := i)  rfl rfl (hP.sl hS encR_len) (by omega) (by first | omega | (simp; done) | (simp; omega)) si_22 ?_)
          refine w_pure rfl rfl (s_fldr  rfl (spot_el (hP.sl hS encR_len) (fun _ => rfl) (by decide) (by first | omega | (simp; done) | (simp; omega))) fo_37_1 ?_)
          refine w_read rfl rfl (s_ldfe (i := i) (off := 1) zRR  rfl vi_9 (hP.sl hS encR_len) (fun _ => rfl) (by decide) (by first | omega | (simp; done) | (simp; omega)) rfl rfl (.inr rfl) ?_)
          refine w_pure rfl rfl (s_nes  rfl rfl ?_)
          refine w_pure rfl rfl (s_move  rfl ?_)
          refine w_no rfl (gno_yes 76 (by kernel_rfl) rfl (decide_eq_false (not_not_intro hnum))) ?_
          refine w_no rfl (gno_yes 76 (by kernel_rfl) rfl (decide_eq_false (not_not_intro hnum))) ?_
          refine w_no rfl (gno_yes 76 (by kernel_rfl) rfl (decide_eq_false (not_not_intro hnum))) ?_
          refine w_no rfl (gno_un 79 (by kernel_rfl) rfl) ?_
          refine w_no rfl (gno_un 79 (by kernel_rfl) rfl) ?_
          refine w_no rfl (gno_un 79 (by kernel_rfl) rfl) ?_
          refine w_no rfl (gno_un 79 (by kernel_rfl) rfl) ?_
          refine w_no rfl (gno_un 79 (by kernel_rfl) rfl) ?_
          refine w_no rfl (gno_un 79 (by kernel_rfl) rfl) ?_
          refine w_no rfl (gno_un 79 (by kernel_rfl) rfl) ?_
          refine w_no rfl (gno_un 79 (by kernel_rfl) rfl) ?_
          refine w_no rfl (gno_un 79 (by kernel_rfl) rfl) ?_
          refine w_no rfl (gno_yes 76 (by kernel_rfl) rfl (decide_eq_false (not_not_intro hnum))) ?_
          refine w_pure rfl rfl (s_pick (vb rfl (decide_eq_false (not_not_intro hnum))) rfl ?_)
          refine w_end ?_
          repeat (with_reducible first | refine c_seq ?_ | refine c_block ?_ | refine c_skip ?_ | refine x_then ?_ | refine x_block ?_)
          refine c_no rfl (rfl) ?_
          repeat (with_reducible first | refine c_seq ?_ | refine c_block ?_ | refine c_skip ?_ | refine x_then ?_ | refine x_block ?_)
          refine c_reg ?_
          refine l_pure rfl (s_move  h13 ?_)
          refine l_pure rfl (s_add  rfl rfl (IntWalk.i64_in _ (by omega)) ?_)
          refine l_pure rfl (s_asg  rfl ?_)
          refine l_nil ?_
          repeat (with_reducible first | refine c_seq ?_ | refine c_block ?_ | refine c_skip ?_ | refine x_then ?_ | refine x_block ?_)
          exact ⟨i + 1, _, rfl, ⟨hlt, by assumption, by assumption, by assumption, by rw [bestA_no hu]; assumption, vi rfl (by omega), hS⟩, by omega⟩
        | true =>
          have hnum : ((tab n (pT J (frQ q) k)).getD i zRR).num ≠ ⟨#[]⟩ := by
            rw [hgu]; intro g; rw [pT_num.1 g] at hu; cases hu
          have hpi : (tab n (pT J (frQ q) k)).getD i zRR = ofQ (frQ q i) := by rw [hgu, pT_cd hu]
          cases hb : best (cdA J (frQ q) k) (frQ q) i with
          | none =>
            rw [hb] at h12
            repeat (with_reducible first | refine c_seq ?_ | refine c_block ?_ | refine c_skip ?_ | refine x_then ?_ | refine x_block ?_)
            refine c_draw [(0, .pure), (1, .pure), (2, .pure), (3, .pure), (4, .read), (5, .pure), (6, .pure), (7, .pure), (8, .pure), (9, .pure), (10, .pure), (11, .pure), (12, .pure), (13, .read), (14, .pure), (15, .pure), (16, .pure), (17, .read), (18, .grow), (19, .pure), (20, .pure)] (by kernel_rfl) (by kernel_rfl) hS ?_
            intro wz17 hS hBz17
            refine w_pure rfl rfl (s_move  h7 ?_)
            refine w_pure rfl rfl (s_move  h13 ?_)
            refine w_pure rfl rfl (s_ixr (i := i)  rfl rfl (hP.sl hS encR_len) (by omega) (by first | omega | (simp; done) | (simp; omega)) si_22 ?_)
            refine w_pure rfl rfl (s_fldr  rfl (spot_el (hP.sl hS encR_len) (fun _ => rfl) (by decide) (by first | omega | (simp; done) | (simp; omega))) fo_37_1 ?_)
            refine w_read rfl rfl (s_ldfe (i := i) (off := 1) zRR  rfl vi_9 (hP.sl hS encR_len) (fun _ => rfl) (by decide) (by first | omega | (simp; done) | (simp; omega)) rfl rfl (.inr rfl) ?_)
            refine w_pure rfl rfl (s_nes  rfl rfl ?_)
            refine w_pure rfl rfl (s_move  rfl ?_)
            refine w_pure rfl (gd_yes 76 (by kernel_rfl) rfl (decide_eq_true hnum)) (s_move  h12 ?_)
            refine w_pure rfl (gd_yes 76 (by kernel_rfl) rfl (decide_eq_true hnum)) (s_lss  rfl rfl ?_)
            refine w_pure rfl (gd_yes 76 (by kernel_rfl) rfl (decide_eq_true hnum)) (s_move  rfl ?_)
            refine w_no rfl (gno_yes 79 (by kernel_rfl) rfl (decide_eq_true (by decide))) ?_
            refine w_no rfl (gno_yes 79 (by kernel_rfl) rfl (decide_eq_true (by decide))) ?_
            refine w_no rfl (gno_yes 79 (by kernel_rfl) rfl (decide_eq_true (by decide))) ?_
            refine w_no rfl (gno_yes 79 (by kernel_rfl) rfl (decide_eq_true (by decide))) ?_
            refine w_no rfl (gno_yes 79 (by kernel_rfl) rfl (decide_eq_true (by decide))) ?_
            refine w_no rfl (gno_yes 79 (by kernel_rfl) rfl (decide_eq_true (by decide))) ?_
            refine w_no rfl (gno_yes 79 (by kernel_rfl) rfl (decide_eq_true (by decide))) ?_
            refine w_no rfl (gno_yes 79 (by kernel_rfl) rfl (decide_eq_true (by decide))) ?_
            refine w_no rfl (gno_yes 79 (by kernel_rfl) rfl (decide_eq_true (by decide))) ?_
            refine w_pure rfl (gd_yes 76 (by kernel_rfl) rfl (decide_eq_true hnum)) (s_pick (vb rfl (decide_eq_true (by decide))) rfl ?_)
            refine w_pure rfl rfl (s_pick (vb rfl (decide_eq_true hnum)) rfl ?_)
            refine w_end ?_
            repeat (with_reducible first | refine c_seq ?_ | refine c_block ?_ | refine c_skip ?_ | refine x_then ?_ | refine x_block ?_)
            refine c_yes rfl (rfl) ?_
            repeat (with_reducible first | refine c_seq ?_ | refine c_block ?_ | refine c_skip ?_ | refine x_then ?_ | refine x_block ?_)
            refine c_reg ?_
            refine l_pure rfl (s_move  h13 ?_)
            refine l_pure rfl (s_asg  rfl ?_)
            refine l_nil ?_
            repeat (with_reducible first | refine c_seq ?_ | refine c_block ?_ | refine c_skip ?_ | refine x_then ?_ | refine x_block ?_)
            refine c_reg ?_
            refine l_pure rfl (s_move  h13 ?_)
            refine l_pure rfl (s_add  rfl rfl (IntWalk.i64_in _ (by omega)) ?_)
            refine l_pure rfl (s_asg  rfl ?_)
            refine l_nil ?_
            repeat (with_reducible first | refine c_seq ?_ | refine c_block ?_ | refine c_skip ?_ | refine x_then ?_ | refine x_block ?_)
            exact ⟨i + 1, _, rfl, ⟨hlt, by assumption, by assumption, by assumption, by rw [bestA_none hu hb]; rfl, vi rfl (by omega), hS⟩, by omega⟩
          | some b =>
            rw [hb] at h12
            replace h12 : ρ 12 = .int .i64 (b : Int) := h12
            obtain ⟨hbi, hbc⟩ := best_lt hb
            have hfb := hLf b (by omega)
            have hfi := hLf i hlt
            have hpb : (tab n (pT J (frQ q) k)).getD b zRR = ofQ (frQ q b) := by rw [tab_get _ _ (by omega), pT_cd hbc]
            have hnum2 : (ofQ (frQ q i)).num ≠ ⟨#[]⟩ := by rw [← hpi]; exact hnum
            have hbs := bestA_some (fr := frQ q) hu hb
            repeat (with_reducible first | refine c_seq ?_ | refine c_block ?_ | refine c_skip ?_ | refine x_then ?_ | refine x_block ?_)
            refine c_draw [(0, .pure), (1, .pure), (2, .pure), (3, .pure), (4, .read), (5, .pure), (6, .pure), (7, .pure), (8, .pure), (9, .pure), (10, .pure), (11, .pure), (12, .pure), (13, .read), (14, .pure), (15, .pure), (16, .pure), (17, .read), (18, .grow), (19, .pure), (20, .pure)] (by kernel_rfl) (by kernel_rfl) hS ?_
            intro wz18 hS hBz18
            refine w_pure rfl rfl (s_move  h7 ?_)
            refine w_pure rfl rfl (s_move  h13 ?_)
            refine w_pure rfl rfl (s_ixr (i := i)  rfl rfl (hP.sl hS encR_len) (by omega) (by first | omega | (simp; done) | (simp; omega)) si_22 ?_)
            refine w_pure rfl rfl (s_fldr  rfl (spot_el (hP.sl hS encR_len) (fun _ => rfl) (by decide) (by first | omega | (simp; done) | (simp; omega))) fo_37_1 ?_)
            refine w_read rfl rfl (s_ldfe (i := i) (off := 1) zRR  rfl vi_9 (hP.sl hS encR_len) (fun _ => rfl) (by decide) (by first | omega | (simp; done) | (simp; omega)) rfl rfl (.inr rfl) ?_)
            refine w_pure rfl rfl (s_nes  rfl rfl ?_)
            refine w_pure rfl rfl (s_move  rfl ?_)
            refine w_pure rfl (gd_yes 76 (by kernel_rfl) rfl (decide_eq_true hnum)) (s_move  h12 ?_)
            refine w_pure rfl (gd_yes 76 (by kernel_rfl) rfl (decide_eq_true hnum)) (s_lss  rfl rfl ?_)
            refine w_pure rfl (gd_yes 76 (by kernel_rfl) rfl (decide_eq_true hnum)) (s_move  rfl ?_)
            refine w_pure rfl (gd_yes 79 (by kernel_rfl) rfl (decide_eq_false (by omega))) (s_move  h7 ?_)
            refine w_pure rfl (gd_yes 79 (by kernel_rfl) rfl (decide_eq_false (by omega))) (s_move  h12 ?_)
            refine w_pure rfl (gd_yes 79 (by kernel_rfl) rfl (decide_eq_false (by omega))) (s_ixr (i := b)  rfl rfl (hP.sl hS encR_len) (by omega) (by first | omega | (simp; done) | (simp; omega)) si_22 ?_)
            refine w_read rfl (gd_yes 79 (by kernel_rfl) rfl (decide_eq_false (by omega))) (s_lde (i := b) zRR  rfl vi_37 (hP.sl hS encR_len) (by first | omega | (simp; done) | (simp; omega)) rfl rfl (.inl rfl) ?_)
            refine w_pure rfl (gd_yes 79 (by kernel_rfl) rfl (decide_eq_false (by omega))) (s_move  h7 ?_)
            refine w_pure rfl (gd_yes 79 (by kernel_rfl) rfl (decide_eq_false (by omega))) (s_move  h13 ?_)
            refine w_pure rfl (gd_yes 79 (by kernel_rfl) rfl (decide_eq_false (by omega))) (s_ixr (i := i)  rfl rfl (hP.sl hS encR_len) (by omega) (by first | omega | (simp; done) | (simp; omega)) si_22 ?_)
            refine w_read rfl (gd_yes 79 (by kernel_rfl) rfl (decide_eq_false (by omega))) (s_lde (i := i) zRR  rfl vi_37 (hP.sl hS encR_len) (by first | omega | (simp; done) | (simp; omega)) rfl rfl (.inl rfl) ?_)
            rw [hpb, hpi]
            refine w_grow rfl (gd_yes 79 (by kernel_rfl) rfl (decide_eq_false (by omega))) (s_call Tryz.call53 rfl (rLess_ok (frQ q b) (frQ q i) _ (by omega)) ?_)
            rintro r w8 ⟨rfl, hB8⟩
            refine ⟨hB8, ?_⟩
            replace hS := hS.grow hB8
            refine w_pure rfl (gd_yes 76 (by kernel_rfl) rfl (decide_eq_true hnum2)) (s_pick (vb rfl (decide_eq_false (by omega))) rfl ?_)
            refine w_pure rfl rfl (s_pick (vb rfl (decide_eq_true hnum2)) rfl ?_)
            refine w_end ?_
            repeat (with_reducible first | refine c_seq ?_ | refine c_block ?_ | refine c_skip ?_ | refine x_then ?_ | refine x_block ?_)
            by_cases hless : frQ q b < frQ q i
            · rw [if_pos hless] at hbs
              refine c_yes rfl (decide_eq_true hless) ?_
              repeat (with_reducible first | refine c_seq ?_ | refine c_block ?_ | refine c_skip ?_ | refine x_then ?_ | refine x_block ?_)
              refine c_reg ?_
              refine l_pure rfl (s_move  h13 ?_)
              refine l_pure rfl (s_asg  rfl ?_)
              refine l_nil ?_
              repeat (with_reducible first | refine c_seq ?_ | refine c_block ?_ | refine c_skip ?_ | refine x_then ?_ | refine x_block ?_)
              refine c_reg ?_
              refine l_pure rfl (s_move  h13 ?_)
              refine l_pure rfl (s_add  rfl rfl (IntWalk.i64_in _ (by omega)) ?_)
              refine l_pure rfl (s_asg  rfl ?_)
              refine l_nil ?_
              repeat (with_reducible first | refine c_seq ?_ | refine c_block ?_ | refine c_skip ?_ | refine x_then ?_ | refine x_block ?_)
              exact ⟨i + 1, _, rfl, ⟨hlt, by assumption, by assumption, by assumption, by rw [hbs]; rfl, vi rfl (by omega), hS⟩, by omega⟩
            · rw [if_neg hless] at hbs
              refine c_no rfl (decide_eq_false hless) ?_
              repeat (with_reducible first | refine c_seq ?_ | refine c_block ?_ | refine c_skip ?_ | refine x_then ?_ | refine x_block ?_)
              refine c_reg ?_
              refine l_pure rfl (s_move  h13 ?_)
              refine l_pure rfl (s_add  rfl rfl (IntWalk.i64_in _ (by omega)) ?_)
              refine l_pure rfl (s_asg  rfl ?_)
              refine l_nil ?_
              repeat (with_reducible first | refine c_seq ?_ | refine c_block ?_ | refine c_skip ?_ | refine x_then ?_ | refine x_block ?_)
              exact ⟨i + 1, _, rfl, ⟨hlt, by assumption, by assumption, by assumption, by rw [hbs]; assumption, vi rfl (by omega), hS⟩, by omega⟩
      · refine c_no rfl (decide_eq_false (by omega)) ?_
        repeat (with_reducible first | refine c_seq ?_ | refine c_block ?_ | refine c_skip ?_ | refine x_then ?_ | refine x_block ?_)
        refine c_exit ?_
        repeat (with_reducible first | refine x_then_exit ?_ | refine x_block_exit ?_ | refine x_block_pass rfl ?_)
        repeat (with_reducible first | refine c_seq ?_ | refine c_block ?_ | refine c_skip ?_ | refine x_then ?_ | refine x_block ?_)
        obtain rfl : i = n := by omega
        rw [hpk] at h12
        exact ⟨_, rfl, h4, h6, h7, h12, hS⟩
    clear hS h4 h6 h7
    rintro ρ w5 ⟨h4, h6, h7, h12, hS⟩
    replace hS := hS.perm (permEnd _ _ _)
    repeat (with_reducible first | refine c_seq ?_ | refine c_block ?_ | refine c_skip ?_ | refine x_then ?_ | refine x_block ?_)
    have htg : (tab n (rnd (baQ q) J k)).getD j 0 = baQ q j := by rw [tab_get _ _ hjn, hra]
    repeat (with_reducible first | refine c_seq ?_ | refine c_block ?_ | refine c_skip ?_ | refine x_then ?_ | refine x_block ?_)
    refine c_reg ?_
    refine l_pure rfl (s_move  h6 ?_)
    refine l_pure rfl (s_move  h12 ?_)
    refine l_pure rfl (s_ixr (i := j)  rfl rfl (hO.sl hS enI_len) (by omega) (by first | omega | (simp; done) | (simp; omega)) si_25 ?_)
    refine l_read rfl (s_lde (i := j) 0  rfl vi_2 (hO.sl hS enI_len) (by first | omega | (simp; done) | (simp; omega)) rfl rfl (.inr rfl) ?_)
    refine l_pure rfl (s_add  rfl rfl (r := (baQ q j + 1)) (by rw [htg]; exact wr_i64 _ ⟨rfl, by omega, by omega⟩) ?_)
    refine l_pure rfl (s_ixr (i := j)  rfl rfl (hO.sl hS enI_len) (by omega) (by first | omega | (simp; done) | (simp; omega)) si_25 ?_)
    refine l_heavy rfl (s_stG (i := j) (baQ q j + 1) enI_len  rfl rfl vi_2 hO hS (by omega) rfl rfl ?_)
    intro wz19 hS
    refine l_nil ?_
    repeat (with_reducible first | refine c_seq ?_ | refine c_block ?_ | refine c_skip ?_ | refine x_then ?_ | refine x_block ?_)
    obtain ⟨LO2, hO, hS⟩ := hS
    rw [hrs] at hO
    replace hS := hS.perm (permEnd _ _ _)
    repeat (with_reducible first | refine c_seq ?_ | refine c_block ?_ | refine c_skip ?_ | refine x_then ?_ | refine x_block ?_)
    refine c_reg ?_
    refine l_pure rfl (s_move  h7 ?_)
    refine l_pure rfl (s_move  h12 ?_)
    refine l_pure rfl (s_build  rfl bz_37 ?_)
    refine l_pure rfl (s_ixr (i := j)  rfl rfl (hP.sl hS encR_len) (by omega) (by first | omega | (simp; done) | (simp; omega)) si_22 ?_)
    refine l_heavy rfl (s_stG (i := j) zRR encR_len  rfl rfl vi_37 hP hS (by omega) rfl rfl ?_)
    intro wz20 hS
    refine l_nil ?_
    repeat (with_reducible first | refine c_seq ?_ | refine c_block ?_ | refine c_skip ?_ | refine x_then ?_ | refine x_block ?_)
    obtain ⟨LP2, hP, hS⟩ := hS
    rw [hps] at hP
    repeat (with_reducible first | refine c_seq ?_ | refine c_block ?_ | refine c_skip ?_ | refine x_then ?_ | refine x_block ?_)
    refine c_reg ?_
    refine l_pure rfl (s_move  h4 ?_)
    refine l_pure rfl (s_sub  rfl rfl (IntWalk.i64_in _ (by omega)) ?_)
    refine l_pure rfl (s_asg  rfl ?_)
    refine l_nil ?_
    repeat (with_reducible first | refine c_seq ?_ | refine c_block ?_ | refine c_skip ?_ | refine x_then ?_ | refine x_block ?_)
    exact ⟨k + 1, _, rfl, ⟨hkm, vi rfl (by omega), by assumption, by assumption, ⟨LO2, LP2, hO, hP, hS⟩⟩, by omega⟩
  · refine c_no rfl (decide_eq_false (by omega)) ?_
    repeat (with_reducible first | refine c_seq ?_ | refine c_block ?_ | refine c_skip ?_ | refine x_then ?_ | refine x_block ?_)
    refine c_exit ?_
    repeat (with_reducible first | refine x_then_exit ?_ | refine x_block_exit ?_ | refine x_block_pass rfl ?_)
    repeat (with_reducible first | refine c_seq ?_ | refine c_block ?_ | refine c_skip ?_ | refine x_then ?_ | refine x_block ?_)
    obtain rfl : k = m := by omega
    repeat (with_reducible first | refine c_seq ?_ | refine c_block ?_ | refine c_skip ?_ | refine x_then ?_ | refine x_block ?_)
    refine c_reg ?_
    refine l_pure rfl (s_move  h6 ?_)
    refine l_pure rfl (s_asg  rfl ?_)
    refine l_pure rfl (s_asg  rfl ?_)
    refine l_nil ?_
    repeat (with_reducible first | refine c_seq ?_ | refine c_block ?_ | refine c_skip ?_ | refine x_then ?_ | refine x_block ?_)
    refine c_ret ?_
    repeat (with_reducible first | refine x_then_ret ?_ | refine x_block_ret ?_)
    refine r_two rfl rfl rfl ?_
    refine ⟨⟨_, rfl, ?_⟩, hS.below⟩
    exact hO.sl (hS.perm (permEnd _ _ _)) enI_len
end Go.Proofs.YtmapmdldlcfjhaaGreatDoor
