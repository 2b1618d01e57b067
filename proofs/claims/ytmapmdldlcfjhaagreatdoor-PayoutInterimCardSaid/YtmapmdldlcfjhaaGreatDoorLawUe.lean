/-
  Walk: rounding a list with an exact sum (reference).
-/
import Derived.Test.YtmapmdldlcfjhaaGreatDoorLawUd
namespace Go.Proofs.YtmapmdldlcfjhaaGreatDoor
open Go Go.RowKit Go.Sx

def atI : Option Nat → Int
  | none => -1
  | some b => (b : Int)
/-- Those that have not been raised. -/
def notUp (J : List Nat) (k i : Nat) : Bool := !decide (i ∈ J.take k)
def upT (J : List Nat) (k i : Nat) : Bool := decide (i ∈ J.take k)
theorem upT_set {J : List Nat} {n k : Nat} (hk : k < J.length) : (tab n (upT J k)).set (J.getD k 0) true = tab n (upT J (k + 1)) := by
  rw [tab_set]
  refine tab_congr fun j _ => ?_
  unfold upT
  rw [take_succ' J k 0 hk]
  by_cases e : j = J.getD k 0
  · rw [if_pos e, e]
    exact (decide_eq_true (List.mem_append_right _ (List.mem_singleton.2 rfl))).symm
  · rw [if_neg e, decide_eq_decide]
    constructor
    · exact fun h => List.mem_append_left _ h
    · intro h
      rcases List.mem_append.1 h with h | h
      · exact h
      · exact absurd (List.mem_singleton.1 h) e
theorem pick_J {fr : Nat → Rat} {n : Nat} {J : List Nat} (h : Ord fr n J) {k : Nat} (hk : k < n) : best (notUp J k) fr n = some (J.getD k 0) :=
  h.pick hk (fun i hi => by unfold notUp at hi; simpa using hi) (by unfold notUp; simpa using nodup_at h.nodup (by rw [h.len]; exact hk))
theorem best_up {J : List Nat} {fr : Nat → Rat} {k i : Nat} (h : upT J k i = true) : best (notUp J k) fr (i + 1) = best (notUp J k) fr i := by
  have hn : notUp J k i ≠ true := by unfold notUp; unfold upT at h; rw [h]; decide
  rw [best]
  cases best (notUp J k) fr i with
  | none => simp only; rw [if_neg hn]
  | some b => simp only; rw [if_neg (fun g => hn g.1)]
theorem best_none {J : List Nat} {fr : Nat → Rat} {k i : Nat} (h : upT J k i = false) (hb : best (notUp J k) fr i = none) : best (notUp J k) fr (i + 1) = some i := by
  have hn : notUp J k i = true := by unfold notUp; unfold upT at h; rw [h]; rfl
  rw [best, hb]
  simp only; rw [if_pos hn]
theorem best_some {J : List Nat} {fr : Nat → Rat} {k i b : Nat} (h : upT J k i = false) (hb : best (notUp J k) fr i = some b) : best (notUp J k) fr (i + 1) = if fr b < fr i then some i else some b := by
  have hn : notUp J k i = true := by unfold notUp; unfold upT at h; rw [h]; rfl
  rw [best, hb]
  simp only
  by_cases g : fr b < fr i
  · rw [if_pos g, if_pos ⟨hn, g⟩]
  · rw [if_neg g, if_neg (fun q => g q.2)]
set_option maxHeartbeats 4000000 in
theorem rRound_ok (v : Value) (l : List RR) (K : Nat) (w : World) (hv : Sl encR 3 w v l) (hl : RB K l) (h20 : l.length ≤ 20) (hK : 100 * K + 200 ≤ MX) :
    Ret Tryz.prog 25 #[v] w fun r w' =>
      (rE l ≠ 0 ∧ r = .tuple #[.slice none 0 0, .int .i64 (rE l)] ∧ Below w.heap.size w w') ∨
      (rE l = 0 ∧ ∃ v' LO, r = .tuple #[v', .int .i64 0] ∧ Gl enI 2 1 v' (tab l.length (resC l)) LO ∧ St w w' ([] ++ LO)) := by
  have hM : MX = 1099511627776 := rfl
  have hmC : mxC = 1125899906842624 := rfl
  have hsl := sumL_le hl
  have hsl2 : l.length * (K + 1) ≤ 20 * (K + 1) := Nat.mul_le_mul_right _ h20
  have hLs := L_sumQ l
  have hsum := fun w h => rSum_ok v l w h (by omega)
  have hcs := fun w => rCents_ok (ofQ (sumQ (l.map toQ))) w (by rw [Lr_ofQ]; omega)
  rw [toQ_ofQ] at hcs
  have hLq0 : ∀ i, i < l.length → Lr (l.getD i zRR) ≤ K := fun i hi => hl _ (getD_mem l i zRR (by omega))
  have hS := St.init w
  refine enter Tryz.func25 rfl Tryz.ntmps25 rfl ?_
  repeat (with_reducible first | refine c_seq ?_ | refine c_block ?_ | refine c_skip ?_ | refine x_then ?_ | refine x_block ?_)
  refine c_reg ?_
  refine l_pure rfl (s_asg  rfl ?_)
  refine l_pure rfl (s_asg  rfl ?_)
  refine l_nil ?_
  repeat (with_reducible first | refine c_seq ?_ | refine c_block ?_ | refine c_skip ?_ | refine x_then ?_ | refine x_block ?_)
  refine c_reg ?_
  refine l_pure rfl (s_move  rfl ?_)
  refine l_pure rfl (s_lenr  rfl (hv.below hS.below) ⟨_, Tryz.underlying22⟩ ?_)
  refine l_pure rfl (s_gtr  rfl rfl ?_)
  refine l_nil ?_
  repeat (with_reducible first | refine c_seq ?_ | refine c_block ?_ | refine c_skip ?_ | refine x_then ?_ | refine x_block ?_)
  refine c_no rfl (decide_eq_false (by omega)) ?_
  repeat (with_reducible first | refine c_seq ?_ | refine c_block ?_ | refine c_skip ?_ | refine x_then ?_ | refine x_block ?_)
  refine c_reg ?_
  refine l_pure rfl (s_asg  rfl ?_)
  refine l_nil ?_
  repeat (with_reducible first | refine c_seq ?_ | refine c_skip ?_ | refine x_then ?_ | refine x_block ?_)
  refine c_cut1 (fun ρ w' => negs l = false ∧ ρ 0 = v ∧ St w w' []) ?_ ?_
  · repeat (with_reducible first | refine c_seq ?_ | refine c_block ?_ | refine c_skip ?_ | refine x_then ?_ | refine x_block ?_)
    refine c_loop (σ := Nat) (fun i ρ w' => i ≤ l.length ∧ negs (l.take i) = false ∧ ρ 0 = v ∧ ρ 4 = .int .i64 i ∧ St w w' []) (fun i => l.length - i) 0
      ⟨Nat.zero_le _, rfl, rfl, rfl, hS⟩ ?_
    clear hS
    rintro i ρ w2 ⟨hi, hn, h0, h4, hS⟩
    repeat (with_reducible first | refine c_seq ?_ | refine c_block ?_ | refine c_skip ?_ | refine x_then ?_ | refine x_block ?_)
    refine c_reg ?_
    refine l_pure rfl (s_move  h4 ?_)
    refine l_pure rfl (s_move  h0 ?_)
    refine l_pure rfl (s_lenr  rfl (hv.below hS.below) ⟨_, Tryz.underlying22⟩ ?_)
    refine l_pure rfl (s_lss  rfl rfl ?_)
    refine l_nil ?_
    repeat (with_reducible first | refine c_seq ?_ | refine c_block ?_ | refine c_skip ?_ | refine x_then ?_ | refine x_block ?_)
    by_cases hlt : i < l.length
    · refine c_yes rfl (decide_eq_true (by omega)) ?_
      repeat (with_reducible first | refine c_seq ?_ | refine c_block ?_ | refine c_skip ?_ | refine x_then ?_ | refine x_block ?_)
      obtain ⟨t1, t2⟩ := negs_take l hlt hn
      have := hLq0 i hlt
      repeat (with_reducible first | refine c_seq ?_ | refine c_block ?_ | refine c_skip ?_ | refine x_then ?_ | refine x_block ?_)
      refine c_reg ?_
      refine l_pure rfl (s_move  h0 ?_)
      refine l_pure rfl (s_move  h4 ?_)
      refine l_pure rfl (s_ixr (i := i)  rfl rfl (hv.below hS.below) (by omega) (by first | omega | (simp; done) | (simp; omega)) si_22 ?_)
      refine l_read rfl (s_lde (i := i) zRR  rfl vi_37 (hv.below hS.below) (by first | omega | (simp; done) | (simp; omega)) rfl rfl (.inl rfl) ?_)
      refine l_heavy rfl (s_call Tryz.call61 rfl (rSign_ok (l.getD i zRR) _ (by omega)) ?_)
      rintro _ wc1 ⟨rfl, hBc1⟩
      replace hS := hS.grow hBc1
      refine l_pure rfl (s_lss  rfl rfl ?_)
      refine l_nil ?_
      repeat (with_reducible first | refine c_seq ?_ | refine c_block ?_ | refine c_skip ?_ | refine x_then ?_ | refine x_block ?_)
      by_cases hneg : toQ (l.getD i zRR) < 0
      · have he : rE l = 7 := by unfold rE; rw [if_neg (by omega), t2 hneg, if_pos rfl]
        refine c_yes rfl (decide_eq_true (sgnQ_neg.2 hneg)) ?_
        repeat (with_reducible first | refine c_seq ?_ | refine c_block ?_ | refine c_skip ?_ | refine x_then ?_ | refine x_block ?_)
        refine c_reg ?_
        refine l_pure rfl (s_asg  rfl ?_)
        refine l_pure rfl (s_asg  rfl ?_)
        refine l_nil ?_
        repeat (with_reducible first | refine c_seq ?_ | refine c_block ?_ | refine c_skip ?_ | refine x_then ?_ | refine x_block ?_)
        refine c_ret ?_
        repeat (with_reducible first | refine x_then_ret ?_ | refine x_block_ret ?_)
        refine r_two rfl rfl rfl ?_
        exact .inl ⟨by rw [he]; decide, by rw [he]; rfl, hS.below⟩
      · refine c_no rfl (decide_eq_false (fun g => hneg (sgnQ_neg.1 g))) ?_
        repeat (with_reducible first | refine c_seq ?_ | refine c_block ?_ | refine c_skip ?_ | refine x_then ?_ | refine x_block ?_)
        refine c_reg ?_
        refine l_pure rfl (s_move  h4 ?_)
        refine l_pure rfl (s_add  rfl rfl (IntWalk.i64_in _ (by omega)) ?_)
        refine l_pure rfl (s_asg  rfl ?_)
        refine l_nil ?_
        repeat (with_reducible first | refine c_seq ?_ | refine c_block ?_ | refine c_skip ?_ | refine x_then ?_ | refine x_block ?_)
        exact ⟨i + 1, _, rfl, ⟨hlt, t1 hneg, h0, vi rfl (by omega), hS⟩, by omega⟩
    · refine c_no rfl (decide_eq_false (by omega)) ?_
      repeat (with_reducible first | refine c_seq ?_ | refine c_block ?_ | refine c_skip ?_ | refine x_then ?_ | refine x_block ?_)
      refine c_exit ?_
      repeat (with_reducible first | refine x_then_exit ?_ | refine x_block_exit ?_ | refine x_block_pass rfl ?_)
      repeat (with_reducible first | refine c_seq ?_ | refine c_block ?_ | refine c_skip ?_ | refine x_then ?_ | refine x_block ?_)
      obtain rfl : i = l.length := by omega
      rw [List.take_length] at hn
      exact ⟨_, rfl, hn, h0, hS⟩
  clear hS
  rintro ρ w2 ⟨hn, h0, hS⟩
  have he : rE l = cE (sumQ (l.map toQ)) := by unfold rE; rw [if_neg (by omega), hn, if_neg (by decide)]
  repeat (with_reducible first | refine c_seq ?_ | refine c_block ?_ | refine c_skip ?_ | refine x_then ?_ | refine x_block ?_)
  refine c_reg ?_
  refine l_pure rfl (s_move  h0 ?_)
  refine l_heavy rfl (s_call Tryz.call27 rfl (hsum _ (hv.below hS.below)) ?_)
  rintro _ wc2 ⟨rfl, hBc2⟩
  replace hS := hS.grow hBc2
  refine l_heavy rfl (s_call Tryz.call21 rfl (hcs _) ?_)
  rintro _ wc3 ⟨rfl, hBc3⟩
  replace hS := hS.grow hBc3
  refine l_pure rfl (s_move  rfl ?_)
  refine l_pure rfl (s_ext  rfl rfl ?_)
  refine l_pure rfl (s_ext  rfl rfl ?_)
  refine l_pure rfl (s_asg  rfl ?_)
  refine l_pure rfl (s_asg  rfl ?_)
  refine l_nil ?_
  repeat (with_reducible first | refine c_seq ?_ | refine c_block ?_ | refine c_skip ?_ | refine x_then ?_ | refine x_block ?_)
  refine c_reg ?_
  refine l_pure rfl (s_move  rfl ?_)
  refine l_pure rfl (s_neq  rfl rfl ?_)
  refine l_nil ?_
  repeat (with_reducible first | refine c_seq ?_ | refine c_block ?_ | refine c_skip ?_ | refine x_then ?_ | refine x_block ?_)
  rw [← he]
  by_cases hz : rE l = 0
  · have hN : cN (sumQ (l.map toQ)) = flC (sumQ (l.map toQ)) := by unfold cN; rw [← he, if_pos hz]
    obtain ⟨T, hT⟩ : ∃ T, T = flC (sumQ (l.map toQ)) := ⟨_, rfl⟩
    rw [hN, ← hT]
    obtain ⟨n, hn'⟩ : ∃ n, n = l.length := ⟨_, rfl⟩
    obtain ⟨q, hq⟩ : ∃ q, q = qC l := ⟨_, rfl⟩
    obtain ⟨J, hJ⟩ : ∃ J, J = ordC l := ⟨_, rfl⟩
    have hord := ordC_ord l
    have hsb := fun i hi => sumC_bound hz (i := i) hi
    have hbb := fun i hi => baC_bound hz (i := i) hi
    have hrb := fun i hi => resC_bound hz (i := i) hi
    have hlf := lfC l
    have hres : resC l = resQ q J n := by rw [hq, hJ, hn']; rfl
    have hTm := (rE_zero hz).2.2.2.2.1
    have hT0 := (rE_zero hz).2.2.2.1
    have hfq : ∀ i, flC (toQ (l.getD i zRR)) = baQ q i := fun i => by rw [hq]; rfl
    have hrq : ∀ i, frC (toQ (l.getD i zRR)) = frQ q i := fun i => by rw [hq]; rfl
    have hLq : ∀ i, i < n → Lr (l.getD i zRR) ≤ K := fun i hi => hLq0 i (by omega)
    have hLf : ∀ i, i < n → L (frQ q i) ≤ 2 * K + 4 := fun i hi => by
      rw [← hrq]
      have := L_frC (toQ (l.getD i zRR))
      have := L_toQ (l.getD i zRR)
      have := hLq i hi
      omega
    rw [← hT] at hsb hbb hlf hTm hT0
    rw [hres] at hrb ⊢
    rw [← hq, ← hJ, ← hn'] at hord
    rw [← hq] at hsb hbb
    rw [← hq, ← hn'] at hlf
    rw [← hn'] at hsb hbb hrb h20 ⊢
    have hcN : ∀ i, i < n → cN (toQ (l.getD i zRR)) = baQ q i := fun i hi => by
      have h1 := hbb i hi
      have h2 := hfq i
      have h3 := negs_get hn i
      have : cE (toQ (l.getD i zRR)) = 0 := by unfold cE; rw [if_neg (Rat.not_lt.2 h3), h2, if_neg (by omega)]
      unfold cN
      rw [if_pos this, h2]
    refine c_no rfl (decide_eq_false (not_not_intro hz)) ?_
    repeat (with_reducible first | refine c_seq ?_ | refine c_block ?_ | refine c_skip ?_ | refine x_then ?_ | refine x_block ?_)
    refine c_forget (fun ρ' => ρ' 0 = v ∧ ρ' 5 = .int .i64 T ∧ True) ⟨h0, rfl, trivial⟩ ?_
    rintro ρk4 ⟨hk4_0, hk4_5, -⟩
    repeat (with_reducible first | refine c_seq ?_ | refine c_block ?_ | refine c_skip ?_ | refine x_then ?_ | refine x_block ?_)
    refine c_reg ?_
    refine l_pure rfl (s_asg  rfl ?_)
    refine l_nil ?_
    repeat (with_reducible first | refine c_seq ?_ | refine c_block ?_ | refine c_skip ?_ | refine x_then ?_ | refine x_block ?_)
    refine c_reg ?_
    refine l_pure rfl (s_asg  rfl ?_)
    refine l_nil ?_
    repeat (with_reducible first | refine c_seq ?_ | refine c_skip ?_ | refine x_then ?_ | refine x_block ?_)
    refine c_cut1 (fun ρ w' => ρ 0 = v ∧ ρ 5 = .int .i64 (T - sumZ (baQ q) n) ∧ ∃ sO LO, ρ 7 = sO ∧ Gl enI 2 1 sO (tab n (baQ q)) LO ∧ St w w' ([] ++ LO)) ?_ ?_
    · repeat (with_reducible first | refine c_seq ?_ | refine c_block ?_ | refine c_skip ?_ | refine x_then ?_ | refine x_block ?_)
      refine c_loop (σ := Nat) (fun i ρ w' => i ≤ n ∧ ρ 0 = v ∧ ρ 5 = .int .i64 (T - sumZ (baQ q) i) ∧ ρ 8 = .int .i64 i ∧ ∃ sO LO, ρ 7 = sO ∧ Gl enI 2 1 sO (tab i (baQ q)) LO ∧ St w w' ([] ++ LO)) (fun i => n - i) 0
        ⟨Nat.zero_le _, by assumption, vi (by assumption) (by show T = T - 0; omega), rfl, ⟨_, [], rfl, Gl.nil _ _ _, hS⟩⟩ ?_
      clear hS
      rintro i ρ w3 ⟨hi, h0, h5, h8, sO, LO, h7, hG, hS⟩
      have htl := tab_len i (baQ q)
      repeat (with_reducible first | refine c_seq ?_ | refine c_block ?_ | refine c_skip ?_ | refine x_then ?_ | refine x_block ?_)
      refine c_reg ?_
      refine l_pure rfl (s_move  h8 ?_)
      refine l_pure rfl (s_move  h0 ?_)
      refine l_pure rfl (s_lenr  rfl (hv.below hS.below) ⟨_, Tryz.underlying22⟩ ?_)
      refine l_pure rfl (s_lss  rfl rfl ?_)
      refine l_nil ?_
      repeat (with_reducible first | refine c_seq ?_ | refine c_block ?_ | refine c_skip ?_ | refine x_then ?_ | refine x_block ?_)
      by_cases hlt : i < n
      · refine c_yes rfl (decide_eq_true (by omega)) ?_
        repeat (with_reducible first | refine c_seq ?_ | refine c_block ?_ | refine c_skip ?_ | refine x_then ?_ | refine x_block ?_)
        obtain ⟨sc1, sc2⟩ := hsb (i + 1) (by omega)
        have hss : sumZ (baQ q) (i + 1) = sumZ (baQ q) i + baQ q i := rfl
        obtain ⟨sb1, sb2⟩ := hsb i (by omega)
        have := hLq i hlt
        have hci := fun w => rCents_ok (l.getD i zRR) w (by omega)
        rw [hcN i hlt] at hci
        repeat (with_reducible first | refine c_seq ?_ | refine c_block ?_ | refine c_skip ?_ | refine x_then ?_ | refine x_block ?_)
        refine c_reg ?_
        refine l_pure rfl (s_move  h0 ?_)
        refine l_pure rfl (s_move  h8 ?_)
        refine l_pure rfl (s_ixr (i := i)  rfl rfl (hv.below hS.below) (by omega) (by first | omega | (simp; done) | (simp; omega)) si_22 ?_)
        refine l_read rfl (s_lde (i := i) zRR  rfl vi_37 (hv.below hS.below) (by first | omega | (simp; done) | (simp; omega)) rfl rfl (.inl rfl) ?_)
        refine l_heavy rfl (s_call Tryz.call21 rfl (hci _) ?_)
        rintro _ wc5 ⟨rfl, hBc5⟩
        replace hS := hS.grow hBc5
        refine l_pure rfl (s_move  rfl ?_)
        refine l_pure rfl (s_ext  rfl rfl ?_)
        refine l_pure rfl (s_ext  rfl rfl ?_)
        refine l_pure rfl (s_asg  rfl ?_)
        refine l_pure rfl (s_asg  rfl ?_)
        refine l_nil ?_
        repeat (with_reducible first | refine c_seq ?_ | refine c_block ?_ | refine c_skip ?_ | refine x_then ?_ | refine x_block ?_)
        refine c_reg ?_
        refine l_pure rfl (s_move  h5 ?_)
        refine l_pure rfl (s_move  rfl ?_)
        refine l_pure rfl (s_sub  rfl rfl (r := (T - sumZ (baQ q) (i + 1))) (by exact wr_i64 _ ⟨by omega, by omega, by omega⟩) ?_)
        refine l_pure rfl (s_asg  rfl ?_)
        refine l_nil ?_
        repeat (with_reducible first | refine c_seq ?_ | refine c_block ?_ | refine c_skip ?_ | refine x_then ?_ | refine x_block ?_)
        refine c_reg ?_
        refine l_pure rfl (s_move  h7 ?_)
        refine l_pure rfl (s_move  rfl ?_)
        refine l_heavy rfl (s_bsl (vs := [.int .i64 (baQ q i)])  rfl si_25 rfl (by decide) (by decide) (by decide) (by simp [Value.cells]) rfl hS ?_)
        intro bx wz6 hS hBz6
        refine l_heavy rfl (s_appl [baQ q i]  rfl rfl si_25 (by decide) hG hS rfl rfl enI_len (enI_one [baQ q i]) (by first | omega | (simp only [List.length_cons, List.length_nil]; omega)) (by first | omega | (simp only [List.length_cons, List.length_nil]; omega)) ?_)
        intro va7 La7 wa7 hG hS hga7
        refine l_pure rfl (s_asg  rfl ?_)
        refine l_nil ?_
        repeat (with_reducible first | refine c_seq ?_ | refine c_block ?_ | refine c_skip ?_ | refine x_then ?_ | refine x_block ?_)
        rw [← tab_succ] at hG
        repeat (with_reducible first | refine c_seq ?_ | refine c_block ?_ | refine c_skip ?_ | refine x_then ?_ | refine x_block ?_)
        refine c_reg ?_
        refine l_pure rfl (s_move  h8 ?_)
        refine l_pure rfl (s_add  rfl rfl (IntWalk.i64_in _ (by omega)) ?_)
        refine l_pure rfl (s_asg  rfl ?_)
        refine l_nil ?_
        repeat (with_reducible first | refine c_seq ?_ | refine c_block ?_ | refine c_skip ?_ | refine x_then ?_ | refine x_block ?_)
        exact ⟨i + 1, _, rfl, ⟨hlt, by assumption, rfl, vi rfl (by omega), ⟨_, _, rfl, hG, hS⟩⟩, by omega⟩
      · refine c_no rfl (decide_eq_false (by omega)) ?_
        repeat (with_reducible first | refine c_seq ?_ | refine c_block ?_ | refine c_skip ?_ | refine x_then ?_ | refine x_block ?_)
        refine c_exit ?_
        repeat (with_reducible first | refine x_then_exit ?_ | refine x_block_exit ?_ | refine x_block_pass rfl ?_)
        repeat (with_reducible first | refine c_seq ?_ | refine c_block ?_ | refine c_skip ?_ | refine x_then ?_ | refine x_block ?_)
        obtain rfl : i = n := by omega
        exact ⟨_, rfl, h0, h5, ⟨_, _, h7, hG, hS⟩⟩
    clear hS
    rintro ρ w3 ⟨h0, h5, sO, LO, h7, hG, hS⟩
    rw [← hlf] at h5
    have hroom := lf_room hord
    have hl0 := lfQ_nonneg q n
    have hJl : J.length = n := hord.len
    obtain ⟨m, hm⟩ : ∃ m, m = (lfQ q n).toNat := ⟨_, rfl⟩
    have hlm : lfQ q n = (m : Int) := by omega
    have hmn : m ≤ n := by rw [hm]; exact hroom.1
    rw [hlm] at h5
    have hrm : resQ q J n = rnd (baQ q) J m := by rw [hm]; rfl
    rw [hrm] at hrb ⊢
    repeat (with_reducible first | refine c_seq ?_ | refine c_block ?_ | refine c_skip ?_ | refine x_then ?_ | refine x_block ?_)
    refine c_reg ?_
    refine l_pure rfl (s_move  h0 ?_)
    refine l_pure rfl (s_lenr  rfl (hv.below hS.below) ⟨_, Tryz.underlying22⟩ ?_)
    refine l_heavy rfl (s_makeE (enc := enB) (n := n) false  rfl rfl si_80 rfl (by omega) (by omega) (by omega) (by omega) hS ?_)
    intro b11 wz8 hS hBz8
    refine l_pure rfl (s_asg  rfl ?_)
    refine l_nil ?_
    repeat (with_reducible first | refine c_seq ?_ | refine c_block ?_ | refine c_skip ?_ | refine x_then ?_ | refine x_block ?_)
    have e0 : List.replicate n false = tab n (upT J 0) := by
      rw [tab_rep]
      exact tab_congr fun _ _ => rfl
    rw [← rnd_zero (baQ q) J] at hG
    refine c_loop (σ := Nat) (fun k ρ w' => k ≤ m ∧ ρ 0 = v ∧ ρ 5 = .int .i64 ((m : Int) - k) ∧ ρ 7 = sO ∧ ρ 11 = .slice (some ⟨b11, 0, none⟩) n n ∧
        ∃ LO, Gl enI 2 1 sO (tab n (rnd (baQ q) J k)) LO ∧ St w w' ([(b11, 4, (tab n (upT J k)).flatMap enB)] ++ LO)) (fun k => m - k) 0
      ⟨Nat.zero_le _, by assumption, vi (by assumption) (by omega), by assumption, rfl, ⟨LO, hG, by rw [← e0]; exact hS⟩⟩ ?_
    clear hS hG h0 h5 h7
    rintro k ρ w4 ⟨hk, h0, h5, h7, h11, LO, hG, hS⟩
    repeat (with_reducible first | refine c_seq ?_ | refine c_block ?_ | refine c_skip ?_ | refine x_then ?_ | refine x_block ?_)
    refine c_reg ?_
    refine l_pure rfl (s_move  h5 ?_)
    refine l_pure rfl (s_gtr  rfl rfl ?_)
    refine l_nil ?_
    repeat (with_reducible first | refine c_seq ?_ | refine c_block ?_ | refine c_skip ?_ | refine x_then ?_ | refine x_block ?_)
    by_cases hkm : k < m
    · refine c_yes rfl (decide_eq_true (by omega)) ?_
      repeat (with_reducible first | refine c_seq ?_ | refine c_block ?_ | refine c_skip ?_ | refine x_then ?_ | refine x_block ?_)
      have hup := upT_set (J := J) (n := n) (k := k) (by omega)
      have hpk := pick_J hord (k := k) (by omega)
      have hjn := hord.lt (k := k) (by omega)
      have hra := rnd_at (ba := baQ q) hord.nodup (k := k) (by omega)
      have hrs := rnd_set (ba := baQ q) (l := J) (n := n) (k := k) (by omega)
      obtain ⟨j, hj⟩ : ∃ j, j = J.getD k 0 := ⟨_, rfl⟩
      rw [← hj] at hup hpk hjn hra hrs
      have hbj := hbb j hjn
      have htu := tab_len n (upT J k)
      have htr := tab_len n (rnd (baQ q) J k)
      repeat (with_reducible first | refine c_seq ?_ | refine c_block ?_ | refine c_skip ?_ | refine x_then ?_ | refine x_block ?_)
      refine c_reg ?_
      refine l_pure rfl (s_asg  rfl ?_)
      refine l_nil ?_
      repeat (with_reducible first | refine c_seq ?_ | refine c_block ?_ | refine c_skip ?_ | refine x_then ?_ | refine x_block ?_)
      refine c_reg ?_
      refine l_pure rfl (s_asg  rfl ?_)
      refine l_nil ?_
      repeat (with_reducible first | refine c_seq ?_ | refine c_skip ?_ | refine x_then ?_ | refine x_block ?_)
      refine c_cut1 (fun ρ w' => ρ 0 = v ∧ ρ 5 = .int .i64 ((m : Int) - k) ∧ ρ 7 = sO ∧ ρ 11 = .slice (some ⟨b11, 0, none⟩) n n ∧ ρ 12 = .int .i64 j ∧ St w w' ([(b11, 4, (tab n (upT J k)).flatMap enB)] ++ LO)) ?_ ?_
      · repeat (with_reducible first | refine c_seq ?_ | refine c_block ?_ | refine c_skip ?_ | refine x_then ?_ | refine x_block ?_)
        refine c_loop (σ := Nat) (fun i ρ w' => i ≤ n ∧ ρ 0 = v ∧ ρ 5 = .int .i64 ((m : Int) - k) ∧ ρ 7 = sO ∧ ρ 11 = .slice (some ⟨b11, 0, none⟩) n n ∧ ρ 12 = .int .i64 (atI (best (notUp J k) (frQ q) i)) ∧ ρ 13 = .int .i64 i ∧ St w w' ([(b11, 4, (tab n (upT J k)).flatMap enB)] ++ LO)) (fun i => n - i) 0
          ⟨Nat.zero_le _, by assumption, by assumption, by assumption, by assumption, rfl, rfl, hS⟩ ?_
        clear hS h0 h5 h7 h11
        rintro i ρ w5 ⟨hi, h0, h5, h7, h11, h12, h13, hS⟩
        repeat (with_reducible first | refine c_seq ?_ | refine c_block ?_ | refine c_skip ?_ | refine x_then ?_ | refine x_block ?_)
        refine c_reg ?_
        refine l_pure rfl (s_move  h13 ?_)
        refine l_pure rfl (s_move  h0 ?_)
        refine l_pure rfl (s_lenr  rfl (hv.below hS.below) ⟨_, Tryz.underlying22⟩ ?_)
        refine l_pure rfl (s_lss  rfl rfl ?_)
        refine l_nil ?_
        repeat (with_reducible first | refine c_seq ?_ | refine c_block ?_ | refine c_skip ?_ | refine x_then ?_ | refine x_block ?_)
        by_cases hlt : i < n
        · refine c_yes rfl (decide_eq_true (by omega)) ?_
          repeat (with_reducible first | refine c_seq ?_ | refine c_block ?_ | refine c_skip ?_ | refine x_then ?_ | refine x_block ?_)
          have hgu : (tab n (upT J k)).getD i false = upT J k i := tab_get _ _ hlt
          cases hu : upT J k i with
          | true =>
            rw [hu] at hgu
            repeat (with_reducible first | refine c_seq ?_ | refine c_block ?_ | refine c_skip ?_ | refine x_then ?_ | refine x_block ?_)
            refine c_draw [(0, .pure), (1, .pure), (2, .pure), (3, .read), (4, .pure), (5, .pure), (6, .pure), (7, .pure), (8, .pure), (9, .pure), (10, .pure), (11, .pure), (12, .read), (14, .pure), (15, .pure), (16, .pure), (17, .read), (13, .grow), (18, .grow), (19, .grow), (20, .pure), (21, .pure)] (by kernel_rfl) (by kernel_rfl) hS ?_
            intro wz9 hS hBz9
            refine w_pure rfl rfl (s_move  h11 ?_)
            refine w_pure rfl rfl (s_move  h13 ?_)
            refine w_pure rfl rfl (s_ixo (i := i)  rfl rfl (by omega) (by first | omega | (simp; done) | (simp; omega)) si_80 ?_)
            refine w_read rfl rfl (s_ldE (k := 0) (i := i) (enc := enB) false (fun _ => rfl)  rfl vi_4 hS rfl (by first | omega | simp) (by first | omega | (simp; done) | (simp; omega)) rfl (.inr rfl) ?_)
            refine w_pure rfl rfl (s_not  rfl ?_)
            refine w_pure rfl rfl (s_move  rfl ?_)
            refine w_no rfl (gno_yes 75 (by kernel_rfl) rfl (by rw [hgu] <;> rfl)) ?_
            refine w_no rfl (gno_yes 75 (by kernel_rfl) rfl (by rw [hgu] <;> rfl)) ?_
            refine w_no rfl (gno_yes 75 (by kernel_rfl) rfl (by rw [hgu] <;> rfl)) ?_
            refine w_no rfl (gno_un 78 (by kernel_rfl) rfl) ?_
            refine w_no rfl (gno_un 78 (by kernel_rfl) rfl) ?_
            refine w_no rfl (gno_un 78 (by kernel_rfl) rfl) ?_
            refine w_no rfl (gno_un 78 (by kernel_rfl) rfl) ?_
            refine w_no rfl (gno_un 78 (by kernel_rfl) rfl) ?_
            refine w_no rfl (gno_un 78 (by kernel_rfl) rfl) ?_
            refine w_no rfl (gno_un 78 (by kernel_rfl) rfl) ?_
            refine w_no rfl (gno_un 78 (by kernel_rfl) rfl) ?_
            refine w_no rfl (gno_un 78 (by kernel_rfl) rfl) ?_
            refine w_no rfl (gno_un 78 (by kernel_rfl) rfl) ?_
            refine w_no rfl (gno_un 78 (by kernel_rfl) rfl) ?_
            refine w_no rfl (gno_yes 75 (by kernel_rfl) rfl (by rw [hgu] <;> rfl)) ?_
            refine w_pure rfl rfl (s_pick (vb rfl (by rw [hgu] <;> rfl)) rfl ?_)
            refine w_end ?_
            repeat (with_reducible first | refine c_seq ?_ | refine c_block ?_ | refine c_skip ?_ | refine x_then ?_ | refine x_block ?_)
            refine c_no rfl (rfl) ?_
            repeat (with_reducible first | refine c_seq ?_ | refine c_block ?_ | refine c_skip ?_ | refine x_then ?_ | refine x_block ?_)
            refine c_reg ?_
            refine l_pure rfl (s_move  h13 ?_)
            refine l_pure rfl (s_add  rfl rfl (IntWalk.i64_in _ (by omega)) ?_)
            refine l_pure rfl (s_asg  rfl ?_)
            refine l_nil ?_
            repeat (with_reducible first | refine c_seq ?_ | refine c_block ?_ | refine c_skip ?_ | refine x_then ?_ | refine x_block ?_)
            exact ⟨i + 1, _, rfl, ⟨hlt, by assumption, by assumption, by assumption, by assumption, by rw [best_up hu]; assumption, vi rfl (by omega), hS⟩, by omega⟩
          | false =>
            rw [hu] at hgu
            cases hb : best (notUp J k) (frQ q) i with
            | none =>
              rw [hb] at h12
              repeat (with_reducible first | refine c_seq ?_ | refine c_block ?_ | refine c_skip ?_ | refine x_then ?_ | refine x_block ?_)
              refine c_draw [(0, .pure), (1, .pure), (2, .pure), (3, .read), (4, .pure), (5, .pure), (6, .pure), (7, .pure), (8, .pure), (9, .pure), (10, .pure), (11, .pure), (12, .read), (14, .pure), (15, .pure), (16, .pure), (17, .read), (13, .grow), (18, .grow), (19, .grow), (20, .pure), (21, .pure)] (by kernel_rfl) (by kernel_rfl) hS ?_
              intro wz10 hS hBz10
              refine w_pure rfl rfl (s_move  h11 ?_)
              refine w_pure rfl rfl (s_move  h13 ?_)
              refine w_pure rfl rfl (s_ixo (i := i)  rfl rfl (by omega) (by first | omega | (simp; done) | (simp; omega)) si_80 ?_)
              refine w_read rfl rfl (s_ldE (k := 0) (i := i) (enc := enB) false (fun _ => rfl)  rfl vi_4 hS rfl (by first | omega | simp) (by first | omega | (simp; done) | (simp; omega)) rfl (.inr rfl) ?_)
              refine w_pure rfl rfl (s_not  rfl ?_)
              refine w_pure rfl rfl (s_move  rfl ?_)
              refine w_pure rfl (gd_yes 75 (by kernel_rfl) rfl (by rw [hgu] <;> rfl)) (s_move  h12 ?_)
              refine w_pure rfl (gd_yes 75 (by kernel_rfl) rfl (by rw [hgu] <;> rfl)) (s_lss  rfl rfl ?_)
              refine w_pure rfl (gd_yes 75 (by kernel_rfl) rfl (by rw [hgu] <;> rfl)) (s_move  rfl ?_)
              refine w_no rfl (gno_yes 78 (by kernel_rfl) rfl (decide_eq_true (by decide))) ?_
              refine w_no rfl (gno_yes 78 (by kernel_rfl) rfl (decide_eq_true (by decide))) ?_
              refine w_no rfl (gno_yes 78 (by kernel_rfl) rfl (decide_eq_true (by decide))) ?_
              refine w_no rfl (gno_yes 78 (by kernel_rfl) rfl (decide_eq_true (by decide))) ?_
              refine w_no rfl (gno_yes 78 (by kernel_rfl) rfl (decide_eq_true (by decide))) ?_
              refine w_no rfl (gno_yes 78 (by kernel_rfl) rfl (decide_eq_true (by decide))) ?_
              refine w_no rfl (gno_yes 78 (by kernel_rfl) rfl (decide_eq_true (by decide))) ?_
              refine w_no rfl (gno_yes 78 (by kernel_rfl) rfl (decide_eq_true (by decide))) ?_
              refine w_no rfl (gno_yes 78 (by kernel_rfl) rfl (decide_eq_true (by decide))) ?_
              refine w_no rfl (gno_yes 78 (by kernel_rfl) rfl (decide_eq_true (by decide))) ?_
              refine w_no rfl (gno_yes 78 (by kernel_rfl) rfl (decide_eq_true (by decide))) ?_
              refine w_pure rfl (gd_yes 75 (by kernel_rfl) rfl (by rw [hgu] <;> rfl)) (s_pick (vb rfl (decide_eq_true (by decide))) rfl ?_)
              refine w_pure rfl rfl (s_pick (vb rfl (by rw [hgu] <;> rfl)) rfl ?_)
              refine w_end ?_
              repeat (with_reducible first | refine c_seq ?_ | refine c_block ?_ | refine c_skip ?_ | refine x_then ?_ | refine x_block ?_)
              refine c_yes rfl (rfl) ?_
              repeat (with_reducible first | refine c_seq ?_ | refine c_block ?_ | refine c_skip ?_ | refine x_then ?_ | refine x_block ?_)
              refine c_reg ?_
              refine l_pure rfl (s_move  h13 ?_)
              refine l_pure rfl (s_asg  rfl ?_)
              refine l_nil ?_
              repeat (with_reducible first | refine c_seq ?_ | refine c_block ?_ | refine c_skip ?_ | refine x_then ?_ | refine x_block ?_)
              refine c_reg ?_
              refine l_pure rfl (s_move  h13 ?_)
              refine l_pure rfl (s_add  rfl rfl (IntWalk.i64_in _ (by omega)) ?_)
              refine l_pure rfl (s_asg  rfl ?_)
              refine l_nil ?_
              repeat (with_reducible first | refine c_seq ?_ | refine c_block ?_ | refine c_skip ?_ | refine x_then ?_ | refine x_block ?_)
              exact ⟨i + 1, _, rfl, ⟨hlt, by assumption, by assumption, by assumption, by assumption, by rw [best_none hu hb]; rfl, vi rfl (by omega), hS⟩, by omega⟩
            | some b =>
              rw [hb] at h12
              replace h12 : ρ 12 = .int .i64 (b : Int) := h12
              have hbi := (best_lt hb).1
              have hLb := hLq b (by omega)
              have hLi := hLq i hlt
              have hfb := hLf b (by omega)
              have hfi := hLf i hlt
              have hf1 := fun w => fraction_ok (l.getD b zRR) w (by omega)
              have hf2 := fun w => fraction_ok (l.getD i zRR) w (by omega)
              rw [hrq] at hf1 hf2
              have hbs := best_some hu hb
              repeat (with_reducible first | refine c_seq ?_ | refine c_block ?_ | refine c_skip ?_ | refine x_then ?_ | refine x_block ?_)
              refine c_draw [(0, .pure), (1, .pure), (2, .pure), (3, .read), (4, .pure), (5, .pure), (6, .pure), (7, .pure), (8, .pure), (9, .pure), (10, .pure), (11, .pure), (12, .read), (14, .pure), (15, .pure), (16, .pure), (17, .read), (13, .grow), (18, .grow), (19, .grow), (20, .pure), (21, .pure)] (by kernel_rfl) (by kernel_rfl) hS ?_
              intro wz11 hS hBz11
              refine w_pure rfl rfl (s_move  h11 ?_)
              refine w_pure rfl rfl (s_move  h13 ?_)
              refine w_pure rfl rfl (s_ixo (i := i)  rfl rfl (by omega) (by first | omega | (simp; done) | (simp; omega)) si_80 ?_)
              refine w_read rfl rfl (s_ldE (k := 0) (i := i) (enc := enB) false (fun _ => rfl)  rfl vi_4 hS rfl (by first | omega | simp) (by first | omega | (simp; done) | (simp; omega)) rfl (.inr rfl) ?_)
              refine w_pure rfl rfl (s_not  rfl ?_)
              refine w_pure rfl rfl (s_move  rfl ?_)
              refine w_pure rfl (gd_yes 75 (by kernel_rfl) rfl (by rw [hgu] <;> rfl)) (s_move  h12 ?_)
              refine w_pure rfl (gd_yes 75 (by kernel_rfl) rfl (by rw [hgu] <;> rfl)) (s_lss  rfl rfl ?_)
              refine w_pure rfl (gd_yes 75 (by kernel_rfl) rfl (by rw [hgu] <;> rfl)) (s_move  rfl ?_)
              refine w_pure rfl (gd_yes 78 (by kernel_rfl) rfl (decide_eq_false (by omega))) (s_move  h0 ?_)
              refine w_pure rfl (gd_yes 78 (by kernel_rfl) rfl (decide_eq_false (by omega))) (s_move  h12 ?_)
              refine w_pure rfl (gd_yes 78 (by kernel_rfl) rfl (decide_eq_false (by omega))) (s_ixr (i := b)  rfl rfl (hv.below hS.below) (by omega) (by first | omega | (simp; done) | (simp; omega)) si_22 ?_)
              refine w_read rfl (gd_yes 78 (by kernel_rfl) rfl (decide_eq_false (by omega))) (s_lde (i := b) zRR  rfl vi_37 (hv.below hS.below) (by first | omega | (simp; done) | (simp; omega)) rfl rfl (.inl rfl) ?_)
              refine w_pure rfl (gd_yes 78 (by kernel_rfl) rfl (decide_eq_false (by omega))) (s_move  h0 ?_)
              refine w_pure rfl (gd_yes 78 (by kernel_rfl) rfl (decide_eq_false (by omega))) (s_move  h13 ?_)
              refine w_pure rfl (gd_yes 78 (by kernel_rfl) rfl (decide_eq_false (by omega))) (s_ixr (i := i)  rfl rfl (hv.below hS.below) (by omega) (by first | omega | (simp; done) | (simp; omega)) si_22 ?_)
              refine w_read rfl (gd_yes 78 (by kernel_rfl) rfl (decide_eq_false (by omega))) (s_lde (i := i) zRR  rfl vi_37 (hv.below hS.below) (by first | omega | (simp; done) | (simp; omega)) rfl rfl (.inl rfl) ?_)
              refine w_grow rfl (gd_yes 78 (by kernel_rfl) rfl (decide_eq_false (by omega))) (s_call Tryz.call70 rfl (hf1 _) ?_)
              rintro r w6 ⟨rfl, hB6⟩
              refine ⟨hB6, ?_⟩
              replace hS := hS.grow hB6
              refine w_grow rfl (gd_yes 78 (by kernel_rfl) rfl (decide_eq_false (by omega))) (s_call Tryz.call70 rfl (hf2 _) ?_)
              rintro r w7 ⟨rfl, hB7⟩
              refine ⟨hB7, ?_⟩
              replace hS := hS.grow hB7
              refine w_grow rfl (gd_yes 78 (by kernel_rfl) rfl (decide_eq_false (by omega))) (s_call Tryz.call53 rfl (rLess_ok (frQ q b) (frQ q i) _ (by omega)) ?_)
              rintro r w8 ⟨rfl, hB8⟩
              refine ⟨hB8, ?_⟩
              replace hS := hS.grow hB8
              refine w_pure rfl (gd_yes 75 (by kernel_rfl) rfl (by rw [hgu] <;> rfl)) (s_pick (vb rfl (decide_eq_false (by omega))) rfl ?_)
              refine w_pure rfl rfl (s_pick (vb rfl (by rw [hgu] <;> rfl)) rfl ?_)
              refine w_end ?_
              repeat (with_reducible first | refine c_seq ?_ | refine c_block ?_ | refine c_skip ?_ | refine x_then ?_ | refine x_block ?_)
              by_cases hless : frQ q b < frQ q i
              · rw [if_pos hless] at hbs
                refine c_yes rfl (decide_eq_true hless) ?_
                repeat (with_reducible first | refine c_seq ?_ | refine c_block ?_ | refine c_skip ?_ | refine x_then ?_ | refine x_block ?_)
                refine c_reg ?_
                refine l_pure rfl (s_move  h13 ?_)
                refine l_pure rfl (s_asg  rfl ?_)
                refine l_nil ?_
                repeat (with_reducible first | refine c_seq ?_ | refine c_block ?_ | refine c_skip ?_ | refine x_then ?_ | refine x_block ?_)
                refine c_reg ?_
                refine l_pure rfl (s_move  h13 ?_)
                refine l_pure rfl (s_add  rfl rfl (IntWalk.i64_in _ (by omega)) ?_)
                refine l_pure rfl (s_asg  rfl ?_)
                refine l_nil ?_
                repeat (with_reducible first | refine c_seq ?_ | refine c_block ?_ | refine c_skip ?_ | refine x_then ?_ | refine x_block ?_)
                exact ⟨i + 1, _, rfl, ⟨hlt, by assumption, by assumption, by assumption, by assumption, by rw [hbs]; rfl, vi rfl (by omega), hS⟩, by omega⟩
              · rw [if_neg hless] at hbs
                refine c_no rfl (decide_eq_false hless) ?_
                repeat (with_reducible first | refine c_seq ?_ | refine c_block ?_ | refine c_skip ?_ | refine x_then ?_ | refine x_block ?_)
                refine c_reg ?_
                refine l_pure rfl (s_move  h13 ?_)
                refine l_pure rfl (s_add  rfl rfl (IntWalk.i64_in _ (by omega)) ?_)
                refine l_pure rfl (s_asg  rfl ?_)
                refine l_nil ?_
                repeat (with_reducible first | refine c_seq ?_ | refine c_block ?_ | refine c_skip ?_ | refine x_then ?_ | refine x_block ?_)
                exact ⟨i + 1, _, rfl, ⟨hlt, by assumption, by assumption, by assumption, by assumption, by rw [hbs]; assumption, vi rfl (by omega), hS⟩, by omega⟩
        · refine c_no rfl (decide_eq_false (by omega)) ?_
          repeat (with_reducible first | refine c_seq ?_ | refine c_block ?_ | refine c_skip ?_ | refine x_then ?_ | refine x_block ?_)
          refine c_exit ?_
          repeat (with_reducible first | refine x_then_exit ?_ | refine x_block_exit ?_ | refine x_block_pass rfl ?_)
          repeat (with_reducible first | refine c_seq ?_ | refine c_block ?_ | refine c_skip ?_ | refine x_then ?_ | refine x_block ?_)
          obtain rfl : i = n := by omega
          rw [hpk] at h12
          exact ⟨_, rfl, h0, h5, h7, h11, h12, hS⟩
      clear hS h0 h5 h7 h11
      rintro ρ w5 ⟨h0, h5, h7, h11, h12, hS⟩
      repeat (with_reducible first | refine c_seq ?_ | refine c_block ?_ | refine c_skip ?_ | refine x_then ?_ | refine x_block ?_)
      have htg : (tab n (rnd (baQ q) J k)).getD j 0 = baQ q j := by rw [tab_get _ _ hjn, hra]
      repeat (with_reducible first | refine c_seq ?_ | refine c_block ?_ | refine c_skip ?_ | refine x_then ?_ | refine x_block ?_)
      refine c_reg ?_
      refine l_pure rfl (s_move  h11 ?_)
      refine l_pure rfl (s_move  h12 ?_)
      refine l_pure rfl (s_ixo (i := j)  rfl rfl (by omega) (by first | omega | (simp; done) | (simp; omega)) si_80 ?_)
      refine l_heavy rfl (s_stE (k := 0) (i := j) (enc := enB) true (fun _ => rfl)  rfl rfl vi_4 hS rfl (by first | omega | simp) (by first | omega | (simp; done) | (simp; omega)) rfl rfl ?_)
      intro wz12 hS
      refine l_nil ?_
      repeat (with_reducible first | refine c_seq ?_ | refine c_block ?_ | refine c_skip ?_ | refine x_then ?_ | refine x_block ?_)
      replace hS : St w _ ([(b11, 4, ((tab n (upT J k)).set j true).flatMap enB)] ++ LO) := hS
      rw [hup] at hS
      repeat (with_reducible first | refine c_seq ?_ | refine c_block ?_ | refine c_skip ?_ | refine x_then ?_ | refine x_block ?_)
      refine c_reg ?_
      refine l_pure rfl (s_move  h7 ?_)
      refine l_pure rfl (s_move  h12 ?_)
      refine l_pure rfl (s_ixr (i := j)  rfl rfl (hG.sl hS enI_len) (by omega) (by first | omega | (simp; done) | (simp; omega)) si_25 ?_)
      refine l_read rfl (s_lde (i := j) 0  rfl vi_2 (hG.sl hS enI_len) (by first | omega | (simp; done) | (simp; omega)) rfl rfl (.inr rfl) ?_)
      refine l_pure rfl (s_add  rfl rfl (r := (baQ q j + 1)) (by rw [htg]; exact wr_i64 _ ⟨rfl, by omega, by omega⟩) ?_)
      refine l_pure rfl (s_ixr (i := j)  rfl rfl (hG.sl hS enI_len) (by omega) (by first | omega | (simp; done) | (simp; omega)) si_25 ?_)
      refine l_heavy rfl (s_stG (i := j) (baQ q j + 1) enI_len  rfl rfl vi_2 hG hS (by omega) rfl rfl ?_)
      intro wz13 hS
      refine l_nil ?_
      repeat (with_reducible first | refine c_seq ?_ | refine c_block ?_ | refine c_skip ?_ | refine x_then ?_ | refine x_block ?_)
      obtain ⟨LO2, hG, hS⟩ := hS
      rw [hrs] at hG
      repeat (with_reducible first | refine c_seq ?_ | refine c_block ?_ | refine c_skip ?_ | refine x_then ?_ | refine x_block ?_)
      refine c_reg ?_
      refine l_pure rfl (s_move  h5 ?_)
      refine l_pure rfl (s_sub  rfl rfl (IntWalk.i64_in _ (by omega)) ?_)
      refine l_pure rfl (s_asg  rfl ?_)
      refine l_nil ?_
      repeat (with_reducible first | refine c_seq ?_ | refine c_block ?_ | refine c_skip ?_ | refine x_then ?_ | refine x_block ?_)
      exact ⟨k + 1, _, rfl, ⟨hkm, by assumption, vi rfl (by omega), by assumption, by assumption, ⟨LO2, hG, hS⟩⟩, by omega⟩
    · refine c_no rfl (decide_eq_false (by omega)) ?_
      repeat (with_reducible first | refine c_seq ?_ | refine c_block ?_ | refine c_skip ?_ | refine x_then ?_ | refine x_block ?_)
      refine c_exit ?_
      repeat (with_reducible first | refine x_then_exit ?_ | refine x_block_exit ?_ | refine x_block_pass rfl ?_)
      repeat (with_reducible first | refine c_seq ?_ | refine c_block ?_ | refine c_skip ?_ | refine x_then ?_ | refine x_block ?_)
      obtain rfl : k = m := by omega
      repeat (with_reducible first | refine c_seq ?_ | refine c_block ?_ | refine c_skip ?_ | refine x_then ?_ | refine x_block ?_)
      refine c_reg ?_
      refine l_pure rfl (s_move  h7 ?_)
      refine l_pure rfl (s_asg  rfl ?_)
      refine l_pure rfl (s_asg  rfl ?_)
      refine l_nil ?_
      repeat (with_reducible first | refine c_seq ?_ | refine c_block ?_ | refine c_skip ?_ | refine x_then ?_ | refine x_block ?_)
      refine c_ret ?_
      repeat (with_reducible first | refine x_then_ret ?_ | refine x_block_ret ?_)
      refine r_two rfl rfl rfl ?_
      exact .inr ⟨hz, _, LO, rfl, hG, hS.drop (List.sublist_cons_self _ _)⟩
  · have hN : cN (sumQ (l.map toQ)) = 0 := by unfold cN; rw [← he, if_neg hz]
    rw [hN]
    refine c_yes rfl (decide_eq_true hz) ?_
    repeat (with_reducible first | refine c_seq ?_ | refine c_block ?_ | refine c_skip ?_ | refine x_then ?_ | refine x_block ?_)
    refine c_reg ?_
    refine l_pure rfl (s_move  rfl ?_)
    refine l_pure rfl (s_asg  rfl ?_)
    refine l_pure rfl (s_asg  rfl ?_)
    refine l_nil ?_
    repeat (with_reducible first | refine c_seq ?_ | refine c_block ?_ | refine c_skip ?_ | refine x_then ?_ | refine x_block ?_)
    refine c_ret ?_
    repeat (with_reducible first | refine x_then_ret ?_ | refine x_block_ret ?_)
    refine r_two rfl rfl rfl ?_
    exact .inl ⟨hz, rfl, hS.below⟩
end Go.Proofs.YtmapmdldlcfjhaaGreatDoor
