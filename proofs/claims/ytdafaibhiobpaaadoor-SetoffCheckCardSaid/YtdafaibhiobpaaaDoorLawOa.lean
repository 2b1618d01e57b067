/-
  The example of the chapter on set-off: what it comes to, and its walk; what is drawn as obligations.
-/
import Derived.Test.YtdafaibhiobpaaaDoorLawOw3
namespace Go.Proofs.YtdafaibhiobpaaaDoor
open Go Go.RowKit Go.Sx

def q30 : Rat := ((30 : Int) : Rat)
def q20 : Rat := ((20 : Int) : Rat)
def q25 : Rat := ((25 : Int) : Rat)
def q0_ : Rat := ((0 : Int) : Rat)
def ob0 : Ob := ⟨0, 1, ofQ q30, 5, 5, false⟩
def ob1 : Ob := ⟨0, 1, ofQ q20, 3, 3, false⟩
def ob2 : Ob := ⟨1, 0, ofQ q25, 9, 9, false⟩
def OB3 : List Ob := [ob0, ob1, ob2]
def kO (i : Nat) : Rat := if i = 0 then q30 else if i = 1 then q20 else if i = 2 then q25 else 0
theorem oQ_OB3 : oQ OB3 = kO := by
  funext i
  match i with
  | 0 => exact toQ_ofQ q30
  | 1 => exact toQ_ofQ q20
  | 2 => exact toQ_ofQ q25
  | n + 3 => exact toQ_zRR
theorem ord_a : ordL OB3 100 10 0 1 = [1, 0] := by decide +kernel
theorem ord_b : ordL OB3 100 10 1 0 = [2] := by decide +kernel
theorem mQ_a : mQ OB3 100 10 0 1 = q25 := by
  unfold mQ
  rw [ord_a, ord_b, oQ_OB3]
  decide +kernel
theorem mQ_b : mQ OB3 100 10 1 0 = q25 := by rw [mQ_comm, mQ_a]
theorem fin_a : finQ OB3 100 10 0 = q25 := by
  show (redu ⟨oQ OB3, mQ OB3 100 10 0 1⟩ (ordL OB3 100 10 0 1)).rest 0 = q25
  rw [mQ_a, ord_a, oQ_OB3]
  decide +kernel
theorem fin_b : finQ OB3 100 10 1 = q0_ := by
  show (redu ⟨oQ OB3, mQ OB3 100 10 0 1⟩ (ordL OB3 100 10 0 1)).rest 1 = q0_
  rw [mQ_a, ord_a, oQ_OB3]
  decide +kernel
theorem fin_c : finQ OB3 100 10 2 = q0_ := by
  show (redu ⟨oQ OB3, mQ OB3 100 10 1 0⟩ (ordL OB3 100 10 1 0)).rest 2 = q0_
  rw [mQ_b, ord_b, oQ_OB3]
  decide +kernel
theorem obs_of {n : Int} {l : List Ob} (hn : 0 ≤ n ∧ n ≤ 32) (hl : l.length ≤ 64) (h : ∀ o ∈ l, pairB n o.deb o.cre = true ∧ 0 ≤ toQ o.amt ∧ isDay o.inc = true ∧ isDay o.acq = true ∧ o.inc ≤ o.acq) : obsE n l = 0 := by
  unfold obsE
  rw [if_neg (by omega), if_neg (by omega)]
  have key : ∀ l : List Ob, (∀ o ∈ l, obErr n o = 0) → firstE (obErr n) l = 0 := by
    intro l
    induction l with
    | nil => intro _; rfl
    | cons o l ih =>
      intro hl
      rw [firstE, if_pos (hl o (List.mem_cons_self ..))]
      exact ih fun x hx => hl x (List.mem_cons_of_mem _ hx)
  refine key l fun o ho => ?_
  obtain ⟨h1, h2, h3, h4, h5⟩ := h o ho
  unfold obErr
  rw [if_neg (by rw [h1]; decide), if_neg (Rat.not_lt.2 h2), if_neg (by rw [h3, h4]; simp), if_neg (by omega)]
theorem chk_of {n c s : Int} {l : List Ob} (h : obsE n l = 0) (hc : isDay c = true) (hs : isDay s = true) : chkE n l c s = 0 := by
  unfold chkE
  rw [if_neg (fun g => g h), if_neg (by rw [hc, hs]; simp)]
theorem chk_OB3 : chkE 2 OB3 100 10 = 0 := by
  refine chk_of (obs_of (by omega) (by decide) fun o ho => ?_) (by decide) (by decide)
  rcases List.mem_cons.1 ho with rfl | ho
  · exact ⟨by decide, by show 0 ≤ toQ (ofQ q30); rw [toQ_ofQ]; decide +kernel, by decide, by decide, by decide⟩
  rcases List.mem_cons.1 ho with rfl | ho
  · exact ⟨by decide, by show 0 ≤ toQ (ofQ q20); rw [toQ_ofQ]; decide +kernel, by decide, by decide, by decide⟩
  rcases List.mem_cons.1 ho with rfl | ho
  · exact ⟨by decide, by show 0 ≤ toQ (ofQ q25); rw [toQ_ofQ]; decide +kernel, by decide, by decide, by decide⟩
  cases ho
theorem app_OB3 : appL 2 OB3 100 10 = [ofQ q25, ofQ q0_, ofQ q0_] := by
  unfold appL
  rw [if_pos chk_OB3]
  show [ofQ (finQ OB3 100 10 0), ofQ (finQ OB3 100 10 1), ofQ (finQ OB3 100 10 2)] = _
  rw [fin_a, fin_b, fin_c]
theorem L_s32 {n : Nat} (h : n < 256) : L ((n : Int) : Rat) ≤ 1 := L_small h
theorem ObB_OB3 : ObB 1 OB3 := by
  intro o ho
  rcases List.mem_cons.1 ho with rfl | ho
  · show Lr (ofQ q30) ≤ 1; rw [Lr_ofQ]; exact L_small (n := 30) (by decide)
  rcases List.mem_cons.1 ho with rfl | ho
  · show Lr (ofQ q20) ≤ 1; rw [Lr_ofQ]; exact L_small (n := 20) (by decide)
  rcases List.mem_cons.1 ho with rfl | ho
  · show Lr (ofQ q25) ≤ 1; rw [Lr_ofQ]; exact L_small (n := 25) (by decide)
  cases ho
theorem built_Ob5 (a b i q : Int) (p : RR) : Tryd.prog.built 28 [(0, .int .i64 a), (1, .int .i64 b), (2, aggR p), (3, .int .i64 i), (4, .int .i64 q)] = some #[.int .i64 a, .int .i64 b, .bool p.neg, .string p.num, .string p.den, .int .i64 i, .int .i64 q, .bool false] := by kernel_rfl
theorem built_Ob2 (i q : Int) : Tryd.prog.built 28 [(3, .int .i64 i), (4, .int .i64 q)] = some #[.int .i64 0, .int .i64 0, .bool false, .string ⟨#[]⟩, .string ⟨#[]⟩, .int .i64 i, .int .i64 q, .bool false] := by kernel_rfl
theorem i30_ok (w : World) : Ret Tryd.prog 29 #[.int .i64 30] w fun v w' => v = aggR (ofQ q30) ∧ Below w.heap.size w w' := QInt_ok 30 w (by decide) (by decide)
theorem i20_ok (w : World) : Ret Tryd.prog 29 #[.int .i64 20] w fun v w' => v = aggR (ofQ q20) ∧ Below w.heap.size w w' := QInt_ok 20 w (by decide) (by decide)
theorem i25_ok (w : World) : Ret Tryd.prog 29 #[.int .i64 25] w fun v w' => v = aggR (ofQ q25) ∧ Below w.heap.size w w' := QInt_ok 25 w (by decide) (by decide)
theorem i0_ok (w : World) : Ret Tryd.prog 29 #[.int .i64 0] w fun v w' => v = aggR (ofQ q0_) ∧ Below w.heap.size w w' := QInt_ok 0 w (by decide) (by decide)
def obL : Ob := ⟨0, 0, zRR, 50, 95, false⟩
theorem Elig_late (w : World) : Ret Tryd.prog 13 #[aggOb obL, .int .i64 100, .int .i64 10] w fun v w' => v = .bool false ∧ Below w.heap.size w w' := Eligible_ok obL 100 10 w
set_option maxHeartbeats 1000000 in
theorem Oawake_ok (w : World) : Ret Tryd.prog 12 #[] w fun v w' => v = .bool true ∧ Below w.heap.size w w' := by
  have hM : MX = 1099511627776 := rfl
  have hS := St.init w
  refine enter Tryd.func12 rfl Tryd.ntmps12 rfl ?_
  repeat (with_reducible first | refine c_seq ?_ | refine c_block ?_ | refine c_skip ?_ | refine x_then ?_ | refine x_block ?_)
  refine c_reg ?_
  refine l_pure rfl (s_asg  rfl ?_)
  refine l_nil ?_
  repeat (with_reducible first | refine c_seq ?_ | refine c_block ?_ | refine c_skip ?_ | refine x_then ?_ | refine x_block ?_)
  refine c_reg ?_
  refine l_heavy rfl (s_call Tryd.call29 rfl (i30_ok _) ?_)
  rintro r wa ⟨rfl, hBa⟩
  replace hS := hS.grow hBa
  refine l_pure rfl (s_build  rfl (built_Ob5 _ _ _ _ _) ?_)
  refine l_heavy rfl (s_call Tryd.call29 rfl (i20_ok _) ?_)
  rintro r wb ⟨rfl, hBb⟩
  replace hS := hS.grow hBb
  refine l_pure rfl (s_build  rfl (built_Ob5 _ _ _ _ _) ?_)
  refine l_heavy rfl (s_call Tryd.call29 rfl (i25_ok _) ?_)
  rintro r wc ⟨rfl, hBc⟩
  replace hS := hS.grow hBc
  refine l_pure rfl (s_build  rfl (built_Ob5 _ _ _ _ _) ?_)
  refine l_heavy rfl (s_bsl (vs := [aggOb ob0, aggOb ob1, aggOb ob2])  rfl si_22 rfl (by decide) (by decide) (by decide) (by simp [Value.cells, aggOb]) rfl hS ?_)
  intro b11 wz1 hS hBz1
  refine l_pure rfl (s_asg  rfl ?_)
  refine l_nil ?_
  repeat (with_reducible first | refine c_seq ?_ | refine c_block ?_ | refine c_skip ?_ | refine x_then ?_ | refine x_block ?_)
  replace hS : St w _ [(b11, 28, OB3.flatMap encOb)] := hS
  have hO : Sl encOb 8 _ (.slice (some ⟨b11, 0, none⟩) 3 3) OB3 := hS.sle (k := 0) (L := OB3) (n := 3) (cap := 3) rfl encOb_len (Nat.le_refl _) (Nat.le_refl _) (by decide)
  repeat (with_reducible first | refine c_seq ?_ | refine c_block ?_ | refine c_skip ?_ | refine x_then ?_ | refine x_block ?_)
  refine c_reg ?_
  refine l_pure rfl (s_move  rfl ?_)
  refine l_heavy rfl (s_call Tryd.call18 rfl (OApply_ok 2 100 10 _ OB3 1 _ hO ObB_OB3 (by rw [hM]; decide) (by decide)) ?_)
  rintro r w3 ⟨⟨va, rfl, hv1⟩, hB3⟩
  rw [app_OB3] at hv1
  rw [chk_OB3]
  replace hS := hS.grow hB3
  refine l_pure rfl (s_move  rfl ?_)
  refine l_pure rfl (s_ext  rfl rfl ?_)
  refine l_pure rfl (s_ext  rfl rfl ?_)
  refine l_pure rfl (s_asg  rfl ?_)
  refine l_pure rfl (s_asg  rfl ?_)
  refine l_nil ?_
  repeat (with_reducible first | refine c_seq ?_ | refine c_block ?_ | refine c_skip ?_ | refine x_then ?_ | refine x_block ?_)
  have hW := hS.below
  clear hO
  replace hS := St.init w3
  repeat (with_reducible first | refine c_seq ?_ | refine c_block ?_ | refine c_skip ?_ | refine x_then ?_ | refine x_block ?_)
  refine c_forget (fun ρ' => ρ' 2 = va ∧ ρ' 3 = .int .i64 0 ∧ True) ⟨rfl, rfl, trivial⟩ ?_
  rintro ρk2 ⟨hk2_2, hk2_3, -⟩
  repeat (with_reducible first | refine c_seq ?_ | refine c_block ?_ | refine c_skip ?_ | refine x_then ?_ | refine x_block ?_)
  refine c_reg ?_
  refine l_pure rfl (s_build  rfl (built_Ob2 50 95) ?_)
  refine l_heavy rfl (s_call Tryd.call13 rfl (Elig_late _) ?_)
  rintro r w4 ⟨rfl, hB4⟩
  replace hS := hS.grow hB4
  refine l_pure rfl (s_asg  rfl ?_)
  refine l_nil ?_
  repeat (with_reducible first | refine c_seq ?_ | refine c_block ?_ | refine c_skip ?_ | refine x_then ?_ | refine x_block ?_)
  refine c_drawM [0, 1, 3, 7, 15, 31, 63, 127, 255, 511, 1023, 255, 4095, 8191, 16383, 32767, 65535, 131071, 32767, 524287, 1048575, 2097151, 4194303, 8388607, 16777215, 4194303, 67108863, 134217727, 268435455, 536870911, 1073741823, 2147483647, 4294967295] [(0, .pure), (1, .pure), (2, .pure), (3, .pure), (4, .pure), (5, .pure), (6, .pure), (7, .pure), (8, .pure), (9, .pure), (10, .read), (11, .grow), (12, .pure), (13, .pure), (14, .pure), (15, .pure), (16, .pure), (17, .read), (18, .grow), (19, .pure), (20, .pure), (21, .pure), (22, .pure), (23, .pure), (24, .read), (25, .grow), (26, .pure), (27, .pure), (28, .pure), (29, .pure), (30, .pure), (31, .pure), (32, .pure)] (by kernel_rfl) (by kernel_rfl) hS ?_
  intro wz3 hS hBz3
  refine w_pure rfl rfl (s_move  hk2_3 ?_)
  refine w_pure rfl rfl (s_eql  rfl rfl ?_)
  refine w_pure rfl rfl (s_move  rfl ?_)
  refine w_pure rfl (gd_yes 21 (by kernel_rfl) rfl rfl) (s_move  hk2_2 ?_)
  refine w_pure rfl (gd_yes 21 (by kernel_rfl) rfl rfl) (s_lenr  rfl (hv1.below hS.below) ⟨_, Tryd.underlying37⟩ ?_)
  refine w_pure rfl (gd_yes 21 (by kernel_rfl) rfl rfl) (s_eql  rfl rfl ?_)
  refine w_pure rfl rfl (s_pick (vb rfl rfl) rfl ?_)
  refine w_pure rfl rfl (s_move  rfl ?_)
  refine w_pure rfl (gd_yes 26 (by kernel_rfl) rfl rfl) (s_move  hk2_2 ?_)
  refine w_pure rfl (gd_yes 26 (by kernel_rfl) rfl rfl) (s_ixr (i := 0)  rfl rfl (hv1.below hS.below) (by omega) (by first | omega | (simp; done) | (simp; omega)) si_37 ?_)
  refine w_read rfl (gd_yes 26 (by kernel_rfl) rfl rfl) (s_lde (i := 0) zRR  rfl vi_26 (hv1.below hS.below) (by first | omega | (simp; done) | (simp; omega)) rfl rfl (.inl rfl) ?_)
  refine w_grow rfl (gd_yes 26 (by kernel_rfl) rfl rfl) (s_call Tryd.call29 rfl (i25_ok _) ?_)
  rintro r w5 ⟨rfl, hB5⟩
  refine ⟨hB5, ?_⟩
  replace hS := hS.grow hB5
  refine w_pure rfl (gd_yes 26 (by kernel_rfl) rfl rfl) (s_eqR  rfl rfl ?_)
  refine w_pure rfl rfl (s_pick (vb rfl rfl) rfl ?_)
  refine w_pure rfl rfl (s_move  rfl ?_)
  refine w_pure rfl (gd_yes 33 (by kernel_rfl) rfl (decide_eq_true rfl)) (s_move  hk2_2 ?_)
  refine w_pure rfl (gd_yes 33 (by kernel_rfl) rfl (decide_eq_true rfl)) (s_ixr (i := 1)  rfl rfl (hv1.below hS.below) (by omega) (by first | omega | (simp; done) | (simp; omega)) si_37 ?_)
  refine w_read rfl (gd_yes 33 (by kernel_rfl) rfl (decide_eq_true rfl)) (s_lde (i := 1) zRR  rfl vi_26 (hv1.below hS.below) (by first | omega | (simp; done) | (simp; omega)) rfl rfl (.inl rfl) ?_)
  refine w_grow rfl (gd_yes 33 (by kernel_rfl) rfl (decide_eq_true rfl)) (s_call Tryd.call29 rfl (i0_ok _) ?_)
  rintro r w6 ⟨rfl, hB6⟩
  refine ⟨hB6, ?_⟩
  replace hS := hS.grow hB6
  refine w_pure rfl (gd_yes 33 (by kernel_rfl) rfl (decide_eq_true rfl)) (s_eqR  rfl rfl ?_)
  refine w_pure rfl rfl (s_pick (vb rfl (decide_eq_true rfl)) rfl ?_)
  refine w_pure rfl rfl (s_move  rfl ?_)
  refine w_pure rfl (gd_yes 40 (by kernel_rfl) rfl (decide_eq_true rfl)) (s_move  hk2_2 ?_)
  refine w_pure rfl (gd_yes 40 (by kernel_rfl) rfl (decide_eq_true rfl)) (s_ixr (i := 2)  rfl rfl (hv1.below hS.below) (by omega) (by first | omega | (simp; done) | (simp; omega)) si_37 ?_)
  refine w_read rfl (gd_yes 40 (by kernel_rfl) rfl (decide_eq_true rfl)) (s_lde (i := 2) zRR  rfl vi_26 (hv1.below hS.below) (by first | omega | (simp; done) | (simp; omega)) rfl rfl (.inl rfl) ?_)
  refine w_grow rfl (gd_yes 40 (by kernel_rfl) rfl (decide_eq_true rfl)) (s_call Tryd.call29 rfl (i0_ok _) ?_)
  rintro r w7 ⟨rfl, hB7⟩
  refine ⟨hB7, ?_⟩
  replace hS := hS.grow hB7
  refine w_pure rfl (gd_yes 40 (by kernel_rfl) rfl (decide_eq_true rfl)) (s_eqR  rfl rfl ?_)
  refine w_pure rfl rfl (s_pick (vb rfl (decide_eq_true rfl)) rfl ?_)
  refine w_pure rfl rfl (s_move  rfl ?_)
  refine w_pure rfl (gd_yes 47 (by kernel_rfl) rfl (decide_eq_true rfl)) (s_move  rfl ?_)
  refine w_pure rfl (gd_yes 47 (by kernel_rfl) rfl (decide_eq_true rfl)) (s_not  rfl ?_)
  refine w_pure rfl rfl (s_pick (vb rfl (decide_eq_true rfl)) rfl ?_)
  refine w_pure rfl rfl (s_asg  rfl ?_)
  refine w_end ?_
  repeat (with_reducible first | refine c_seq ?_ | refine c_block ?_ | refine c_skip ?_ | refine x_then ?_ | refine x_block ?_)
  refine c_ret ?_
  repeat (with_reducible first | refine x_then_ret ?_ | refine x_block_ret ?_)
  refine r_one rfl rfl ?_
  exact ⟨rfl, bt hW hS.below⟩
end Go.Proofs.YtdafaibhiobpaaaDoor
