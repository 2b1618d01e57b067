/-
  Walks: few items; the law that items are checked as the document says.
-/
import Derived.Test.YtdafaibhiobpaaaGreatDoorLawCg
namespace Go.Proofs.YtdafaibhiobpaaaGreatDoor
open Go Go.RowKit Go.Sx

def fewIt (x : It) : Bool := decide (x.charges.length ≤ 12) && (few x.price && (few x.costs && x.charges.all fun c => few c.limit))
def frB (owed : List RR) : Bool := decide ((owed.length : Int) ≤ 10) && owed.all few
def fewI (X : List It) (owed : List RR) : Bool := decide (X.length ≤ 10) && (frB owed && X.all fewIt)
theorem fewI_B {X : List It} {owed : List RR} (h : fewI X owed = true) : X.length ≤ 10 ∧ owed.length ≤ 10 ∧ ItB 24 X ∧ RB 24 owed ∧ ∀ x ∈ X, x.charges.length ≤ 12 := by
  unfold fewI frB at h
  simp only [Bool.and_eq_true, decide_eq_true_eq, List.all_eq_true] at h
  obtain ⟨h1, ⟨h2, h3⟩, h4⟩ := h
  refine ⟨h1, by omega, fun x hx => ?_, fun r hr => few_Lr (h3 r hr), fun x hx => ?_⟩
  · have := h4 x hx
    unfold fewIt at this
    simp only [Bool.and_eq_true, decide_eq_true_eq, List.all_eq_true] at this
    exact ⟨few_Lr this.2.1, few_Lr this.2.2.1, fun c hc => few_Lr (this.2.2.2 c hc)⟩
  · have := h4 x hx
    unfold fewIt at this
    simp only [Bool.and_eq_true, decide_eq_true_eq] at this
    exact this.1
theorem all_step {α : Type} (f : α → Bool) (l : List α) (d : α) {i : Nat} (hi : i < l.length) (h : (l.take i).all f = true) :
    (f (l.getD i d) = true → (l.take (i + 1)).all f = true) ∧ (f (l.getD i d) = false → l.all f = false) := by
  constructor
  · intro g
    rw [take_succ' l i d hi, List.all_append, h, List.all_cons, g]; rfl
  · intro g
    rw [List.all_eq_false]
    exact ⟨_, getD_mem l i d hi, by rw [g]; decide⟩
set_option maxHeartbeats 1000000 in
theorem fewI_ok (vi_ vo : Value) (X : List It) (cvs : List Value) (owed : List RR) (w : World) (hX : Its w vi_ X cvs) (ho : Sl encR 3 w vo owed) :
    Ret Tryz.prog 15 #[vi_, vo] w fun v w' => v = .bool (fewI X owed) ∧ Below w.heap.size w w' := by
  have hmX := hX.sl.maxLen
  rw [hX.zlen] at hmX
  have hzl := hX.zlen
  have hS := St.init w
  refine enter Tryz.func15 rfl Tryz.ntmps15 rfl ?_
  repeat (with_reducible first | refine c_seq ?_ | refine c_block ?_ | refine c_skip ?_ | refine x_then ?_ | refine x_block ?_)
  refine c_reg ?_
  refine l_pure rfl (s_asg  rfl ?_)
  refine l_nil ?_
  repeat (with_reducible first | refine c_seq ?_ | refine c_block ?_ | refine c_skip ?_ | refine x_then ?_ | refine x_block ?_)
  by_cases h10 : 10 < X.length
  · repeat (with_reducible first | refine c_seq ?_ | refine c_block ?_ | refine c_skip ?_ | refine x_then ?_ | refine x_block ?_)
    refine c_reg ?_
    refine l_pure rfl (s_move  rfl ?_)
    refine l_pure rfl (s_lenr  rfl (hX.sl.below hS.below) ⟨_, Tryz.underlying42⟩ ?_)
    refine l_pure rfl (s_gtr  rfl rfl ?_)
    refine l_pure rfl (s_move  rfl ?_)
    refine l_no (gno_yes 12 (by kernel_rfl) rfl (decide_eq_true (by omega))) ?_
    refine l_no (gno_yes 12 (by kernel_rfl) rfl (decide_eq_true (by omega))) ?_
    refine l_no (gno_yes 12 (by kernel_rfl) rfl (decide_eq_true (by omega))) ?_
    refine l_pure rfl (s_pick (vb rfl (decide_eq_true (by omega))) rfl ?_)
    refine l_nil ?_
    repeat (with_reducible first | refine c_seq ?_ | refine c_block ?_ | refine c_skip ?_ | refine x_then ?_ | refine x_block ?_)
    refine c_yes rfl (rfl) ?_
    repeat (with_reducible first | refine c_seq ?_ | refine c_block ?_ | refine c_skip ?_ | refine x_then ?_ | refine x_block ?_)
    refine c_reg ?_
    refine l_pure rfl (s_asg  rfl ?_)
    refine l_nil ?_
    repeat (with_reducible first | refine c_seq ?_ | refine c_block ?_ | refine c_skip ?_ | refine x_then ?_ | refine x_block ?_)
    refine c_ret ?_
    repeat (with_reducible first | refine x_then_ret ?_ | refine x_block_ret ?_)
    refine r_one rfl rfl ?_
    exact ⟨vb rfl (by unfold fewI; rw [decide_eq_false (by omega)]; rfl), hS.below⟩
  have e10 : fewI X owed = (frB owed && X.all fewIt) := by unfold fewI; rw [decide_eq_true (by omega)]; rfl
  repeat (with_reducible first | refine c_seq ?_ | refine c_block ?_ | refine c_skip ?_ | refine x_then ?_ | refine x_block ?_)
  refine c_reg ?_
  refine l_pure rfl (s_move  rfl ?_)
  refine l_pure rfl (s_lenr  rfl (hX.sl.below hS.below) ⟨_, Tryz.underlying42⟩ ?_)
  refine l_pure rfl (s_gtr  rfl rfl ?_)
  refine l_pure rfl (s_move  rfl ?_)
  refine l_pure (gd_yes 12 (by kernel_rfl) rfl (decide_eq_false (by omega))) (s_move  rfl ?_)
  refine l_heavy (gd_yes 12 (by kernel_rfl) rfl (decide_eq_false (by omega))) (s_call Tryz.call45 rfl (FewRats_ok vo owed 10 _ (ho.below hS.below)) ?_)
  rintro _ wc1 ⟨rfl, hBc1⟩
  replace hS := hS.grow hBc1
  refine l_pure (gd_yes 12 (by kernel_rfl) rfl (decide_eq_false (by omega))) (s_not  rfl ?_)
  refine l_pure rfl (s_pick (vb rfl (decide_eq_false (by omega))) rfl ?_)
  refine l_nil ?_
  repeat (with_reducible first | refine c_seq ?_ | refine c_block ?_ | refine c_skip ?_ | refine x_then ?_ | refine x_block ?_)
  cases hfr : frB owed with
  | false =>
    refine c_yes rfl (by show (!frB owed) = true; rw [hfr]; rfl) ?_
    repeat (with_reducible first | refine c_seq ?_ | refine c_block ?_ | refine c_skip ?_ | refine x_then ?_ | refine x_block ?_)
    refine c_reg ?_
    refine l_pure rfl (s_asg  rfl ?_)
    refine l_nil ?_
    repeat (with_reducible first | refine c_seq ?_ | refine c_block ?_ | refine c_skip ?_ | refine x_then ?_ | refine x_block ?_)
    refine c_ret ?_
    repeat (with_reducible first | refine x_then_ret ?_ | refine x_block_ret ?_)
    refine r_one rfl rfl ?_
    exact ⟨vb rfl (by rw [e10, hfr]; rfl), hS.below⟩
  | true =>
  refine c_no rfl (by show (!frB owed) = false; rw [hfr]; rfl) ?_
  repeat (with_reducible first | refine c_seq ?_ | refine c_block ?_ | refine c_skip ?_ | refine x_then ?_ | refine x_block ?_)
  have e11 : fewI X owed = X.all fewIt := by rw [e10, hfr]; rfl
  rw [e11]
  repeat (with_reducible first | refine c_seq ?_ | refine c_block ?_ | refine c_skip ?_ | refine x_then ?_ | refine x_block ?_)
  refine c_reg ?_
  refine l_pure rfl (s_move  rfl ?_)
  refine l_pure rfl (s_lenr  rfl (hX.sl.below hS.below) ⟨_, Tryz.underlying42⟩ ?_)
  refine l_pure rfl (s_move  rfl ?_)
  refine l_nil ?_
  repeat (with_reducible first | refine c_seq ?_ | refine c_block ?_ | refine c_skip ?_ | refine x_then ?_ | refine x_block ?_)
  refine c_loop (σ := Nat) (fun i ρ w' => i ≤ X.length ∧ (X.take i).all fewIt = true ∧ ρ 17 = vi_ ∧ ρ 18 = .int .i64 X.length ∧ ρ 19 = .int .i64 i ∧ St w w' []) (fun i => X.length - i) 0
    ⟨Nat.zero_le _, rfl, rfl, vi rfl (by rw [hzl]), rfl, hS⟩ ?_
  clear hS
  rintro i ρ w2 ⟨hi, hok1, h17, h18, h19, hS⟩
  repeat (with_reducible first | refine c_seq ?_ | refine c_block ?_ | refine c_skip ?_ | refine x_then ?_ | refine x_block ?_)
  refine c_reg ?_
  refine l_pure rfl (s_lss  h19 h18 ?_)
  refine l_nil ?_
  repeat (with_reducible first | refine c_seq ?_ | refine c_block ?_ | refine c_skip ?_ | refine x_then ?_ | refine x_block ?_)
  by_cases hlt : i < X.length
  · refine c_yes rfl (decide_eq_true (by omega)) ?_
    repeat (with_reducible first | refine c_seq ?_ | refine c_block ?_ | refine c_skip ?_ | refine x_then ?_ | refine x_block ?_)
    obtain ⟨x, hx⟩ : ∃ x, x = X.getD i zIt := ⟨_, rfl⟩
    obtain ⟨cv, hcv⟩ : ∃ cv, cv = cvs.getD i undef := ⟨_, rfl⟩
    have hch := hX.ch i hlt
    rw [← hx, ← hcv] at hch
    have hmc := hch.maxLen
    obtain ⟨ca, ccap, hcve, _⟩ := hch.form
    subst hcve
    have hzg := hX.zget hlt
    rw [← hx, ← hcv] at hzg
    obtain ⟨f1, f2⟩ := all_step fewIt X zIt hlt hok1
    rw [← hx] at f1 f2
    repeat (with_reducible first | refine c_seq ?_ | refine c_block ?_ | refine c_skip ?_ | refine x_then ?_ | refine x_block ?_)
    refine c_reg ?_
    refine l_pure rfl (s_ixr (i := i)  h17 h19 (hX.sl.below hS.below) (by omega) (by first | omega | (simp; done) | (simp; omega)) si_42 ?_)
    refine l_read rfl (s_lde (v := aggIt x (.slice ca x.charges.length ccap)) (i := i) (zIt, undef)  rfl vi_46 (hX.sl.below hS.below) (by omega) rfl (by rw [hzg]; rfl) (.inl rfl) ?_)
    refine l_heavy rfl (s_alloc  vi_46 hS ?_)
    intro b6 wz2 hS hBz2
    refine l_heavy rfl (s_sta (k := 0)  rfl rfl vi_46 hS rfl rfl rfl (Nat.le_of_ble_eq_true rfl) rfl ?_)
    intro wz3 hS
    refine l_nil ?_
    repeat (with_reducible first | refine c_seq ?_ | refine c_block ?_ | refine c_skip ?_ | refine x_then ?_ | refine x_block ?_)
    replace hS : St w _ [(b6, 46, encIt (x, .slice ca x.charges.length ccap))] := hS
    repeat (with_reducible first | refine c_seq ?_ | refine c_block ?_ | refine c_skip ?_ | refine x_then ?_ | refine x_block ?_)
    refine c_forget (fun ρ' => ρ' 17 = vi_ ∧ ρ' 18 = .int .i64 X.length ∧ ρ' 19 = .int .i64 i ∧ ρ' 6 = .pointer (some ⟨b6, 0, none⟩) ∧ True) ⟨h17, h18, h19, rfl, trivial⟩ ?_
    rintro ρk4 ⟨hk4_17, hk4_18, hk4_19, hk4_6, -⟩
    refine c_cut1 (fun ρ w' => ρ 17 = vi_ ∧ ρ 18 = .int .i64 X.length ∧ ρ 19 = .int .i64 i ∧ ρ 6 = .pointer (some ⟨b6, 0, none⟩) ∧ ρ 38 = .bool (!(decide (x.charges.length ≤ 12) && (few x.price && few x.costs))) ∧ St w w' [(b6, 46, encIt (x, .slice ca x.charges.length ccap))]) ?_ ?_
    · by_cases h12 : 12 < x.charges.length
      · repeat (with_reducible first | refine c_seq ?_ | refine c_block ?_ | refine c_skip ?_ | refine x_then ?_ | refine x_block ?_)
        refine c_reg ?_
        refine l_pure rfl (s_fld  hk4_6 fo_46_2 ?_)
        refine l_read rfl (s_ldo (k := 0)  rfl vi_44 hS rfl rfl rfl (.inr rfl) ?_)
        refine l_pure rfl (s_lenr  rfl (hch.below hS.below) ⟨_, Tryz.underlying44⟩ ?_)
        refine l_pure rfl (s_gtr  rfl rfl ?_)
        refine l_pure rfl (s_move  rfl ?_)
        refine l_no (gno_yes 27 (by kernel_rfl) rfl (decide_eq_true (by omega))) ?_
        refine l_no (gno_yes 27 (by kernel_rfl) rfl (decide_eq_true (by omega))) ?_
        refine l_no (gno_yes 27 (by kernel_rfl) rfl (decide_eq_true (by omega))) ?_
        refine l_no (gno_yes 27 (by kernel_rfl) rfl (decide_eq_true (by omega))) ?_
        refine l_pure rfl (s_pick (vb rfl (decide_eq_true (by omega))) rfl ?_)
        refine l_pure rfl (s_move  rfl ?_)
        refine l_no (gno_yes 33 (by kernel_rfl) rfl rfl) ?_
        refine l_no (gno_yes 33 (by kernel_rfl) rfl rfl) ?_
        refine l_no (gno_yes 33 (by kernel_rfl) rfl rfl) ?_
        refine l_no (gno_yes 33 (by kernel_rfl) rfl rfl) ?_
        refine l_pure rfl (s_pick (vb rfl rfl) rfl ?_)
        refine l_nil ?_
        repeat (with_reducible first | refine c_seq ?_ | refine c_block ?_ | refine c_skip ?_ | refine x_then ?_ | refine x_block ?_)
        exact ⟨_, rfl, by assumption, by assumption, by assumption, by assumption, vb rfl (by rw [decide_eq_false (by omega)]; rfl), hS⟩
      have e12 : decide (x.charges.length ≤ 12) = true := decide_eq_true (by omega)
      rw [e12]
      cases hfp : few x.price with
      | false =>
        repeat (with_reducible first | refine c_seq ?_ | refine c_block ?_ | refine c_skip ?_ | refine x_then ?_ | refine x_block ?_)
        refine c_reg ?_
        refine l_pure rfl (s_fld  hk4_6 fo_46_2 ?_)
        refine l_read rfl (s_ldo (k := 0)  rfl vi_44 hS rfl rfl rfl (.inr rfl) ?_)
        refine l_pure rfl (s_lenr  rfl (hch.below hS.below) ⟨_, Tryz.underlying44⟩ ?_)
        refine l_pure rfl (s_gtr  rfl rfl ?_)
        refine l_pure rfl (s_move  rfl ?_)
        refine l_pure (gd_yes 27 (by kernel_rfl) rfl (decide_eq_false (by omega))) (s_fld  hk4_6 fo_46_0 ?_)
        refine l_read (gd_yes 27 (by kernel_rfl) rfl (decide_eq_false (by omega))) (s_ldo (k := 0)  rfl vi_36 hS rfl rfl rfl (.inl rfl) ?_)
        refine l_heavy (gd_yes 27 (by kernel_rfl) rfl (decide_eq_false (by omega))) (s_call Tryz.call42 rfl (Few_ok x.price _) ?_)
        rintro r w3 ⟨rfl, hB3⟩
        rw [hfp]
        replace hS := hS.grow hB3
        refine l_pure (gd_yes 27 (by kernel_rfl) rfl (decide_eq_false (by omega))) (s_not  rfl ?_)
        refine l_pure rfl (s_pick (vb rfl (decide_eq_false (by omega))) rfl ?_)
        refine l_pure rfl (s_move  rfl ?_)
        refine l_no (gno_yes 33 (by kernel_rfl) rfl rfl) ?_
        refine l_no (gno_yes 33 (by kernel_rfl) rfl rfl) ?_
        refine l_no (gno_yes 33 (by kernel_rfl) rfl rfl) ?_
        refine l_no (gno_yes 33 (by kernel_rfl) rfl rfl) ?_
        refine l_pure rfl (s_pick (vb rfl rfl) rfl ?_)
        refine l_nil ?_
        repeat (with_reducible first | refine c_seq ?_ | refine c_block ?_ | refine c_skip ?_ | refine x_then ?_ | refine x_block ?_)
        exact ⟨_, rfl, by assumption, by assumption, by assumption, by assumption, vb rfl rfl, hS⟩
      | true =>
        repeat (with_reducible first | refine c_seq ?_ | refine c_block ?_ | refine c_skip ?_ | refine x_then ?_ | refine x_block ?_)
        refine c_reg ?_
        refine l_pure rfl (s_fld  hk4_6 fo_46_2 ?_)
        refine l_read rfl (s_ldo (k := 0)  rfl vi_44 hS rfl rfl rfl (.inr rfl) ?_)
        refine l_pure rfl (s_lenr  rfl (hch.below hS.below) ⟨_, Tryz.underlying44⟩ ?_)
        refine l_pure rfl (s_gtr  rfl rfl ?_)
        refine l_pure rfl (s_move  rfl ?_)
        refine l_pure (gd_yes 27 (by kernel_rfl) rfl (decide_eq_false (by omega))) (s_fld  hk4_6 fo_46_0 ?_)
        refine l_read (gd_yes 27 (by kernel_rfl) rfl (decide_eq_false (by omega))) (s_ldo (k := 0)  rfl vi_36 hS rfl rfl rfl (.inl rfl) ?_)
        refine l_heavy (gd_yes 27 (by kernel_rfl) rfl (decide_eq_false (by omega))) (s_call Tryz.call42 rfl (Few_ok x.price _) ?_)
        rintro r w3 ⟨rfl, hB3⟩
        rw [hfp]
        replace hS := hS.grow hB3
        refine l_pure (gd_yes 27 (by kernel_rfl) rfl (decide_eq_false (by omega))) (s_not  rfl ?_)
        refine l_pure rfl (s_pick (vb rfl (decide_eq_false (by omega))) rfl ?_)
        refine l_pure rfl (s_move  rfl ?_)
        refine l_pure (gd_yes 33 (by kernel_rfl) rfl rfl) (s_fld  hk4_6 fo_46_1 ?_)
        refine l_read (gd_yes 33 (by kernel_rfl) rfl rfl) (s_ldo (k := 0)  rfl vi_36 hS rfl rfl rfl (.inl rfl) ?_)
        refine l_heavy (gd_yes 33 (by kernel_rfl) rfl rfl) (s_call Tryz.call42 rfl (Few_ok x.costs _) ?_)
        rintro r w4 ⟨rfl, hB4⟩
        replace hS := hS.grow hB4
        refine l_pure (gd_yes 33 (by kernel_rfl) rfl rfl) (s_not  rfl ?_)
        refine l_pure rfl (s_pick (vb rfl rfl) rfl ?_)
        refine l_nil ?_
        repeat (with_reducible first | refine c_seq ?_ | refine c_block ?_ | refine c_skip ?_ | refine x_then ?_ | refine x_block ?_)
        exact ⟨_, rfl, by assumption, by assumption, by assumption, by assumption, vb rfl (by simp), hS⟩
    clear hS h17 h18 h19
    rintro ρ w5 ⟨h17, h18, h19, h6, h38, hS⟩
    repeat (with_reducible first | refine c_seq ?_ | refine c_block ?_ | refine c_skip ?_ | refine x_then ?_ | refine x_block ?_)
    have efi : fewIt x = ((decide (x.charges.length ≤ 12) && (few x.price && few x.costs)) && x.charges.all fun c => few c.limit) := by unfold fewIt; simp only [Bool.and_assoc]
    cases hpc : (decide (x.charges.length ≤ 12) && (few x.price && few x.costs)) with
    | false =>
      rw [hpc] at efi h38
      refine c_yes h38 rfl ?_
      repeat (with_reducible first | refine c_seq ?_ | refine c_block ?_ | refine c_skip ?_ | refine x_then ?_ | refine x_block ?_)
      refine c_reg ?_
      refine l_pure rfl (s_asg  rfl ?_)
      refine l_nil ?_
      repeat (with_reducible first | refine c_seq ?_ | refine c_block ?_ | refine c_skip ?_ | refine x_then ?_ | refine x_block ?_)
      refine c_ret ?_
      repeat (with_reducible first | refine x_then_ret ?_ | refine x_block_ret ?_)
      refine r_one rfl rfl ?_
      exact ⟨vb rfl (f2 efi).symm, hS.below⟩
    | true =>
      rw [hpc] at efi h38
      refine c_no h38 rfl ?_
      repeat (with_reducible first | refine c_seq ?_ | refine c_block ?_ | refine c_skip ?_ | refine x_then ?_ | refine x_block ?_)
      refine c_reg ?_
      refine l_pure rfl (s_fld  h6 fo_46_2 ?_)
      refine l_read rfl (s_ldo (k := 0)  rfl vi_44 hS rfl rfl rfl (.inr rfl) ?_)
      refine l_pure rfl (s_lenr  rfl (hch.below hS.below) ⟨_, Tryz.underlying44⟩ ?_)
      refine l_pure rfl (s_move  rfl ?_)
      refine l_nil ?_
      repeat (with_reducible first | refine c_seq ?_ | refine c_skip ?_ | refine x_then ?_ | refine x_block ?_)
      refine c_cut1 (fun ρ w' => (x.charges.all fun c => few c.limit) = true ∧ ρ 17 = vi_ ∧ ρ 18 = .int .i64 X.length ∧ ρ 19 = .int .i64 i ∧ St w w' []) ?_ ?_
      · repeat (with_reducible first | refine c_seq ?_ | refine c_block ?_ | refine c_skip ?_ | refine x_then ?_ | refine x_block ?_)
        refine c_loop (σ := Nat) (fun k ρ w' => k ≤ x.charges.length ∧ ((x.charges.take k).all fun c => few c.limit) = true ∧ ρ 17 = vi_ ∧ ρ 18 = .int .i64 X.length ∧ ρ 19 = .int .i64 i ∧ ρ 40 = .slice ca x.charges.length ccap ∧ ρ 41 = .int .i64 x.charges.length ∧ ρ 42 = .int .i64 k ∧ St w w' []) (fun k => x.charges.length - k) 0
          ⟨Nat.zero_le _, rfl, h17, h18, h19, rfl, rfl, rfl, hS.drop (List.nil_sublist _)⟩ ?_
        clear hS h17 h18 h19 h6 h38
        rintro k ρ w6 ⟨hk1, hok, h17, h18, h19, h40, h41, h42, hS⟩
        repeat (with_reducible first | refine c_seq ?_ | refine c_block ?_ | refine c_skip ?_ | refine x_then ?_ | refine x_block ?_)
        refine c_reg ?_
        refine l_pure rfl (s_lss  h42 h41 ?_)
        refine l_nil ?_
        repeat (with_reducible first | refine c_seq ?_ | refine c_block ?_ | refine c_skip ?_ | refine x_then ?_ | refine x_block ?_)
        by_cases hkl : k < x.charges.length
        · refine c_yes rfl (decide_eq_true (by omega)) ?_
          repeat (with_reducible first | refine c_seq ?_ | refine c_block ?_ | refine c_skip ?_ | refine x_then ?_ | refine x_block ?_)
          obtain ⟨c, hc⟩ : ∃ c, c = x.charges.getD k zCh := ⟨_, rfl⟩
          obtain ⟨g1, g2⟩ := all_step (fun c => few c.limit) x.charges zCh hkl hok
          rw [← hc] at g1 g2
          repeat (with_reducible first | refine c_seq ?_ | refine c_block ?_ | refine c_skip ?_ | refine x_then ?_ | refine x_block ?_)
          refine c_reg ?_
          refine l_pure rfl (s_ixr (i := k)  h40 h42 (hch.below hS.below) (by omega) (by first | omega | (simp; done) | (simp; omega)) si_44 ?_)
          refine l_read rfl (s_lde (i := k) zCh  rfl vi_58 (hch.below hS.below) (by first | omega | (simp; done) | (simp; omega)) rfl rfl (.inl rfl) ?_)
          refine l_heavy rfl (s_alloc  vi_58 hS ?_)
          intro b8 wz5 hS hBz5
          refine l_heavy rfl (s_sta (k := 0)  rfl rfl vi_58 hS rfl rfl rfl (Nat.le_of_ble_eq_true rfl) rfl ?_)
          intro wz6 hS
          refine l_nil ?_
          repeat (with_reducible first | refine c_seq ?_ | refine c_block ?_ | refine c_skip ?_ | refine x_then ?_ | refine x_block ?_)
          replace hS : St w _ [(b8, 58, encCh (x.charges.getD k zCh))] := hS
          rw [← hc] at hS
          repeat (with_reducible first | refine c_seq ?_ | refine c_block ?_ | refine c_skip ?_ | refine x_then ?_ | refine x_block ?_)
          refine c_reg ?_
          refine l_pure rfl (s_fld  rfl fo_58_3 ?_)
          refine l_read rfl (s_ldo (k := 0)  rfl vi_36 hS rfl rfl rfl (.inl rfl) ?_)
          refine l_heavy rfl (s_call Tryz.call42 rfl (Few_ok c.limit _) ?_)
          rintro _ wc7 ⟨rfl, hBc7⟩
          replace hS := hS.grow hBc7
          refine l_pure rfl (s_not  rfl ?_)
          refine l_nil ?_
          repeat (with_reducible first | refine c_seq ?_ | refine c_block ?_ | refine c_skip ?_ | refine x_then ?_ | refine x_block ?_)
          cases hfl : few c.limit with
          | false =>
            refine c_yes rfl (rfl) ?_
            repeat (with_reducible first | refine c_seq ?_ | refine c_block ?_ | refine c_skip ?_ | refine x_then ?_ | refine x_block ?_)
            refine c_reg ?_
            refine l_pure rfl (s_asg  rfl ?_)
            refine l_nil ?_
            repeat (with_reducible first | refine c_seq ?_ | refine c_block ?_ | refine c_skip ?_ | refine x_then ?_ | refine x_block ?_)
            refine c_ret ?_
            repeat (with_reducible first | refine x_then_ret ?_ | refine x_block_ret ?_)
            refine r_one rfl rfl ?_
            exact ⟨vb rfl (f2 (by rw [efi, g2 hfl]; rfl)).symm, hS.below⟩
          | true =>
            refine c_no rfl (rfl) ?_
            repeat (with_reducible first | refine c_seq ?_ | refine c_block ?_ | refine c_skip ?_ | refine x_then ?_ | refine x_block ?_)
            refine c_reg ?_
            refine l_pure rfl (s_add  h42 rfl (IntWalk.i64_in _ (by omega)) ?_)
            refine l_pure rfl (s_move  rfl ?_)
            refine l_nil ?_
            repeat (with_reducible first | refine c_seq ?_ | refine c_block ?_ | refine c_skip ?_ | refine x_then ?_ | refine x_block ?_)
            exact ⟨k + 1, _, rfl, ⟨hkl, g1 hfl, by assumption, by assumption, by assumption, by assumption, by assumption, vi rfl (by omega), hS.drop (List.nil_sublist _)⟩, by omega⟩
        · refine c_no rfl (decide_eq_false (by omega)) ?_
          repeat (with_reducible first | refine c_seq ?_ | refine c_block ?_ | refine c_skip ?_ | refine x_then ?_ | refine x_block ?_)
          refine c_exit ?_
          repeat (with_reducible first | refine x_then_exit ?_ | refine x_block_exit ?_ | refine x_block_pass rfl ?_)
          repeat (with_reducible first | refine c_seq ?_ | refine c_block ?_ | refine c_skip ?_ | refine x_then ?_ | refine x_block ?_)
          have e : x.charges.take k = x.charges := List.take_of_length_le (by omega)
          rw [e] at hok
          exact ⟨_, rfl, hok, h17, h18, h19, hS⟩
      clear hS h17 h18 h19 h6 h38
      rintro ρ w6 ⟨hall, h17, h18, h19, hS⟩
      repeat (with_reducible first | refine c_seq ?_ | refine c_block ?_ | refine c_skip ?_ | refine x_then ?_ | refine x_block ?_)
      refine c_reg ?_
      refine l_pure rfl (s_add  h19 rfl (IntWalk.i64_in _ (by omega)) ?_)
      refine l_pure rfl (s_move  rfl ?_)
      refine l_nil ?_
      repeat (with_reducible first | refine c_seq ?_ | refine c_block ?_ | refine c_skip ?_ | refine x_then ?_ | refine x_block ?_)
      exact ⟨i + 1, _, rfl, ⟨hlt, f1 (by rw [efi, hall]; rfl), by assumption, by assumption, vi rfl (by omega), hS⟩, by omega⟩
  · refine c_no rfl (decide_eq_false (by omega)) ?_
    repeat (with_reducible first | refine c_seq ?_ | refine c_block ?_ | refine c_skip ?_ | refine x_then ?_ | refine x_block ?_)
    refine c_exit ?_
    repeat (with_reducible first | refine x_then_exit ?_ | refine x_block_exit ?_ | refine x_block_pass rfl ?_)
    repeat (with_reducible first | refine c_seq ?_ | refine c_block ?_ | refine c_skip ?_ | refine x_then ?_ | refine x_block ?_)
    have e : X.take i = X := List.take_of_length_le (by omega)
    rw [e] at hok1
    repeat (with_reducible first | refine c_seq ?_ | refine c_block ?_ | refine c_skip ?_ | refine x_then ?_ | refine x_block ?_)
    refine c_reg ?_
    refine l_pure rfl (s_asg  rfl ?_)
    refine l_nil ?_
    repeat (with_reducible first | refine c_seq ?_ | refine c_block ?_ | refine c_skip ?_ | refine x_then ?_ | refine x_block ?_)
    refine c_ret ?_
    repeat (with_reducible first | refine x_then_ret ?_ | refine x_block_ret ?_)
    refine r_one rfl rfl ?_
    exact ⟨vb rfl hok1.symm, hS.below⟩
end Go.Proofs.YtdafaibhiobpaaaGreatDoor
