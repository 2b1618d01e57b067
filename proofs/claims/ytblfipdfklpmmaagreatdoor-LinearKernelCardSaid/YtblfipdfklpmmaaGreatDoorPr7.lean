/-
  Part 7 of the texts that the law's proof is made of: the framework and the walks.
-/
import Derived.Test.YtblfipdfklpmmaaGreatDoorPr6
namespace Go.Proofs.YtblfipdfklpmmaaGreatDoor
open Go Go.RowKit Go.Sx
theorem hup_read {P : Program} {N : Nat} {ρ : Nat → Value} {w : World} {o : Oper} {K : Value → World → Prop} (h : Read1 P N ρ w o fun v => Below w.heap.size w w ∧ K v w) : Hup1 P N ρ w o fun v w' => Below w.heap.size w w' ∧ K v w' := by
  obtain ⟨v, hr, hk⟩ := h
  exact hup_of_run (hr w (Below.refl _ _)) hk
theorem augRow {A : List (List RR)} {B : List RR} {i : Nat} : RM [tab A.length (qM (RM A) i) ++ [B.getD i zRR]] 0 = fun j => if j < A.length then RM A i j else if j = A.length then VX B i else 0 := by
  funext j
  have htl := tab_len A.length (qM (RM A) i)
  show toQ ((tab A.length (qM (RM A) i) ++ [B.getD i zRR]).getD j zRR) = _
  by_cases h : j < A.length
  · rw [if_pos h, List.getD_eq_getElem?_getD, List.getElem?_append_left (by omega), ← List.getD_eq_getElem?_getD, tab_get _ _ h]
    exact toQ_ofQ _
  · rw [if_neg h, List.getD_eq_getElem?_getD, List.getElem?_append_right (by omega), htl]
    by_cases h2 : j = A.length
    · rw [if_pos h2, h2, Nat.sub_self]; rfl
    · rw [if_neg h2, List.getElem?_eq_none (by simp; omega)]
      exact toQ_zRR
theorem AUG_row (A : List (List RR)) (B : List RR) (i : Nat) : AUG A B i = RM [tab A.length (qM (RM A) i) ++ [B.getD i zRR]] 0 := augRow.symm
theorem AUG_L {A : List (List RR)} {B : List RR} {K i : Nat} (hB : RBM K A) (hBB : RB K B) (hi : i < A.length) (hiB : i < B.length) (hev : (A.getD i []).length = A.length) : ∀ j, j < A.length + 1 → L (AUG A B i j) ≤ K := by
  intro j hj
  unfold AUG
  by_cases h : j < A.length
  · rw [if_pos h]; exact RM_L hB hi (by omega)
  · rw [if_neg h, if_pos (by omega)]
    exact Nat.le_trans (L_toQ _) (hBB _ (getD_mem B i zRR hiB))
def SS (S : Nat) : Nat → Nat
  | 0 => S
  | k + 1 => 2 * SS S k + 1
theorem SS_le (S : Nat) : ∀ k, SS S k + 1 = 2 ^ k * (S + 1)
  | 0 => by show S + 1 = _; rw [Nat.pow_zero, Nat.one_mul]
  | k + 1 => by
    have ih := SS_le S k
    show 2 * SS S k + 1 + 1 = _
    rw [Nat.pow_succ, Nat.mul_comm (2 ^ k) 2, Nat.mul_assoc, ← ih]; omega
theorem SS_16 {S k : Nat} (hk : k ≤ 16) : SS S k + 1 ≤ 65536 * (S + 1) := by
  rw [SS_le]
  exact Nat.mul_le_mul_right _ (Nat.le_trans (Nat.pow_le_pow_right (by decide) hk) (by decide))
theorem repMst {n m k : Nat} {B : Mx} {f : MZ} (h : RepZ n m B k fun i j => zv (f i j)) (hk : (rdc n B k).P.length = k) (hkm : k < m) (i : Nat) (hi : i < n) : (f i k).mag ≠ 0 ↔ (rdc n B k).M i k ≠ 0 := by
  have e := rep_zero h hk hi hkm
  exact not_congr (zv_ne.symm.trans e)
theorem zv_step (g : MZ) (k : Nat) (last : ZZ) (i j : Nat) : zv (zStep g k last i j) = stepZ (fun i j => zv (g i j)) k (zv last) i j := by
  unfold zStep stepZ zNew
  by_cases h : i = k
  · rw [if_pos h, if_pos h]
  · rw [if_neg h, if_neg h]
    by_cases h2 : j = k
    · rw [if_pos h2, if_pos h2]; rfl
    · rw [if_neg h2, if_neg h2, zv_over, zv_minus, zv_times, zv_times]
def swpG (f : MZ) (k p : Nat) : MZ := fun i j => if i = p then f k j else if i = k then f p j else f i j
theorem zv_swp (f : MZ) (k p : Nat) : (fun i j => zv (swpG f k p i j)) = swpZ (fun i j => zv (f i j)) k p := by
  funext i j
  unfold swpG swpZ
  by_cases h : i = p
  · rw [if_pos h]
    by_cases h2 : i = k
    · rw [if_pos h2, ← h2, h]
    · rw [if_neg h2, if_pos h]
  · rw [if_neg h]
    by_cases h2 : i = k
    · rw [if_pos h2, if_pos h2]
    · rw [if_neg h2, if_neg h2, if_neg h]
theorem swpG_size {f : MZ} {n m S k p : Nat} (hk : k < n) (hp : p < n) (h : ∀ i, i < n → ∀ j, j < m → zSz (f i j) ≤ S) : ∀ i, i < n → ∀ j, j < m → zSz (swpG f k p i j) ≤ S := by
  intro i hi j hj
  unfold swpG
  split
  · exact h k hk j hj
  · split
    · exact h p hp j hj
    · exact h i hi j hj
def oF (g : Nat → Rat) (i a : Nat) : Rat := if a < i then g a else 0
theorem oF_set (g : Nat → Rat) (n i : Nat) : (tab n fun a => ofQ (oF g i a)).set i (ofQ (g i)) = tab n fun a => ofQ (oF g (i + 1) a) := by
  rw [tabQ_set]
  refine tab_congr fun a _ => ?_
  unfold oF
  by_cases h : a = i
  · rw [if_pos h, if_pos (by omega), h]
  · rw [if_neg h]
    by_cases h2 : a < i
    · rw [if_pos h2, if_pos (by omega)]
    · rw [if_neg h2, if_neg (by omega)]
theorem oF_zero (g : Nat → Rat) (n : Nat) : List.replicate n zRR = tab n fun a => ofQ (oF g 0 a) := by
  rw [tab_rep]
  refine tab_congr fun a _ => ?_
  unfold oF
  rw [if_neg (Nat.not_lt_zero _), ofQ_zero]; rfl
theorem perm_in {α : Type} (z a b : α) (L D : List α) : (z :: a :: b :: (L ++ D)).Perm (a :: b :: (L ++ [z] ++ D)) := by
  have h1 : (z :: a :: b :: (L ++ D)).Perm (a :: b :: z :: (L ++ D)) := (List.Perm.swap a z _).trans (List.Perm.cons _ (List.Perm.swap b z _))
  refine h1.trans (List.Perm.cons _ (List.Perm.cons _ ?_))
  rw [List.append_assoc]
  exact List.perm_middle.symm
theorem perm_out {α : Type} (z a b : α) (L D : List α) : (a :: b :: (L ++ z :: D)).Perm (a :: b :: (L ++ D) ++ [z]) := by
  refine List.Perm.cons _ (List.Perm.cons _ ?_)
  exact List.perm_middle.trans (List.perm_append_singleton _ _).symm
theorem MatG_gl {R : List (Rw RR)} {n m : Nat} {f : Nat → Nat → RR} (hR : MatG R n m f) (hF : RwFull R) {i : Nat} (hi : i < n) (t : TypeId) : Gl encR t 3 (R.getD i zRw).v (tab m (f i)) [(R.getD i zRw).blk encR t] := by
  have hl : i < R.length := by rw [hR.len]; exact hi
  have hf := hF _ (getD_mem R i zRw hl)
  obtain ⟨hc1, hc2⟩ := hR.cap i hi
  have hr := hR.row i hi
  have htl := tab_len m (f i)
  refine ⟨flat_len encR_len _, .inr ⟨(R.getD i zRw).b, (R.getD i zRw).cap, (R.getD i zRw).sp, ?_, ?_, ?_, ?_, ?_⟩⟩
  · rw [hR.v hi, htl]
  · rw [← hr]; rfl
  · rw [htl]; exact hc1
  · unfold Go.maxLen; omega
  · rw [← hr]; exact hf
set_option maxHeartbeats 8000000 in
theorem lSolve_ok (v vb_ : Value) (A : List (List RR)) (vs : List Value) (B : List RR) (K : Nat) (w : World) (hA : Mts encR 3 w v A vs) (hBv : Sl encR 3 w vb_ B) (hB : RBM K A) (hBB : RB K B) (hK : 200000000 * K + 300000000 ≤ MX) :
    Ret Tryz.prog 12 #[v, vb_] w fun r w' => (∃ v', r = .tuple #[v', .int .i64 (slE A B)] ∧ Sl encR 3 w' v' (slL A B)) ∧ Below w.heap.size w w' := by
  have hM : MX = 1099511627776 := rfl
  have hno : slE A B ≠ 0 → slL A B = [] := fun h => if_neg h
  have hS := St.init w
  have hlen := hA.len
  have hmx := hBv.maxLen
  refine enter Tryz.func12 rfl Tryz.ntmps12 rfl ?_
  repeat (with_reducible first | refine c_seq ?_ | refine c_block ?_ | refine c_skip ?_ | refine x_then ?_ | refine x_block ?_)
  refine c_reg ?_
  refine l_pure rfl (s_asg  rfl ?_)
  refine l_pure rfl (s_asg  rfl ?_)
  refine l_nil ?_
  repeat (with_reducible first | refine c_seq ?_ | refine c_block ?_ | refine c_skip ?_ | refine x_then ?_ | refine x_block ?_)
  refine c_reg ?_
  refine l_pure rfl (s_move  rfl ?_)
  refine l_heavy rfl (s_call Tryz.call30 rfl (lsquare_ok v A vs _ (hA.below hS.below)) ?_)
  rintro _ wc1 ⟨rfl, hBc1⟩
  replace hS := hS.grow hBc1
  refine l_pure rfl (s_asg  rfl ?_)
  refine l_nil ?_
  repeat (with_reducible first | refine c_seq ?_ | refine c_block ?_ | refine c_skip ?_ | refine x_then ?_ | refine x_block ?_)
  refine c_reg ?_
  refine l_pure rfl (s_move  rfl ?_)
  refine l_pure rfl (s_neq  rfl rfl ?_)
  refine l_nil ?_
  repeat (with_reducible first | refine c_seq ?_ | refine c_block ?_ | refine c_skip ?_ | refine x_then ?_ | refine x_block ?_)
  by_cases he : sqE A ≠ 0
  · have e1 : slE A B = sqE A := if_pos he
    refine c_yes rfl (decide_eq_true (by omega)) ?_
    repeat (with_reducible first | refine c_seq ?_ | refine c_block ?_ | refine c_skip ?_ | refine x_then ?_ | refine x_block ?_)
    refine c_reg ?_
    refine l_pure rfl (s_move  rfl ?_)
    refine l_pure rfl (s_asg  rfl ?_)
    refine l_pure rfl (s_asg  rfl ?_)
    refine l_nil ?_
    repeat (with_reducible first | refine c_seq ?_ | refine c_block ?_ | refine c_skip ?_ | refine x_then ?_ | refine x_block ?_)
    refine c_ret ?_
    repeat (with_reducible first | refine x_then_ret ?_ | refine x_block_ret ?_)
    refine r_two rfl rfl rfl ?_
    refine ⟨⟨_, by rw [e1]; rfl, ?_⟩, hS.below⟩
    rw [hno (by rw [e1]; exact he)]; exact Sl.nil _ _ _
  replace he := Decidable.not_not.1 he
  obtain ⟨hs0, hsq⟩ := sqE_zero he
  obtain ⟨h1, h2, h3, h4, h5⟩ := shpE_zero hs0
  refine c_no rfl (decide_eq_false (by omega)) ?_
  repeat (with_reducible first | refine c_seq ?_ | refine c_block ?_ | refine c_skip ?_ | refine x_then ?_ | refine x_block ?_)
  refine c_reg ?_
  refine l_pure rfl (s_move  rfl ?_)
  refine l_pure rfl (s_lenr  rfl (hA.sl.below hS.below) ⟨_, Tryz.underlying22⟩ ?_)
  refine l_pure rfl (s_asg  rfl ?_)
  refine l_nil ?_
  repeat (with_reducible first | refine c_seq ?_ | refine c_block ?_ | refine c_skip ?_ | refine x_then ?_ | refine x_block ?_)
  refine c_reg ?_
  refine l_pure rfl (s_move  rfl ?_)
  refine l_pure rfl (s_lenr  rfl (hBv.below hS.below) ⟨_, Tryz.underlying23⟩ ?_)
  refine l_pure rfl (s_move  rfl ?_)
  refine l_pure rfl (s_neq  rfl rfl ?_)
  refine l_nil ?_
  repeat (with_reducible first | refine c_seq ?_ | refine c_block ?_ | refine c_skip ?_ | refine x_then ?_ | refine x_block ?_)
  by_cases hx : B.length ≠ A.length
  · have e1 : slE A B = 4 := by unfold slE; rw [if_neg (by omega), if_pos hx]
    refine c_yes rfl (decide_eq_true (by omega)) ?_
    repeat (with_reducible first | refine c_seq ?_ | refine c_block ?_ | refine c_skip ?_ | refine x_then ?_ | refine x_block ?_)
    refine c_reg ?_
    refine l_pure rfl (s_asg  rfl ?_)
    refine l_pure rfl (s_asg  rfl ?_)
    refine l_nil ?_
    repeat (with_reducible first | refine c_seq ?_ | refine c_block ?_ | refine c_skip ?_ | refine x_then ?_ | refine x_block ?_)
    refine c_ret ?_
    repeat (with_reducible first | refine x_then_ret ?_ | refine x_block_ret ?_)
    refine r_two rfl rfl rfl ?_
    refine ⟨⟨_, by rw [e1]; rfl, ?_⟩, hS.below⟩
    rw [hno (by rw [e1]; decide)]; exact Sl.nil _ _ _
  replace hx := Decidable.not_not.1 hx
  refine c_no rfl (decide_eq_false (by omega)) ?_
  repeat (with_reducible first | refine c_seq ?_ | refine c_block ?_ | refine c_skip ?_ | refine x_then ?_ | refine x_block ?_)
  rw [hlen]
  have e1 : slE A B = if (slD A B).P.length = A.length then 0 else 5 := by unfold slE; rw [if_neg (by omega), if_neg (by omega)]
  obtain ⟨n, hn⟩ : ∃ n, n = A.length := ⟨_, rfl⟩
  rw [← hn] at h1 h2 h5 hx e1 hsq ⊢
  rw [← hsq] at h5
  have hAL : ∀ i, i < n → ∀ j, j < n + 1 → L (AUG A B i j) ≤ K := fun i hi => by
    rw [hn]; exact AUG_L hB hBB (by omega) (by omega) (by rw [h5 i hi, hn])
  have haug : ∀ i, AUG A B i = RM [tab n (qM (RM A) i) ++ [B.getD i zRR]] 0 := fun i => by rw [hn]; exact AUG_row A B i
  have hout : ∀ i j, n + 1 ≤ j → AUG A B i j = 0 := by rw [hn]; exact AUG_out A B
  have hslD : slD A B = rdc n (AUG A B) n := by rw [hn]; rfl
  have hslL : slE A B = 0 → slL A B = tab n fun i => ofQ ((rdc n (AUG A B) n).M i n) := fun h => by rw [hn]; exact if_pos h
  rw [hslD] at e1
  obtain ⟨q, hq⟩ : ∃ q, q = AUG A B := ⟨_, rfl⟩
  rw [← hq] at hAL haug hout e1 hslL
  repeat (with_reducible first | refine c_seq ?_ | refine c_block ?_ | refine c_skip ?_ | refine x_then ?_ | refine x_block ?_)
  refine c_reg ?_
  refine l_pure rfl (s_move  rfl ?_)
  refine l_heavy rfl (s_make (n := n)  rfl rfl si_61 (by omega) (by omega) (by omega) (by omega) hS ?_)
  intro bw wz2 hS hBz2
  refine l_pure rfl (s_asg  rfl ?_)
  refine l_nil ?_
  repeat (with_reducible first | refine c_seq ?_ | refine c_block ?_ | refine c_skip ?_ | refine x_then ?_ | refine x_block ?_)
  replace hS : St w _ [(bw, 63, rep n [nilS])] := hS
  rw [rep_nil] at hS
  repeat (with_reducible first | refine c_seq ?_ | refine c_block ?_ | refine c_skip ?_ | refine x_then ?_ | refine x_block ?_)
  refine c_forget (fun ρ' => ρ' 0 = v ∧ ρ' 1 = vb_ ∧ ρ' 7 = .int .i64 n ∧ ρ' 8 = .slice (some ⟨bw, 0, none⟩) n n ∧ True) ⟨rfl, rfl, rfl, rfl, trivial⟩ ?_
  rintro ρk3 ⟨hk3_0, hk3_1, hk3_7, hk3_8, -⟩
  repeat (with_reducible first | refine c_seq ?_ | refine c_block ?_ | refine c_skip ?_ | refine x_then ?_ | refine x_block ?_)
  refine c_reg ?_
  refine l_pure rfl (s_move  hk3_0 ?_)
  refine l_heavy rfl (s_call Tryz.call31 rfl (lclean_ok v A vs n K _ (hA.below hS.below) (by omega) (by omega) h1 (by omega) (by rw [← hn]; exact h5) hB (by omega)) ?_)
  rintro r w2 ⟨⟨bc, RC, rfl, hRC, hFC, hS2⟩, hB2⟩
  rw [← hn] at hRC ⊢
  replace hS := hS.join hS2
  clear hS2
  rw [mB_app] at hS
  refine l_pure rfl (s_leno  rfl ⟨_, Tryz.underlying22⟩ ?_)
  refine l_pure rfl (s_move  rfl ?_)
  refine l_nil ?_
  repeat (with_reducible first | refine c_seq ?_ | refine c_skip ?_ | refine x_then ?_ | refine x_block ?_)
  replace hS : St w _ ((bc, 23, RC.map Rw.v) :: (bw, 63, ([] : List (Rw ZZ)).map Rw.v ++ List.replicate (n - 0) nilS) :: (([] : List (Rw ZZ)).map (Rw.blk encZ 68) ++ (RC.drop 0).map (Rw.blk encR 49))) := hS.perm (List.Perm.cons _ (List.perm_append_singleton _ _))
  refine c_cut1 (fun ρ w' => ρ 7 = .int .i64 n ∧ ρ 8 = .slice (some ⟨bw, 0, none⟩) n n ∧ ∃ RW, MatG RW n (n + 1) (BmZ q (n + 1)) ∧ St w w' (mB encZ 68 63 bw RW [])) ?_ ?_
  · repeat (with_reducible first | refine c_seq ?_ | refine c_block ?_ | refine c_skip ?_ | refine x_then ?_ | refine x_block ?_)
    refine c_loop (σ := Nat) (fun i ρ w' => i ≤ n ∧ ρ 1 = vb_ ∧ ρ 7 = .int .i64 n ∧ ρ 8 = .slice (some ⟨bw, 0, none⟩) n n ∧ ρ 31 = .slice (some ⟨bc, 0, none⟩) n n ∧ ρ 32 = .int .i64 n ∧ ρ 33 = .int .i64 i ∧
      ∃ RW, MatG RW i (n + 1) (BmZ q (n + 1)) ∧ St w w' ((bc, 23, RC.map Rw.v) :: (bw, 63, RW.map Rw.v ++ List.replicate (n - i) nilS) :: (RW.map (Rw.blk encZ 68) ++ (RC.drop i).map (Rw.blk encR 49)))) (fun i => n - i) 0
      ⟨Nat.zero_le _, by assumption, by assumption, by assumption, rfl, rfl, rfl, [], ⟨rfl, fun i hi => absurd hi (Nat.not_lt_zero _), fun i hi => absurd hi (Nat.not_lt_zero _)⟩, hS⟩ ?_
    clear hS
    rintro i ρ w3 ⟨hi, h1', h7, h8, h31, h32, h33, RW, hRW, hS⟩
    repeat (with_reducible first | refine c_seq ?_ | refine c_block ?_ | refine c_skip ?_ | refine x_then ?_ | refine x_block ?_)
    refine c_reg ?_
    refine l_pure rfl (s_lss  h33 h32 ?_)
    refine l_nil ?_
    repeat (with_reducible first | refine c_seq ?_ | refine c_block ?_ | refine c_skip ?_ | refine x_then ?_ | refine x_block ?_)
    by_cases hlt : i < n
    · refine c_yes rfl (decide_eq_true (by omega)) ?_
      repeat (with_reducible first | refine c_seq ?_ | refine c_block ?_ | refine c_skip ?_ | refine x_then ?_ | refine x_block ?_)
      have hlc : i < RC.length := by rw [hRC.len]; exact hlt
      obtain ⟨d, hd⟩ : ∃ d, n - i = d + 1 := ⟨n - i - 1, by omega⟩
      have hdrop : RC.drop i = RC.getD i zRw :: RC.drop (i + 1) := by rw [getD_ge RC zRw hlc]; exact List.drop_eq_getElem_cons hlc
      have hG := MatG_gl hRC hFC hlt 49
      have htl := tab_len n (qM (RM A) i)
      have hLb := hBB _ (getD_mem B i zRR (by omega))
      rw [hdrop, List.map_cons, hd, List.replicate_succ] at hS
      replace hS := hS.perm (perm_out _ _ _ _ _)
      repeat (with_reducible first | refine c_seq ?_ | refine c_block ?_ | refine c_skip ?_ | refine x_then ?_ | refine x_block ?_)
      refine c_reg ?_
      refine l_pure rfl (s_move  h33 ?_)
      refine l_pure rfl (s_ixo (i := i)  h31 h33 (by omega) (by first | omega | (simp; done) | (simp; omega)) si_22 ?_)
      refine l_read rfl (s_ldc (k := 0)  rfl vi_23 hS rfl (by rw [Nat.zero_add, Nat.mul_one]; exact mB_row hlc) ?_)
      refine l_pure rfl (s_asg  rfl ?_)
      refine l_pure rfl (s_asg  rfl ?_)
      refine l_nil ?_
      repeat (with_reducible first | refine c_seq ?_ | refine c_block ?_ | refine c_skip ?_ | refine x_then ?_ | refine x_block ?_)
      refine c_reg ?_
      refine l_pure rfl (s_move  h8 ?_)
      refine l_pure rfl (s_move  rfl ?_)
      refine l_pure rfl (s_move  rfl ?_)
      refine l_pure rfl (s_move  h1' ?_)
      refine l_pure rfl (s_move  rfl ?_)
      refine l_pure rfl (s_ixr (i := i)  rfl rfl (hBv.below hS.below) (by omega) (by first | omega | (simp; done) | (simp; omega)) si_23 ?_)
      refine l_read rfl (s_lde (i := i) zRR  rfl vi_49 (hBv.below hS.below) (by first | omega | (simp; done) | (simp; omega)) rfl rfl (.inl rfl) ?_)
      refine l_heavy rfl (s_bsl (vs := [aggR (B.getD i zRR)])  rfl si_23 rfl (by decide) (by decide) (by decide) (by simp [Value.cells, aggR]) rfl hS ?_)
      intro b45 wz4 hS hBz4
      refine l_heavy rfl (s_appl [B.getD i zRR]  rfl rfl si_23 (by decide) hG hS rfl rfl encR_len (encR_one [B.getD i zRR]) (by first | omega | (simp only [List.length_cons, List.length_nil]; omega)) (by first | omega | (simp only [List.length_cons, List.length_nil]; omega)) ?_)
      intro va5 La5 wa5 hG hS hga5
      obtain ⟨aq, cq, rfl⟩ := hG.len
      refine l_heavy rfl (s_bsl (vs := [.slice aq (tab n (qM (RM A) i) ++ [B.getD i zRR]).length cq])  rfl si_22 rfl (by decide) (by decide) (by decide) (by simp [Value.cells]) rfl hS ?_)
      intro b47 wz6 hS hBz6
      have hX := hS.drop ((List.sublist_append_left ((bc, 23, RC.map Rw.v) :: (bw, 63, RW.map Rw.v ++ nilS :: List.replicate d nilS) :: (RW.map (Rw.blk encZ 68) ++ (RC.drop (i + 1)).map (Rw.blk encR 49))) _).trans (List.sublist_cons_self _ _))
      have hsl1 := hS.sle (k := 0) (enc := enV) (L := [.slice aq (tab n (qM (RM A) i) ++ [B.getD i zRR]).length cq]) (n := 1) (cap := 1) rfl (fun _ => rfl) (Nat.le_refl _) (Nat.le_refl _) (by omega)
      have hslr := hG.sl (H := (b47, 23, [Value.slice aq (tab n (qM (RM A) i) ++ [B.getD i zRR]).length cq]) :: (bc, 23, RC.map Rw.v) :: (bw, 63, RW.map Rw.v ++ nilS :: List.replicate d nilS) :: (RW.map (Rw.blk encZ 68) ++ (RC.drop (i + 1)).map (Rw.blk encR 49))) hS encR_len
      have hx1 : (tab n (qM (RM A) i) ++ [B.getD i zRR]).length = n + 1 := by rw [List.length_append, htl]; rfl
      have hmts : Mts encR 3 _ (.slice (some ⟨b47, 0, none⟩) 1 1) [tab n (qM (RM A) i) ++ [B.getD i zRR]] [.slice aq (tab n (qM (RM A) i) ++ [B.getD i zRR]).length cq] := ⟨rfl, hsl1, fun a ha => by
        obtain rfl : a = 0 := Nat.lt_one_iff.1 ha
        exact hslr⟩
      have hBM : RBM K [tab n (qM (RM A) i) ++ [B.getD i zRR]] := fun a ha r hr => by
        rw [List.mem_singleton.1 ha] at hr
        rcases List.mem_append.1 hr with g | g
        · obtain ⟨j, hj, rfl⟩ := tab_mem g
          rw [Lr_ofQ]
          exact RM_L hB (by omega) (by rw [h5 i hlt]; exact hj)
        · rw [List.mem_singleton.1 g]; exact hLb
      refine l_heavy rfl (s_call Tryz.call31 rfl (lclean_ok _ [tab n (qM (RM A) i) ++ [B.getD i zRR]] _ (n + 1) K _ hmts (Nat.le_refl _) (Nat.le_of_ble_eq_true rfl) (by omega) (by omega) (fun a ha => by obtain rfl : a = 0 := Nat.lt_one_iff.1 ha; exact hx1) hBM (by omega)) ?_)
      rintro r w4 ⟨⟨b1, R1, rfl, hR1, -, hT⟩, hB4⟩
      replace hX := hX.grow hB4
      have hl1 : 0 < R1.length := by rw [hR1.len]; exact Nat.one_pos
      have hrow1 := hR1.sl hT encR_len (i := 0) Nat.one_pos
      rw [show qM (RM [tab n (qM (RM A) i) ++ [B.getD i zRR]]) 0 = fun j => ofQ (q i j) by rw [haug i]] at hrow1
      refine l_pure rfl (s_ixo (i := 0)  rfl rfl (by omega) (by first | omega | (simp; done) | (simp; omega)) si_22 ?_)
      refine l_read rfl (s_mrowP []  rfl vi_23 hT (by omega) hl1 ?_)
      refine l_heavy rfl (s_call Tryz.call32 rfl (lintegers_ok _ (q i) (n + 1) K _ hrow1 (by omega) (hAL i hlt) (by omega)) ?_)
      rintro r w5 ⟨⟨bz, rfl, hZ⟩, -⟩
      have hlenR : (RW.map Rw.v).length = i := by rw [List.length_map, hRW.len]
      have hfit : i < (RW.map Rw.v ++ nilS :: List.replicate d nilS).length := by rw [List.length_append, hlenR, List.length_cons]; omega
      clear hS
      have hS := hX.join hZ
      clear hX hZ
      refine l_pure rfl (s_ixo (i := i)  rfl rfl (by omega) (by first | omega | (simp; done) | (simp; omega)) si_61 ?_)
      refine l_heavy rfl (s_stc (k := 2)  rfl rfl vi_63 hS rfl (by rw [Nat.zero_add, Nat.mul_one]; exact hfit) rfl ?_)
      intro wz7 hS
      refine l_nil ?_
      repeat (with_reducible first | refine c_seq ?_ | refine c_block ?_ | refine c_skip ?_ | refine x_then ?_ | refine x_block ?_)
      replace hS : St w _ ((bz, 68, (tab (n + 1) (itZ (q i) (n + 1))).flatMap encZ) :: (bc, 23, RC.map Rw.v) :: (bw, 63, (RW.map Rw.v ++ nilS :: List.replicate d nilS).set (0 + i * 1) (.slice (some ⟨bz, 0, none⟩) (n + 1) (n + 1))) :: (RW.map (Rw.blk encZ 68) ++ (RC.drop (i + 1)).map (Rw.blk encR 49))) := hS
      rw [Nat.zero_add, Nat.mul_one, mid_set _ _ _ _ hlenR] at hS
      replace hS := hS.perm (perm_in _ _ _ _ _)
      obtain ⟨nr, hnr⟩ : ∃ nr : Rw ZZ, nr = ⟨bz, n + 1, tab (n + 1) (itZ (q i) (n + 1)), []⟩ := ⟨_, rfl⟩
      have hnX : nr.X = tab (n + 1) (BmZ q (n + 1) i) := by rw [hnr]; rfl
      have hnc : nr.cap = n + 1 := by rw [hnr]
      have hvz : nr.v = .slice (some ⟨bz, 0, none⟩) (n + 1) (n + 1) := by
        rw [hnr]
        show Value.slice _ (tab (n + 1) (itZ (q i) (n + 1))).length _ = _
        rw [tab_len]
      have hbz : nr.blk encZ 68 = (bz, 68, (tab (n + 1) (itZ (q i) (n + 1))).flatMap encZ) := by
        rw [hnr]
        show (bz, 68, (tab (n + 1) (itZ (q i) (n + 1))).flatMap encZ ++ []) = _
        rw [List.append_nil]
      rw [← hbz, ← hvz] at hS
      repeat (with_reducible first | refine c_seq ?_ | refine c_block ?_ | refine c_skip ?_ | refine x_then ?_ | refine x_block ?_)
      refine c_reg ?_
      refine l_pure rfl (s_add  h33 rfl (IntWalk.i64_in _ (by omega)) ?_)
      refine l_pure rfl (s_move  rfl ?_)
      refine l_nil ?_
      repeat (with_reducible first | refine c_seq ?_ | refine c_block ?_ | refine c_skip ?_ | refine x_then ?_ | refine x_block ?_)
      refine ⟨i + 1, _, rfl, ⟨hlt, by assumption, by assumption, by assumption, by assumption, by assumption, vi rfl (by omega), RW ++ [nr], MatG_snoc hRW hnX ⟨by omega, by omega⟩, ?_⟩, by omega⟩
      rw [List.map_append, List.map_append, show n - (i + 1) = d by omega, List.append_assoc]
      exact hS
    · refine c_no rfl (decide_eq_false (by omega)) ?_
      repeat (with_reducible first | refine c_seq ?_ | refine c_block ?_ | refine c_skip ?_ | refine x_then ?_ | refine x_block ?_)
      refine c_exit ?_
      repeat (with_reducible first | refine x_then_exit ?_ | refine x_block_exit ?_ | refine x_block_pass rfl ?_)
      repeat (with_reducible first | refine c_seq ?_ | refine c_block ?_ | refine c_skip ?_ | refine x_then ?_ | refine x_block ?_)
      obtain rfl : n = i := by omega
      rw [Nat.sub_self, List.replicate_zero, List.append_nil, List.drop_of_length_le (by rw [hRC.len]; exact Nat.le_refl _), List.map_nil] at hS
      exact ⟨_, rfl, h7, h8, RW, hRW, hS.drop (List.sublist_cons_self _ _)⟩
  clear hS
  rintro ρ w3 ⟨h7, h8, RW, hRW, hS⟩
  obtain ⟨S0, hS0⟩ : ∃ S0, S0 = 1001 * K + 1 := ⟨_, rfl⟩
  have hSS : ∀ k, k ≤ n → SS S0 k + 1 ≤ 65536 * (S0 + 1) := fun k hk => SS_16 (by omega)
  have hsz0 : ∀ i, i < n → ∀ j, j < n + 1 → zSz (BmZ q (n + 1) i j) ≤ S0 := by
    intro i hi j hj
    have g1 := itZ_size (hAL i hi) hj
    have g2 := cSz_le (hAL i hi) (n + 1) (Nat.le_refl _)
    have g3 : (n + 1) * K ≤ 1000 * K := Nat.mul_le_mul_right _ (by omega)
    show zSz (itZ (q i) (n + 1) j) ≤ S0
    omega
  obtain ⟨Bm, hBm⟩ : ∃ Bm, Bm = BmR q (n + 1) := ⟨_, rfl⟩
  have hWh : WholeMx Bm := by rw [hBm]; exact BmR_whole _ _
  have hfi := fun k => full_iff (n := n) hout k
  have hfs := full_same (n := n) hout
  rw [← hBm] at hfi hfs
  have hrep0 : RepZ n (n + 1) Bm 0 fun i j => zv (BmZ q (n + 1) i j) := by
    intro i hi j hj
    rw [hBm]
    show _ = 1 * BmR q (n + 1) i j
    unfold BmR
    rw [if_pos hj, Rat.one_mul]
  repeat (with_reducible first | refine c_seq ?_ | refine c_block ?_ | refine c_skip ?_ | refine x_then ?_ | refine x_block ?_)
  refine c_reg ?_
  refine l_heavy rfl (s_call Tryz.call33 rfl (FromUint_ok 1 _ (by decide)) ?_)
  rintro _ wc8 ⟨rfl, hBc8⟩
  replace hS := hS.grow hBc8
  refine l_pure rfl (s_build  rfl (built_Z _ _) ?_)
  refine l_heavy rfl (s_alloc  vi_68 hS ?_)
  intro b11 wz9 hS hBz9
  refine l_heavy rfl (s_sta (k := 0)  rfl rfl vi_68 hS rfl rfl rfl (Nat.le_of_ble_eq_true rfl) rfl ?_)
  intro wz10 hS
  refine l_nil ?_
  repeat (with_reducible first | refine c_seq ?_ | refine c_block ?_ | refine c_skip ?_ | refine x_then ?_ | refine x_block ?_)
  replace hS : St w _ ([(b11, 68, encZ ⟨false, 1⟩)] ++ mB encZ 68 63 bw RW []) := hS
  repeat (with_reducible first | refine c_seq ?_ | refine c_block ?_ | refine c_skip ?_ | refine x_then ?_ | refine x_block ?_)
  refine c_reg ?_
  refine l_pure rfl (s_move  h7 ?_)
  refine l_pure rfl (s_move  rfl ?_)
  refine l_nil ?_
  repeat (with_reducible first | refine c_seq ?_ | refine c_skip ?_ | refine x_then ?_ | refine x_block ?_)
  refine c_cut1 (fun ρ w' => (rdc n Bm n).P.length = n ∧ ρ 7 = .int .i64 n ∧ ρ 8 = .slice (some ⟨bw, 0, none⟩) n n ∧ ∃ RW f, MatG RW n (n + 1) f ∧ RepZ n (n + 1) Bm n (fun i j => zv (f i j)) ∧ (∀ i, i < n → ∀ j, j < n + 1 → zSz (f i j) ≤ SS S0 n) ∧ St w w' (mB encZ 68 63 bw RW [])) ?_ ?_
  · repeat (with_reducible first | refine c_seq ?_ | refine c_block ?_ | refine c_skip ?_ | refine x_then ?_ | refine x_block ?_)
    refine c_loop (σ := Nat) (fun k ρ w' => k ≤ n ∧ (rdc n Bm k).P.length = k ∧ ρ 7 = .int .i64 n ∧ ρ 8 = .slice (some ⟨bw, 0, none⟩) n n ∧ ρ 11 = .pointer (some ⟨b11, 0, none⟩) ∧ ρ 56 = .int .i64 n ∧ ρ 57 = .int .i64 k ∧ ∃ RW f last, MatG RW n (n + 1) f ∧ RepZ n (n + 1) Bm k (fun i j => zv (f i j)) ∧ (∀ i, i < n → ∀ j, j < n + 1 → zSz (f i j) ≤ SS S0 k) ∧ ((zv last : Int) : Rat) = dd n Bm k ∧ zSz last ≤ SS S0 k ∧
      St w w' ([(b11, 68, encZ last)] ++ mB encZ 68 63 bw RW [])) (fun k => n - k) 0
      ⟨Nat.zero_le _, rfl, by assumption, by assumption, rfl, rfl, rfl, RW, _, ⟨false, 1⟩, hRW, hrep0, hsz0, rfl, (by show (natS 1).size ≤ S0; rw [natS_one_size]; omega), hS⟩ ?_
    clear hS hRW hrep0 hsz0
    rintro k ρ w4 ⟨hk, hkP, h7, h8, h11, h56, h57, RW, f, last, hRW, hrep, hsz, hlv, hlz, hS⟩
    have hSk := hSS k hk
    repeat (with_reducible first | refine c_seq ?_ | refine c_block ?_ | refine c_skip ?_ | refine x_then ?_ | refine x_block ?_)
    refine c_reg ?_
    refine l_pure rfl (s_lss  h57 h56 ?_)
    refine l_nil ?_
    repeat (with_reducible first | refine c_seq ?_ | refine c_block ?_ | refine c_skip ?_ | refine x_then ?_ | refine x_block ?_)
    by_cases hkn : k < n
    · refine c_yes rfl (decide_eq_true (by omega)) ?_
      repeat (with_reducible first | refine c_seq ?_ | refine c_block ?_ | refine c_skip ?_ | refine x_then ?_ | refine x_block ?_)
      have hlk : k < RW.length := by rw [hRW.len]; exact hkn
      repeat (with_reducible first | refine c_seq ?_ | refine c_block ?_ | refine c_skip ?_ | refine x_then ?_ | refine x_block ?_)
      refine c_reg ?_
      refine l_pure rfl (s_move  h57 ?_)
      refine l_heavy rfl (s_alloc  vi_3 hS ?_)
      intro b12 wz11 hS hBz11
      refine l_heavy rfl (s_stc (k := 0)  rfl rfl vi_3 hS rfl (Nat.le_of_ble_eq_true rfl) rfl ?_)
      intro wz12 hS
      refine l_nil ?_
      repeat (with_reducible first | refine c_seq ?_ | refine c_block ?_ | refine c_skip ?_ | refine x_then ?_ | refine x_block ?_)
      have hmB := hS.drop (List.sublist_append_right [(b12, 3, [Value.int .i64 k]), (b11, 68, encZ last)] (mB encZ 68 63 bw RW []))
      have hO := hRW.outer hmB (Nat.le_refl n) (by omega)
      have hmap : (RW.map Rw.v).length = n := by rw [List.length_map, hRW.len]
      have hp : At _ ⟨b12, 0, none⟩ [.int .i64 k] := hS.at (k := 0) rfl 0 1
      have hO2 := hO.sub (fun _ => rfl) (by decide) (lo := k) (hi := (RW.map Rw.v).length) (by omega) (Nat.le_refl _)
      rw [List.take_of_length_le (by rw [List.length_drop]; exact Nat.le_refl _)] at hO2
      have hrows : ∀ i, i < n - k → Sl encZ 2 _ (((RW.map Rw.v).drop k).getD i undef) (tab (n + 1) (f (k + i))) := fun i hi => by
        have := hRW.sl hmB encZ_len (i := k + i) (by omega)
        have e : ((RW.map Rw.v).drop k).getD i undef = (RW.getD (k + i) zRw).v := by
          rw [List.getD_eq_getElem?_getD, List.getElem?_drop, mB_row (by rw [hRW.len]; omega)]; rfl
        rw [e]; exact this
      repeat (with_reducible first | refine c_seq ?_ | refine c_block ?_ | refine c_skip ?_ | refine x_then ?_ | refine x_block ?_)
      refine c_reg ?_
      refine l_pure rfl (s_move  h8 ?_)
      refine l_read rfl (s_ldo (k := 0)  rfl vi_3 hS rfl rfl rfl (.inr rfl) ?_)
      refine l_pure rfl (s_subrl  rfl rfl hO rfl (by omega) si_61 ?_)
      refine l_pure rfl (s_mkf1  rfl ?_)
      refine l_heavy rfl (s_call Tryz.call34 rfl (IndexZ_ok b12 k (n - k) (n + 1) _ _ (fun i j => f (k + i) j) _ hp hO2 (by rw [List.length_drop, hmap]) hrows (by omega)) ?_)
      rintro r w5 ⟨rfl, hB5⟩
      replace hS := hS.grow hB5
      have hpr := repMst hrep hkP (by omega : k < n + 1)
      obtain ⟨p, hpp⟩ : ∃ p, p = pv (rdc n Bm k).M k n k := ⟨_, rfl⟩
      have hps := pv_spec (rdc n Bm k).M k (n := n) (r := k) (by omega)
      rw [← hpp] at hps
      obtain ⟨hkp, _, _, _⟩ := hps
      have hfst : fstB (fun i => decide ((f (k + i) k).mag ≠ 0)) (n - k) 0 = if p < n then ((p - k : Nat) : Int) else -1 := by
        have hpf : pvF (rdc n Bm k).M k (n - k) k = p := hpp.symm
        have hcong : ∀ d i, i + d = n - k → fstB (fun i => decide ((f (k + i) k).mag ≠ 0)) d i = if pvF (rdc n Bm k).M k d (k + i) < k + i + d then ((pvF (rdc n Bm k).M k d (k + i) - k : Nat) : Int) else -1 := by
          intro d
          induction d with
          | zero =>
            intro i _
            show (-1 : Int) = if k + i < k + i + 0 then _ else -1
            rw [if_neg (by omega)]
          | succ d ih =>
            intro i hid
            have hi := hpr (k + i) (by omega)
            show (if decide ((f (k + i) k).mag ≠ 0) = true then (i : Int) else fstB _ d (i + 1)) = _
            unfold pvF
            by_cases e : (rdc n Bm k).M (k + i) k = 0
            · rw [if_neg (fun q => hi.1 (of_decide_eq_true q) e), if_pos e, ih (i + 1) (by omega)]
              rw [show k + (i + 1) = k + i + 1 by omega, show k + i + 1 + d = k + i + (d + 1) by omega]
            · rw [if_pos (decide_eq_true (hi.2 e)), if_neg e, if_pos (by omega), show k + i - k = i by omega]
        have := hcong (n - k) 0 (by omega)
        rw [Nat.add_zero, hpf, show k + (n - k) = n by omega] at this
        exact this
      rw [hfst]
      refine l_pure rfl (s_asg  rfl ?_)
      refine l_nil ?_
      repeat (with_reducible first | refine c_seq ?_ | refine c_block ?_ | refine c_skip ?_ | refine x_then ?_ | refine x_block ?_)
      refine c_reg ?_
      refine l_pure rfl (s_move  rfl ?_)
      refine l_pure rfl (s_lss  rfl rfl ?_)
      refine l_nil ?_
      repeat (with_reducible first | refine c_seq ?_ | refine c_block ?_ | refine c_skip ?_ | refine x_then ?_ | refine x_block ?_)
      by_cases hpn : ¬ p < n
      · rw [if_neg hpn]
        refine c_yes rfl (decide_eq_true (by decide)) ?_
        repeat (with_reducible first | refine c_seq ?_ | refine c_block ?_ | refine c_skip ?_ | refine x_then ?_ | refine x_block ?_)
        have hnf : (rdc n q n).P.length ≠ n := fun g => rdc_stuck hkn (by rw [← hpp]; exact hpn) ((hfi n).2 g)
        have e5 : slE A B = 5 := by rw [e1, if_neg hnf]
        repeat (with_reducible first | refine c_seq ?_ | refine c_block ?_ | refine c_skip ?_ | refine x_then ?_ | refine x_block ?_)
        refine c_reg ?_
        refine l_pure rfl (s_asg  rfl ?_)
        refine l_pure rfl (s_asg  rfl ?_)
        refine l_nil ?_
        repeat (with_reducible first | refine c_seq ?_ | refine c_block ?_ | refine c_skip ?_ | refine x_then ?_ | refine x_block ?_)
        refine c_ret ?_
        repeat (with_reducible first | refine x_then_ret ?_ | refine x_block_ret ?_)
        refine r_two rfl rfl rfl ?_
        refine ⟨⟨_, by rw [e5]; rfl, ?_⟩, hS.below⟩
        rw [hno (by rw [e5]; decide)]; exact Sl.nil _ _ _
      replace hpn := Decidable.not_not.1 hpn
      rw [if_pos hpn]
      refine c_no rfl (decide_eq_false (by omega)) ?_
      repeat (with_reducible first | refine c_seq ?_ | refine c_block ?_ | refine c_skip ?_ | refine x_then ?_ | refine x_block ?_)
      have hlp : p < RW.length := by rw [hRW.len]; exact hpn
      replace hS : St w _ ([(b12, 3, [Value.int .i64 k]), (b11, 68, encZ last)] ++ mB encZ 68 63 bw RW []) := hS
      refine c_cut1 (fun ρ w' => ρ 7 = .int .i64 n ∧ ρ 8 = .slice (some ⟨bw, 0, none⟩) n n ∧ ρ 11 = .pointer (some ⟨b11, 0, none⟩) ∧ ρ 12 = .pointer (some ⟨b12, 0, none⟩) ∧ ρ 56 = .int .i64 n ∧ ρ 57 = .int .i64 k ∧ St w w' ([(b12, 3, [Value.int .i64 k]), (b11, 68, encZ last)] ++ mB encZ 68 63 bw (swpL RW k p) [])) ?_ ?_
      · repeat (with_reducible first | refine c_seq ?_ | refine c_block ?_ | refine c_skip ?_ | refine x_then ?_ | refine x_block ?_)
        refine c_all 20 [(0, .pure), (1, .read), (2, .pure), (3, .grow), (4, .pure), (5, .pure), (6, .pure), (7, .read), (8, .pure), (9, .pure), (10, .pure), (11, .read), (12, .pure), (13, .read), (14, .pure), (15, .read), (16, .pure), (17, .free), (18, .pure), (19, .free)] (by kernel_rfl) (by kernel_rfl) hS ?_
        intro wz13 hS hBz13
        refine z_pure (i := 0) (U' := [(1, .read), (2, .pure), (3, .grow), (4, .pure), (5, .pure), (6, .pure), (7, .read), (8, .pure), (9, .pure), (10, .pure), (11, .read), (12, .pure), (13, .read), (14, .pure), (15, .read), (16, .pure), (17, .free), (18, .pure), (19, .free)]) (by kernel_rfl) (by kernel_rfl) rfl rfl (s_move  h8 ?_)
        refine z_read (i := 1) (U' := [(2, .pure), (3, .grow), (4, .pure), (5, .pure), (6, .pure), (7, .read), (8, .pure), (9, .pure), (10, .pure), (11, .read), (12, .pure), (13, .read), (14, .pure), (15, .read), (16, .pure), (17, .free), (18, .pure), (19, .free)]) (by kernel_rfl) (by kernel_rfl) rfl rfl (s_ldo (k := 0)  rfl vi_3 hS rfl rfl rfl (.inr rfl) ?_)
        refine z_pure (i := 2) (U' := [(3, .grow), (4, .pure), (5, .pure), (6, .pure), (7, .read), (8, .pure), (9, .pure), (10, .pure), (11, .read), (12, .pure), (13, .read), (14, .pure), (15, .read), (16, .pure), (17, .free), (18, .pure), (19, .free)]) (by kernel_rfl) (by kernel_rfl) rfl rfl (s_move  h8 ?_)
        refine z_pure (i := 4) (U' := [(3, .grow), (5, .pure), (6, .pure), (7, .read), (8, .pure), (9, .pure), (10, .pure), (11, .read), (12, .pure), (13, .read), (14, .pure), (15, .read), (16, .pure), (17, .free), (18, .pure), (19, .free)]) (by kernel_rfl) (by kernel_rfl) rfl rfl (s_move  rfl ?_)
        refine z_pure (i := 6) (U' := [(3, .grow), (5, .pure), (7, .read), (8, .pure), (9, .pure), (10, .pure), (11, .read), (12, .pure), (13, .read), (14, .pure), (15, .read), (16, .pure), (17, .free), (18, .pure), (19, .free)]) (by kernel_rfl) (by kernel_rfl) rfl rfl (s_move  h8 ?_)
        refine z_read (i := 7) (U' := [(3, .grow), (5, .pure), (8, .pure), (9, .pure), (10, .pure), (11, .read), (12, .pure), (13, .read), (14, .pure), (15, .read), (16, .pure), (17, .free), (18, .pure), (19, .free)]) (by kernel_rfl) (by kernel_rfl) rfl rfl (s_ldo (k := 0)  rfl vi_3 hS rfl rfl rfl (.inr rfl) ?_)
        refine z_pure (i := 8) (U' := [(3, .grow), (5, .pure), (9, .pure), (10, .pure), (11, .read), (12, .pure), (13, .read), (14, .pure), (15, .read), (16, .pure), (17, .free), (18, .pure), (19, .free)]) (by kernel_rfl) (by kernel_rfl) rfl rfl (s_move  rfl ?_)
        refine z_pure (i := 9) (U' := [(3, .grow), (5, .pure), (10, .pure), (11, .read), (12, .pure), (13, .read), (14, .pure), (15, .read), (16, .pure), (17, .free), (18, .pure), (19, .free)]) (by kernel_rfl) (by kernel_rfl) rfl rfl (s_add  rfl rfl (IntWalk.i64_in _ (by omega)) ?_)
        refine z_pure (i := 10) (U' := [(3, .grow), (5, .pure), (11, .read), (12, .pure), (13, .read), (14, .pure), (15, .read), (16, .pure), (17, .free), (18, .pure), (19, .free)]) (by kernel_rfl) (by kernel_rfl) rfl rfl (s_ixo (i := p)  rfl rfl (by omega) (by first | omega | (simp; done) | (simp; omega)) si_61 ?_)
        refine z_read (i := 11) (U' := [(3, .grow), (5, .pure), (12, .pure), (13, .read), (14, .pure), (15, .read), (16, .pure), (17, .free), (18, .pure), (19, .free)]) (by kernel_rfl) (by kernel_rfl) rfl rfl (s_mrowP [_, _]  rfl vi_63 hS (by omega) hlp ?_)
        refine z_pure (i := 12) (U' := [(3, .grow), (5, .pure), (13, .read), (14, .pure), (15, .read), (16, .pure), (17, .free), (18, .pure), (19, .free)]) (by kernel_rfl) (by kernel_rfl) rfl rfl (s_move  h8 ?_)
        refine z_read (i := 13) (U' := [(3, .grow), (5, .pure), (14, .pure), (15, .read), (16, .pure), (17, .free), (18, .pure), (19, .free)]) (by kernel_rfl) (by kernel_rfl) rfl rfl (s_ldo (k := 0)  rfl vi_3 hS rfl rfl rfl (.inr rfl) ?_)
        refine z_pure (i := 14) (U' := [(3, .grow), (5, .pure), (15, .read), (16, .pure), (17, .free), (18, .pure), (19, .free)]) (by kernel_rfl) (by kernel_rfl) rfl rfl (s_ixo (i := k)  rfl rfl (by omega) (by first | omega | (simp; done) | (simp; omega)) si_61 ?_)
        refine z_read (i := 15) (U' := [(3, .grow), (5, .pure), (16, .pure), (17, .free), (18, .pure), (19, .free)]) (by kernel_rfl) (by kernel_rfl) rfl rfl (s_mrowP [_, _]  rfl vi_63 hS (by omega) hlk ?_)
        refine z_pure (i := 16) (U' := [(3, .grow), (5, .pure), (17, .free), (18, .pure), (19, .free)]) (by kernel_rfl) (by kernel_rfl) rfl rfl (s_ixo (i := k)  rfl rfl (by omega) (by first | omega | (simp; done) | (simp; omega)) si_61 ?_)
        refine z_two (x := (3, .grow)) (y := (17, .free)) (U' := [(5, .pure), (17, .free), (18, .pure), (19, .free)]) (U'' := [(3, .grow), (5, .pure), (18, .pure), (19, .free)]) (by kernel_rfl) (by kernel_rfl) (by kernel_rfl) ?_ ?_
        · refine z_grow rfl rfl (hup_read (s_ldo (k := 0)  rfl vi_3 hS rfl rfl rfl (.inr rfl) ?_))
          refine ⟨Below.refl _ _, ?_⟩
          refine z_pure (i := 5) (U' := [(17, .free), (18, .pure), (19, .free)]) (by kernel_rfl) (by kernel_rfl) rfl rfl (s_add  rfl rfl (IntWalk.i64_in _ (by omega)) ?_)
          refine z_one (x := (17, .free)) (U' := [(18, .pure), (19, .free)]) (by kernel_rfl) (by kernel_rfl) ?_
          refine z_free rfl rfl (s_mrowstP [_, _] (i := k)  rfl rfl vi_63 hS (by omega) (by rw [List.length_map]; exact hlk) (Rw_one _) ?_)
          intro wz14 hS
          refine z_pure (i := 18) (U' := [(19, .free)]) (by kernel_rfl) (by kernel_rfl) rfl rfl (s_ixo (i := p)  rfl rfl (by omega) (by first | omega | (simp; done) | (simp; omega)) si_61 ?_)
          refine z_one (x := (19, .free)) (U' := []) (by kernel_rfl) (by kernel_rfl) ?_
          refine z_free rfl rfl (s_mrowstP [_, _] (i := p)  rfl rfl vi_63 hS (by omega) (by rw [List.length_set, List.length_map]; exact hlp) (Rw_one _) ?_)
          intro wz15 hS
          refine z_end ?_
          repeat (with_reducible first | refine c_seq ?_ | refine c_block ?_ | refine c_skip ?_ | refine x_then ?_ | refine x_block ?_)
          exact ⟨_, rfl, by assumption, by assumption, by assumption, rfl, by assumption, by assumption, mB_swpP [_, _] hlk hlp hS⟩
        · refine z_free rfl rfl (s_mrowstP [_, _] (i := k)  rfl rfl vi_63 hS (by omega) (by rw [List.length_map]; exact hlk) (Rw_one _) ?_)
          intro wz16 hS
          refine z_one (x := (3, .grow)) (U' := [(5, .pure), (18, .pure), (19, .free)]) (by kernel_rfl) (by kernel_rfl) ?_
          refine z_grow rfl rfl (hup_read (s_ldo (k := 0)  rfl vi_3 hS rfl rfl rfl (.inr rfl) ?_))
          refine ⟨Below.refl _ _, ?_⟩
          refine z_pure (i := 5) (U' := [(18, .pure), (19, .free)]) (by kernel_rfl) (by kernel_rfl) rfl rfl (s_add  rfl rfl (IntWalk.i64_in _ (by omega)) ?_)
          refine z_pure (i := 18) (U' := [(19, .free)]) (by kernel_rfl) (by kernel_rfl) rfl rfl (s_ixo (i := p)  rfl rfl (by omega) (by first | omega | (simp; done) | (simp; omega)) si_61 ?_)
          refine z_one (x := (19, .free)) (U' := []) (by kernel_rfl) (by kernel_rfl) ?_
          refine z_free rfl rfl (s_mrowstP [_, _] (i := p)  rfl rfl vi_63 hS (by omega) (by rw [List.length_set, List.length_map]; exact hlp) (Rw_one _) ?_)
          intro wz17 hS
          refine z_end ?_
          repeat (with_reducible first | refine c_seq ?_ | refine c_block ?_ | refine c_skip ?_ | refine x_then ?_ | refine x_block ?_)
          exact ⟨_, rfl, by assumption, by assumption, by assumption, rfl, by assumption, by assumption, mB_swpP [_, _] hlk hlp hS⟩
      clear hS
      rintro ρ wsw ⟨h7, h8, h11, h12, h56, h57, hS⟩
      repeat (with_reducible first | refine c_seq ?_ | refine c_block ?_ | refine c_skip ?_ | refine x_then ?_ | refine x_block ?_)
      have hR2 : MatG (swpL RW k p) n (n + 1) (swpG f k p) := hRW.swp hkn hpn
      have hsz2 := swpG_size hkn hpn hsz
      have hl0 : last.mag ≠ 0 := fun g => dd_ne k hkP (by rw [← hlv, zv_ne.2 g]; rfl)
      have hrs := rep_step hWh hrep hkP (by omega) (by rw [← hpp]; exact hpn) hlv
      rw [← hpp, ← zv_swp] at hrs
      have hnx := (rdc_next hkP (by rw [← hpp]; exact hpn)).1
      have hel := fun wx h => leliminate_ok (H := [(b12, 3, [Value.int .i64 k]), (b11, 68, encZ last)] ++ []) (w0 := w) (bo := bw) k last (SS S0 k) wx hR2 (by omega) (by omega) hkn (by omega) hsz2 hlz hl0 (by omega) h
      repeat (with_reducible first | refine c_seq ?_ | refine c_block ?_ | refine c_skip ?_ | refine x_then ?_ | refine x_block ?_)
      refine c_reg ?_
      refine l_pure rfl (s_move  h8 ?_)
      refine l_read rfl (s_ldo (k := 0)  h12 vi_3 hS rfl rfl rfl (.inr rfl) ?_)
      refine l_read rfl (s_ldo (k := 1)  h11 vi_68 hS rfl rfl rfl (.inl rfl) ?_)
      refine l_heavy rfl (s_call Tryz.call36 rfl (hel _ (hS.perm (mB_pull _ _))) ?_)
      rintro u w6 ⟨rfl, R', hR', hS'⟩
      clear hS
      have hS := hS'.perm (mB_pull _ _).symm
      clear hS'
      have hlk' : k < R'.length := by rw [hR'.len]; exact hkn
      have hxk' := hR'.xlen hkn
      have hgk' : (R'.getD k zRw).X.getD k zZZ = zStep (swpG f k p) k last k k := hR'.get hkn (by omega) _
      have hsz3 := zStep_size hsz2 last hkn (by omega : k < n + 1)
      refine l_nil ?_
      repeat (with_reducible first | refine c_seq ?_ | refine c_block ?_ | refine c_skip ?_ | refine x_then ?_ | refine x_block ?_)
      refine c_draw [(0, .pure), (1, .read), (2, .pure), (3, .read), (4, .read), (5, .pure), (6, .read), (7, .free)] (by kernel_rfl) (by kernel_rfl) hS ?_
      intro wz18 hS hBz18
      refine w_pure rfl rfl (s_move  h8 ?_)
      refine w_read rfl rfl (s_ldo (k := 0)  h12 vi_3 hS rfl rfl rfl (.inr rfl) ?_)
      refine w_pure rfl rfl (s_ixo (i := k)  rfl rfl (by omega) (by first | omega | (simp; done) | (simp; omega)) si_61 ?_)
      refine w_read rfl rfl (s_mrowP [_, _]  rfl vi_63 hS (by omega) hlk' ?_)
      refine w_read rfl rfl (s_ldo (k := 0)  h12 vi_3 hS rfl rfl rfl (.inr rfl) ?_)
      refine w_pure rfl rfl (s_ixo (i := k)  rfl rfl (by omega) (by first | omega | (simp; done) | (simp; omega)) si_63 ?_)
      refine w_read rfl rfl (s_mldP [_, _] (i := k) (j := k) zZZ encZ_len  rfl vi_68 hS rfl hlk' (by omega) (by omega) (congrArg _ (congrArg _ hgk')) (.inl rfl) ?_)
      refine w_free rfl rfl (s_sta (k := 1)  h11 rfl vi_68 hS rfl rfl rfl (Nat.le_of_ble_eq_true rfl) rfl ?_)
      intro wz19 hS
      refine w_end ?_
      repeat (with_reducible first | refine c_seq ?_ | refine c_block ?_ | refine c_skip ?_ | refine x_then ?_ | refine x_block ?_)
      replace hS : St w _ ([(b12, 3, [Value.int .i64 k]), (b11, 68, encZ (zStep (swpG f k p) k last k k))] ++ mB encZ 68 63 bw R' []) := hS
      repeat (with_reducible first | refine c_seq ?_ | refine c_block ?_ | refine c_skip ?_ | refine x_then ?_ | refine x_block ?_)
      refine c_reg ?_
      refine l_pure rfl (s_add  h57 rfl (IntWalk.i64_in _ (by omega)) ?_)
      refine l_pure rfl (s_move  rfl ?_)
      refine l_nil ?_
      repeat (with_reducible first | refine c_seq ?_ | refine c_block ?_ | refine c_skip ?_ | refine x_then ?_ | refine x_block ?_)
      refine ⟨k + 1, _, rfl, ⟨hkn, hnx, by assumption, by assumption, by assumption, by assumption, vi rfl (by omega), R', _, _, hR', ?_, hsz3, ?_, hsz3 k hkn k (by omega), hS.drop (List.sublist_cons_self _ _)⟩, by omega⟩
      · intro i hi j hj
        show ((zv (zStep (swpG f k p) k last i j) : Int) : Rat) = _
        rw [zv_step]; exact hrs.1 i hi j hj
      · rw [zv_step]; exact hrs.2
    · refine c_no rfl (decide_eq_false (by omega)) ?_
      repeat (with_reducible first | refine c_seq ?_ | refine c_block ?_ | refine c_skip ?_ | refine x_then ?_ | refine x_block ?_)
      refine c_exit ?_
      repeat (with_reducible first | refine x_then_exit ?_ | refine x_block_exit ?_ | refine x_block_pass rfl ?_)
      repeat (with_reducible first | refine c_seq ?_ | refine c_block ?_ | refine c_skip ?_ | refine x_then ?_ | refine x_block ?_)
      obtain rfl : n = k := by omega
      exact ⟨_, rfl, hkP, h7, h8, RW, f, hRW, hrep, hsz, hS.drop (List.sublist_cons_self _ _)⟩
  clear hS hRW
  rintro ρ w4 ⟨hfull, h7, h8, RW, f, hRW, hrep, hsz, hS⟩
  have hqf := (hfi n).1 hfull
  have hIn := rinv n Bm n
  have hdn := dd_ne n hfull
  have hSn := hSS n (Nat.le_refl _)
  have e0 : slE A B = 0 := by rw [e1, if_pos hqf]
  rw [hslL e0, e0]
  have hval : ∀ i, i < n → (f i i).mag ≠ 0 ∧ ((zv (f i n) : Int) : Rat) / ((zv (f i i) : Int) : Rat) = (rdc n q n).M i n := by
    intro i hi
    have g1 : ((zv (f i i) : Int) : Rat) = dd n Bm n * (rdc n Bm n).M i i := hrep i hi i (by omega)
    have g2 : ((zv (f i n) : Int) : Rat) = dd n Bm n * (rdc n Bm n).M i n := hrep i hi n (by omega)
    rw [full_unit hIn hfull hi hi, dlt_self, Rat.mul_one] at g1
    rw [hfs hqf i hi n] at g2
    refine ⟨fun g => hdn (by rw [← g1, zv_ne.2 g]; rfl), ?_⟩
    rw [g1, g2, Rat.div_def]
    have := Rat.mul_inv_cancel _ hdn
    grind
  obtain ⟨gM, hgM⟩ : ∃ gM : Nat → Rat, gM = fun i => (rdc n q n).M i n := ⟨_, rfl⟩
  rw [show (tab n fun i => ofQ ((rdc n q n).M i n)) = tab n fun i => ofQ (gM i) by rw [hgM]]
  replace hval : ∀ i, i < n → (f i i).mag ≠ 0 ∧ ((zv (f i n) : Int) : Rat) / ((zv (f i i) : Int) : Rat) = gM i := by rw [hgM]; exact hval
  repeat (with_reducible first | refine c_seq ?_ | refine c_block ?_ | refine c_skip ?_ | refine x_then ?_ | refine x_block ?_)
  refine c_reg ?_
  refine l_pure rfl (s_move  h7 ?_)
  refine l_heavy rfl (s_makeE (enc := encR) (n := n) zRR  rfl rfl si_23 rfl (by omega) (by omega) (by omega) (by omega) hS ?_)
  intro b98 wz20 hS hBz20
  refine l_pure rfl (s_asg  rfl ?_)
  refine l_nil ?_
  repeat (with_reducible first | refine c_seq ?_ | refine c_block ?_ | refine c_skip ?_ | refine x_then ?_ | refine x_block ?_)
  replace hS : St w _ ([(b98, 49, (List.replicate n zRR).flatMap encR)] ++ mB encZ 68 63 bw RW []) := hS
  rw [oF_zero gM] at hS
  repeat (with_reducible first | refine c_seq ?_ | refine c_block ?_ | refine c_skip ?_ | refine x_then ?_ | refine x_block ?_)
  refine c_reg ?_
  refine l_pure rfl (s_move  h8 ?_)
  refine l_pure rfl (s_leno  rfl ⟨_, Tryz.underlying61⟩ ?_)
  refine l_pure rfl (s_move  rfl ?_)
  refine l_nil ?_
  repeat (with_reducible first | refine c_seq ?_ | refine c_skip ?_ | refine x_then ?_ | refine x_block ?_)
  refine c_cut1 (fun ρ w' => ρ 14 = .slice (some ⟨b98, 0, none⟩) n n ∧ St w w' ([(b98, 49, (tab n fun a => ofQ (oF gM n a)).flatMap encR)] ++ mB encZ 68 63 bw RW [])) ?_ ?_
  · repeat (with_reducible first | refine c_seq ?_ | refine c_block ?_ | refine c_skip ?_ | refine x_then ?_ | refine x_block ?_)
    refine c_loop (σ := Nat) (fun i ρ w' => i ≤ n ∧ ρ 7 = .int .i64 n ∧ ρ 14 = .slice (some ⟨b98, 0, none⟩) n n ∧ ρ 99 = .slice (some ⟨bw, 0, none⟩) n n ∧ ρ 100 = .int .i64 n ∧ ρ 101 = .int .i64 i ∧ St w w' ([(b98, 49, (tab n fun a => ofQ (oF gM i a)).flatMap encR)] ++ mB encZ 68 63 bw RW [])) (fun i => n - i) 0
      ⟨Nat.zero_le _, by assumption, rfl, rfl, rfl, rfl, hS⟩ ?_
    clear hS
    rintro i ρ w5 ⟨hi, h7, h14, h99, h100, h101, hS⟩
    have hto := tab_len n fun a => ofQ (oF gM i a)
    repeat (with_reducible first | refine c_seq ?_ | refine c_block ?_ | refine c_skip ?_ | refine x_then ?_ | refine x_block ?_)
    refine c_reg ?_
    refine l_pure rfl (s_lss  h101 h100 ?_)
    refine l_nil ?_
    repeat (with_reducible first | refine c_seq ?_ | refine c_block ?_ | refine c_skip ?_ | refine x_then ?_ | refine x_block ?_)
    by_cases hlt : i < n
    · refine c_yes rfl (decide_eq_true (by omega)) ?_
      repeat (with_reducible first | refine c_seq ?_ | refine c_block ?_ | refine c_skip ?_ | refine x_then ?_ | refine x_block ?_)
      have hli : i < RW.length := by rw [hRW.len]; exact hlt
      have htr := tab_len (n + 1) (f i)
      have hgn : (tab (n + 1) (f i)).getD n zZZ = f i n := tab_get _ _ (by omega)
      have hgi : (tab (n + 1) (f i)).getD i zZZ = f i i := tab_get _ _ (by omega)
      have q1 := hsz i hlt n (by omega)
      have q2 := hsz i hlt i (by omega)
      unfold zSz at q1 q2
      obtain ⟨hm0, hqv⟩ := hval i hlt
      have hmk := fun w => QMake_ok ((f i n).neg != (f i i).neg) (natS (f i n).mag) (natS (f i i).mag) w (by omega) (by omega) (by rw [val_natS]; exact hm0)
      rw [val_natS, val_natS, mk_quot hm0] at hmk
      have hmk2 : ((sg (f i n).neg (f i n).mag : Int) : Rat) / ((sg (f i i).neg (f i i).mag : Int) : Rat) = gM i := hqv
      rw [hmk2] at hmk
      repeat (with_reducible first | refine c_seq ?_ | refine c_block ?_ | refine c_skip ?_ | refine x_then ?_ | refine x_block ?_)
      refine c_reg ?_
      refine l_pure rfl (s_move  h101 ?_)
      refine l_pure rfl (s_ixo (i := i)  h99 h101 (by omega) (by first | omega | (simp; done) | (simp; omega)) si_61 ?_)
      refine l_read rfl (s_mrowP [_]  rfl vi_63 hS (by omega) hli ?_)
      refine l_pure rfl (s_asg  rfl ?_)
      refine l_pure rfl (s_asg  rfl ?_)
      refine l_nil ?_
      repeat (with_reducible first | refine c_seq ?_ | refine c_block ?_ | refine c_skip ?_ | refine x_then ?_ | refine x_block ?_)
      have hrow := hRW.sl (hS.drop (List.sublist_cons_self _ _)) encZ_len hlt
      repeat (with_reducible first | refine c_seq ?_ | refine c_block ?_ | refine c_skip ?_ | refine x_then ?_ | refine x_block ?_)
      refine c_draw [(0, .pure), (1, .pure), (2, .pure), (3, .pure), (4, .pure), (5, .pure), (6, .read), (7, .pure), (8, .pure), (9, .pure), (10, .pure), (11, .read), (12, .pure), (13, .pure), (14, .pure), (15, .pure), (16, .pure), (17, .read), (18, .pure), (19, .pure), (20, .pure), (21, .pure), (22, .read), (23, .grow), (24, .pure), (25, .pure), (26, .pure), (27, .pure), (28, .free)] (by kernel_rfl) (by kernel_rfl) hS ?_
      intro wz21 hS hBz21
      refine w_pure rfl rfl (s_move  h14 ?_)
      refine w_pure rfl rfl (s_move  rfl ?_)
      refine w_pure rfl rfl (s_move  rfl ?_)
      refine w_pure rfl rfl (s_move  h7 ?_)
      refine w_pure rfl rfl (s_ixr (i := n)  rfl rfl (hRW.sl (hS.drop (List.sublist_cons_self _ _)) encZ_len hlt) (by omega) (by first | omega | (simp; done) | (simp; omega)) si_63 ?_)
      refine w_pure rfl rfl (s_fldr  rfl (spot_el (hRW.sl (hS.drop (List.sublist_cons_self _ _)) encZ_len hlt) (fun _ => rfl) (by decide) (by first | omega | (simp; done) | (simp; omega))) fo_68_0 ?_)
      refine w_read rfl rfl (s_ldfe (i := n) (off := 0) zZZ  rfl vi_4 (hRW.sl (hS.drop (List.sublist_cons_self _ _)) encZ_len hlt) (fun _ => rfl) (by decide) (by first | omega | (simp; done) | (simp; omega)) rfl rfl (.inr rfl) ?_)
      refine w_pure rfl rfl (s_move  rfl ?_)
      refine w_pure rfl rfl (s_move  rfl ?_)
      refine w_pure rfl rfl (s_ixr (i := i)  rfl rfl (hRW.sl (hS.drop (List.sublist_cons_self _ _)) encZ_len hlt) (by omega) (by first | omega | (simp; done) | (simp; omega)) si_63 ?_)
      refine w_pure rfl rfl (s_fldr  rfl (spot_el (hRW.sl (hS.drop (List.sublist_cons_self _ _)) encZ_len hlt) (fun _ => rfl) (by decide) (by first | omega | (simp; done) | (simp; omega))) fo_68_0 ?_)
      refine w_read rfl rfl (s_ldfe (i := i) (off := 0) zZZ  rfl vi_4 (hRW.sl (hS.drop (List.sublist_cons_self _ _)) encZ_len hlt) (fun _ => rfl) (by decide) (by first | omega | (simp; done) | (simp; omega)) rfl rfl (.inr rfl) ?_)
      refine w_pure rfl rfl (s_neb  rfl rfl Tryz.underlying4 ?_)
      refine w_pure rfl rfl (s_move  rfl ?_)
      refine w_pure rfl rfl (s_move  h7 ?_)
      refine w_pure rfl rfl (s_ixr (i := n)  rfl rfl (hRW.sl (hS.drop (List.sublist_cons_self _ _)) encZ_len hlt) (by omega) (by first | omega | (simp; done) | (simp; omega)) si_63 ?_)
      refine w_pure rfl rfl (s_fldr  rfl (spot_el (hRW.sl (hS.drop (List.sublist_cons_self _ _)) encZ_len hlt) (fun _ => rfl) (by decide) (by first | omega | (simp; done) | (simp; omega))) fo_68_1 ?_)
      refine w_read rfl rfl (s_ldfe (i := n) (off := 1) zZZ  rfl vi_9 (hRW.sl (hS.drop (List.sublist_cons_self _ _)) encZ_len hlt) (fun _ => rfl) (by decide) (by first | omega | (simp; done) | (simp; omega)) rfl rfl (.inr rfl) ?_)
      refine w_pure rfl rfl (s_move  rfl ?_)
      refine w_pure rfl rfl (s_move  rfl ?_)
      refine w_pure rfl rfl (s_ixr (i := i)  rfl rfl (hRW.sl (hS.drop (List.sublist_cons_self _ _)) encZ_len hlt) (by omega) (by first | omega | (simp; done) | (simp; omega)) si_63 ?_)
      refine w_pure rfl rfl (s_fldr  rfl (spot_el (hRW.sl (hS.drop (List.sublist_cons_self _ _)) encZ_len hlt) (fun _ => rfl) (by decide) (by first | omega | (simp; done) | (simp; omega))) fo_68_1 ?_)
      refine w_read rfl rfl (s_ldfe (i := i) (off := 1) zZZ  rfl vi_9 (hRW.sl (hS.drop (List.sublist_cons_self _ _)) encZ_len hlt) (fun _ => rfl) (by decide) (by first | omega | (simp; done) | (simp; omega)) rfl rfl (.inr rfl) ?_)
      rw [hgn, hgi]
      refine w_grow rfl rfl (s_call Tryz.call37 rfl (hmk _) ?_)
      rintro _ wc22 ⟨rfl, hBc22⟩
      replace hS := hS.grow hBc22
      refine ⟨hBc22, ?_⟩
      refine w_pure rfl rfl (s_move  rfl ?_)
      refine w_pure rfl rfl (s_ext  rfl rfl ?_)
      refine w_pure rfl rfl (s_ext  rfl rfl ?_)
      refine w_pure rfl rfl (s_ixo (i := i)  rfl rfl (by omega) (by first | omega | (simp; done) | (simp; omega)) si_23 ?_)
      refine w_free rfl rfl (s_stE (k := 0) (i := i) (enc := encR) (ofQ (gM i)) (fun _ => rfl)  rfl rfl vi_49 hS rfl (by first | omega | simp) (by first | omega | (simp; done) | (simp; omega)) rfl rfl ?_)
      intro wz23 hS
      refine w_end ?_
      repeat (with_reducible first | refine c_seq ?_ | refine c_block ?_ | refine c_skip ?_ | refine x_then ?_ | refine x_block ?_)
      replace hS : St w _ ([(b98, 49, ((tab n fun a => ofQ (oF gM i a)).set i (ofQ (gM i))).flatMap encR)] ++ mB encZ 68 63 bw RW []) := hS
      rw [oF_set] at hS
      repeat (with_reducible first | refine c_seq ?_ | refine c_block ?_ | refine c_skip ?_ | refine x_then ?_ | refine x_block ?_)
      refine c_reg ?_
      refine l_pure rfl (s_add  h101 rfl (IntWalk.i64_in _ (by omega)) ?_)
      refine l_pure rfl (s_move  rfl ?_)
      refine l_nil ?_
      repeat (with_reducible first | refine c_seq ?_ | refine c_block ?_ | refine c_skip ?_ | refine x_then ?_ | refine x_block ?_)
      exact ⟨i + 1, _, rfl, ⟨hlt, by assumption, by assumption, by assumption, by assumption, vi rfl (by omega), hS⟩, by omega⟩
    · refine c_no rfl (decide_eq_false (by omega)) ?_
      repeat (with_reducible first | refine c_seq ?_ | refine c_block ?_ | refine c_skip ?_ | refine x_then ?_ | refine x_block ?_)
      refine c_exit ?_
      repeat (with_reducible first | refine x_then_exit ?_ | refine x_block_exit ?_ | refine x_block_pass rfl ?_)
      repeat (with_reducible first | refine c_seq ?_ | refine c_block ?_ | refine c_skip ?_ | refine x_then ?_ | refine x_block ?_)
      obtain rfl : n = i := by omega
      exact ⟨_, rfl, h14, hS⟩
  clear hS
  rintro ρ w5 ⟨h14, hS⟩
  have e3 : (tab n fun a => ofQ (oF gM n a)) = tab n fun i => ofQ (gM i) := tab_congr fun a ha => by unfold oF; rw [if_pos ha]
  rw [e3] at hS
  repeat (with_reducible first | refine c_seq ?_ | refine c_block ?_ | refine c_skip ?_ | refine x_then ?_ | refine x_block ?_)
  refine c_reg ?_
  refine l_pure rfl (s_move  h14 ?_)
  refine l_pure rfl (s_asg  rfl ?_)
  refine l_pure rfl (s_asg  rfl ?_)
  refine l_nil ?_
  repeat (with_reducible first | refine c_seq ?_ | refine c_block ?_ | refine c_skip ?_ | refine x_then ?_ | refine x_block ?_)
  have hTT := hS.sle (k := 0) (n := n) (cap := n) rfl encR_len (by rw [tab_len]; omega) (by omega) (by omega)
  rw [List.take_of_length_le (by rw [tab_len]; omega)] at hTT
  refine c_ret ?_
  repeat (with_reducible first | refine x_then_ret ?_ | refine x_block_ret ?_)
  refine r_two rfl rfl rfl ?_
  exact ⟨⟨_, rfl, hTT⟩, hS.below⟩
end Go.Proofs.YtblfipdfklpmmaaGreatDoor
namespace Go.Proofs.YtblfipdfklpmmaaGreatDoor
open Go Go.RowKit Go.Sx
set_option maxHeartbeats 1000000 in
theorem rTimes_ok (p q : Rat) (w : World) (hL : L p + L q ≤ MX) :
    Ret Tryz.prog 50 #[aggR (ofQ p), aggR (ofQ q)] w fun v w' => v = aggR (ofQ (p * q)) ∧ Below w.heap.size w w' := by
  have hM : MX = 1099511627776 := rfl
  have hn1 := L_num p
  have hn2 := L_num q
  have hd1 := L_den p
  have hd2 := L_den q
  have hm1 := natS_size_mul p.num.natAbs q.num.natAbs
  have hm2 := natS_size_mul p.den q.den
  have l1 := limb_len_le_size p.num.natAbs
  have l2 := limb_len_le_size q.num.natAbs
  have l3 := limb_len_le_size p.den
  have l4 := limb_len_le_size q.den
  have l5 := limb_len_le_size (p.num.natAbs * q.num.natAbs)
  have l6 := limb_len_le_size (p.den * q.den)
  have hlp := fun w => rlimbs_ok (natS p.num.natAbs) w (by omega)
  have hlq := fun w => rlimbs_ok (natS q.num.natAbs) w (by omega)
  rw [val_natS] at hlp hlq
  have hS := St.init w
  refine enter Tryz.func50 rfl Tryz.ntmps50 rfl ?_
  repeat (with_reducible first | refine c_seq ?_ | refine c_block ?_ | refine c_skip ?_ | refine x_then ?_ | refine x_block ?_)
  refine c_reg ?_
  refine l_heavy rfl (s_box (new := encR (ofQ p))  rfl rfl hS ?_)
  intro b1 wz2 hS hBz2
  refine l_heavy rfl (s_box (new := encR (ofQ q))  rfl rfl hS ?_)
  intro b3 wz4 hS hBz4
  refine l_heavy rfl (s_alloc  vi_49 hS ?_)
  intro b5 wz6 hS hBz6
  refine l_nil ?_
  repeat (with_reducible first | refine c_seq ?_ | refine c_block ?_ | refine c_skip ?_ | refine x_then ?_ | refine x_block ?_)
  by_cases hp0 : p = 0
  · repeat (with_reducible first | refine c_seq ?_ | refine c_block ?_ | refine c_skip ?_ | refine x_then ?_ | refine x_block ?_)
    refine c_reg ?_
    refine l_pure rfl (s_fld  rfl fo_49_1 ?_)
    refine l_read rfl (s_ldo (k := 2)  rfl vi_9 hS rfl rfl rfl (.inr rfl) ?_)
    refine l_pure rfl (s_eqs  rfl rfl ?_)
    refine l_pure rfl (s_move  rfl ?_)
    refine l_no (gno_yes 8 (by kernel_rfl) rfl (decide_eq_true (ofQ_num_nil.2 hp0))) ?_
    refine l_no (gno_yes 8 (by kernel_rfl) rfl (decide_eq_true (ofQ_num_nil.2 hp0))) ?_
    refine l_no (gno_yes 8 (by kernel_rfl) rfl (decide_eq_true (ofQ_num_nil.2 hp0))) ?_
    refine l_pure rfl (s_pick (vb rfl (decide_eq_true (ofQ_num_nil.2 hp0))) rfl ?_)
    refine l_nil ?_
    repeat (with_reducible first | refine c_seq ?_ | refine c_block ?_ | refine c_skip ?_ | refine x_then ?_ | refine x_block ?_)
    refine c_yes rfl (rfl) ?_
    repeat (with_reducible first | refine c_seq ?_ | refine c_block ?_ | refine c_skip ?_ | refine x_then ?_ | refine x_block ?_)
    refine c_reg ?_
    refine l_pure rfl (s_build  rfl bz_49 ?_)
    refine l_heavy rfl (s_sta (k := 0)  rfl rfl vi_49 hS rfl rfl rfl (Nat.le_of_ble_eq_true rfl) rfl ?_)
    intro wz7 hS
    refine l_nil ?_
    repeat (with_reducible first | refine c_seq ?_ | refine c_block ?_ | refine c_skip ?_ | refine x_then ?_ | refine x_block ?_)
    refine c_ret ?_
    repeat (with_reducible first | refine x_then_ret ?_ | refine x_block_ret ?_)
    refine r_cell (k := 0) rfl rfl vi_49 hS rfl rfl ?_
    rw [hp0, Rat.zero_mul, ofQ_zero]
    exact ⟨rfl, hS.below⟩
  · by_cases hq0 : q = 0
    · repeat (with_reducible first | refine c_seq ?_ | refine c_block ?_ | refine c_skip ?_ | refine x_then ?_ | refine x_block ?_)
      refine c_reg ?_
      refine l_pure rfl (s_fld  rfl fo_49_1 ?_)
      refine l_read rfl (s_ldo (k := 2)  rfl vi_9 hS rfl rfl rfl (.inr rfl) ?_)
      refine l_pure rfl (s_eqs  rfl rfl ?_)
      refine l_pure rfl (s_move  rfl ?_)
      refine l_pure (gd_yes 8 (by kernel_rfl) rfl (decide_eq_false (fun g => hp0 (ofQ_num_nil.1 g)))) (s_fld  rfl fo_49_1 ?_)
      refine l_read (gd_yes 8 (by kernel_rfl) rfl (decide_eq_false (fun g => hp0 (ofQ_num_nil.1 g)))) (s_ldo (k := 1)  rfl vi_9 hS rfl rfl rfl (.inr rfl) ?_)
      refine l_pure (gd_yes 8 (by kernel_rfl) rfl (decide_eq_false (fun g => hp0 (ofQ_num_nil.1 g)))) (s_eqs  rfl rfl ?_)
      refine l_pure rfl (s_pick (vb rfl (decide_eq_false (fun g => hp0 (ofQ_num_nil.1 g)))) rfl ?_)
      refine l_nil ?_
      repeat (with_reducible first | refine c_seq ?_ | refine c_block ?_ | refine c_skip ?_ | refine x_then ?_ | refine x_block ?_)
      refine c_yes rfl (decide_eq_true (ofQ_num_nil.2 hq0)) ?_
      repeat (with_reducible first | refine c_seq ?_ | refine c_block ?_ | refine c_skip ?_ | refine x_then ?_ | refine x_block ?_)
      refine c_reg ?_
      refine l_pure rfl (s_build  rfl bz_49 ?_)
      refine l_heavy rfl (s_sta (k := 0)  rfl rfl vi_49 hS rfl rfl rfl (Nat.le_of_ble_eq_true rfl) rfl ?_)
      intro wz8 hS
      refine l_nil ?_
      repeat (with_reducible first | refine c_seq ?_ | refine c_block ?_ | refine c_skip ?_ | refine x_then ?_ | refine x_block ?_)
      refine c_ret ?_
      repeat (with_reducible first | refine x_then_ret ?_ | refine x_block_ret ?_)
      refine r_cell (k := 0) rfl rfl vi_49 hS rfl rfl ?_
      rw [hq0, Rat.mul_zero, ofQ_zero]
      exact ⟨rfl, hS.below⟩
    · repeat (with_reducible first | refine c_seq ?_ | refine c_block ?_ | refine c_skip ?_ | refine x_then ?_ | refine x_block ?_)
      refine c_reg ?_
      refine l_pure rfl (s_fld  rfl fo_49_1 ?_)
      refine l_read rfl (s_ldo (k := 2)  rfl vi_9 hS rfl rfl rfl (.inr rfl) ?_)
      refine l_pure rfl (s_eqs  rfl rfl ?_)
      refine l_pure rfl (s_move  rfl ?_)
      refine l_pure (gd_yes 8 (by kernel_rfl) rfl (decide_eq_false (fun g => hp0 (ofQ_num_nil.1 g)))) (s_fld  rfl fo_49_1 ?_)
      refine l_read (gd_yes 8 (by kernel_rfl) rfl (decide_eq_false (fun g => hp0 (ofQ_num_nil.1 g)))) (s_ldo (k := 1)  rfl vi_9 hS rfl rfl rfl (.inr rfl) ?_)
      refine l_pure (gd_yes 8 (by kernel_rfl) rfl (decide_eq_false (fun g => hp0 (ofQ_num_nil.1 g)))) (s_eqs  rfl rfl ?_)
      refine l_pure rfl (s_pick (vb rfl (decide_eq_false (fun g => hp0 (ofQ_num_nil.1 g)))) rfl ?_)
      refine l_nil ?_
      repeat (with_reducible first | refine c_seq ?_ | refine c_block ?_ | refine c_skip ?_ | refine x_then ?_ | refine x_block ?_)
      refine c_no rfl (decide_eq_false (fun g => hq0 (ofQ_num_nil.1 g))) ?_
      repeat (with_reducible first | refine c_seq ?_ | refine c_block ?_ | refine c_skip ?_ | refine x_then ?_ | refine x_block ?_)
      refine c_draw [(0, .pure), (1, .read), (2, .pure), (3, .read), (4, .pure), (5, .pure), (6, .read), (8, .pure), (9, .read), (12, .read), (14, .read), (7, .grow), (10, .grow), (11, .grow), (13, .grow), (15, .grow), (16, .grow), (17, .grow), (18, .free)] (by kernel_rfl) (by kernel_rfl) hS ?_
      intro wz9 hS hBz9
      refine w_pure rfl rfl (s_fld  rfl fo_49_0 ?_)
      refine w_read rfl rfl (s_ldo (k := 2)  rfl vi_4 hS rfl rfl rfl (.inr rfl) ?_)
      refine w_pure rfl rfl (s_fld  rfl fo_49_0 ?_)
      refine w_read rfl rfl (s_ldo (k := 1)  rfl vi_4 hS rfl rfl rfl (.inr rfl) ?_)
      refine w_pure rfl rfl (s_neb  rfl rfl Tryz.underlying4 ?_)
      refine w_pure rfl rfl (s_fld  rfl fo_49_1 ?_)
      refine w_read rfl rfl (s_ldo (k := 2)  rfl vi_9 hS rfl rfl rfl (.inr rfl) ?_)
      refine w_pure rfl rfl (s_fld  rfl fo_49_1 ?_)
      refine w_read rfl rfl (s_ldo (k := 1)  rfl vi_9 hS rfl rfl rfl (.inr rfl) ?_)
      refine w_read rfl rfl (s_ldo (k := 2)  rfl vi_49 hS rfl rfl rfl (.inl rfl) ?_)
      refine w_read rfl rfl (s_ldo (k := 1)  rfl vi_49 hS rfl rfl rfl (.inl rfl) ?_)
      refine w_grow rfl rfl (s_call Tryz.call81 rfl (hlp _) ?_)
      rintro vx w3 ⟨hvx, hB3⟩
      refine ⟨hB3, ?_⟩
      replace hS := hS.grow hB3
      refine w_grow rfl rfl (s_call Tryz.call81 rfl (hlq _) ?_)
      rintro vy w4 ⟨hvy, hB4⟩
      refine ⟨hB4, ?_⟩
      replace hS := hS.grow hB4
      refine w_grow rfl rfl (s_call Tryz.call80 rfl (rtimes_ok _ _ _ _ _ (hvx.below hB4) hvy (by omega) (by omega)) ?_)
      rintro vX w5 ⟨hvX, hB5⟩
      refine ⟨hB5, ?_⟩
      replace hS := hS.grow hB5
      refine w_grow rfl rfl (s_call Tryz.call82 rfl (rden_ok p _ (by omega)) ?_)
      rintro vp w6 ⟨hvp, hB6⟩
      refine ⟨hB6, ?_⟩
      replace hS := hS.grow hB6
      refine w_grow rfl rfl (s_call Tryz.call82 rfl (rden_ok q _ (by omega)) ?_)
      rintro vq w7 ⟨hvq, hB7⟩
      refine ⟨hB7, ?_⟩
      replace hS := hS.grow hB7
      refine w_grow rfl rfl (s_call Tryz.call80 rfl (rtimes_ok _ _ _ _ _ (hvp.below hB7) hvq (by omega) (by omega)) ?_)
      rintro vD w8 ⟨hvD, hB8⟩
      refine ⟨hB8, ?_⟩
      replace hS := hS.grow hB8
      refine w_grow rfl rfl (s_call Tryz.call79 rfl (rreduced_ok _ _ _ _ _ _ (((hvX.below hB6).below hB7).below hB8) hvD (by omega) (by omega) (Nat.mul_ne_zero p.den_nz q.den_nz)) ?_)
      rintro v9 w9 ⟨rfl, hB9⟩
      refine ⟨hB9, ?_⟩
      replace hS := hS.grow hB9
      refine w_free rfl rfl (s_sta (k := 0)  rfl rfl vi_49 hS rfl rfl rfl (Nat.le_of_ble_eq_true rfl) rfl ?_)
      intro wz10 hS
      refine w_end ?_
      repeat (with_reducible first | refine c_seq ?_ | refine c_block ?_ | refine c_skip ?_ | refine x_then ?_ | refine x_block ?_)
      refine c_ret ?_
      repeat (with_reducible first | refine x_then_ret ?_ | refine x_block_ret ?_)
      refine r_cell (k := 0) rfl rfl vi_49 hS rfl rfl ?_
      exact ⟨congrArg (fun q => aggR (ofQ q)) (mulQ_eq p q), hS.below⟩
set_option maxHeartbeats 1000000 in
theorem rOver_ok (p q : Rat) (w : World) (hL : L p + L q ≤ MX) (hq0 : q ≠ 0) :
    Ret Tryz.prog 51 #[aggR (ofQ p), aggR (ofQ q)] w fun v w' => v = aggR (ofQ (p / q)) ∧ Below w.heap.size w w' := by
  have hM : MX = 1099511627776 := rfl
  have hn1 := L_num p
  have hn2 := L_num q
  have hd1 := L_den p
  have hd2 := L_den q
  have hm1 := natS_size_mul p.num.natAbs q.den
  have hm2 := natS_size_mul p.den q.num.natAbs
  have l1 := limb_len_le_size p.num.natAbs
  have l2 := limb_len_le_size q.num.natAbs
  have l3 := limb_len_le_size p.den
  have l4 := limb_len_le_size q.den
  have l5 := limb_len_le_size (p.num.natAbs * q.den)
  have l6 := limb_len_le_size (p.den * q.num.natAbs)
  have hlp := fun w => rlimbs_ok (natS p.num.natAbs) w (by omega)
  have hlq := fun w => rlimbs_ok (natS q.num.natAbs) w (by omega)
  rw [val_natS] at hlp hlq
  have hqn : q.num.natAbs ≠ 0 := fun h => hq0 (Rat.num_eq_zero.1 (Int.natAbs_eq_zero.1 h))
  have hS := St.init w
  refine enter Tryz.func51 rfl Tryz.ntmps51 rfl ?_
  repeat (with_reducible first | refine c_seq ?_ | refine c_block ?_ | refine c_skip ?_ | refine x_then ?_ | refine x_block ?_)
  refine c_reg ?_
  refine l_heavy rfl (s_box (new := encR (ofQ p))  rfl rfl hS ?_)
  intro b1 wz2 hS hBz2
  refine l_heavy rfl (s_box (new := encR (ofQ q))  rfl rfl hS ?_)
  intro b3 wz4 hS hBz4
  refine l_heavy rfl (s_alloc  vi_49 hS ?_)
  intro b5 wz6 hS hBz6
  refine l_nil ?_
  repeat (with_reducible first | refine c_seq ?_ | refine c_block ?_ | refine c_skip ?_ | refine x_then ?_ | refine x_block ?_)
  refine c_reg ?_
  refine l_pure rfl (s_fld  rfl fo_49_1 ?_)
  refine l_read rfl (s_ldo (k := 2)  rfl vi_9 hS rfl rfl rfl (.inr rfl) ?_)
  refine l_pure rfl (s_eqs  rfl rfl ?_)
  refine l_nil ?_
  repeat (with_reducible first | refine c_seq ?_ | refine c_block ?_ | refine c_skip ?_ | refine x_then ?_ | refine x_block ?_)
  by_cases hp0 : p = 0
  · refine c_yes rfl (decide_eq_true (ofQ_num_nil.2 hp0)) ?_
    repeat (with_reducible first | refine c_seq ?_ | refine c_block ?_ | refine c_skip ?_ | refine x_then ?_ | refine x_block ?_)
    refine c_reg ?_
    refine l_pure rfl (s_build  rfl bz_49 ?_)
    refine l_heavy rfl (s_sta (k := 0)  rfl rfl vi_49 hS rfl rfl rfl (Nat.le_of_ble_eq_true rfl) rfl ?_)
    intro wz7 hS
    refine l_nil ?_
    repeat (with_reducible first | refine c_seq ?_ | refine c_block ?_ | refine c_skip ?_ | refine x_then ?_ | refine x_block ?_)
    refine c_ret ?_
    repeat (with_reducible first | refine x_then_ret ?_ | refine x_block_ret ?_)
    refine r_cell (k := 0) rfl rfl vi_49 hS rfl rfl ?_
    rw [hp0, Rat.div_def, Rat.zero_mul, ofQ_zero]
    exact ⟨rfl, hS.below⟩
  · refine c_no rfl (decide_eq_false (fun g => hp0 (ofQ_num_nil.1 g))) ?_
    repeat (with_reducible first | refine c_seq ?_ | refine c_block ?_ | refine c_skip ?_ | refine x_then ?_ | refine x_block ?_)
    refine c_draw [(0, .pure), (1, .read), (2, .pure), (3, .read), (4, .pure), (5, .pure), (6, .read), (8, .read), (11, .read), (13, .pure), (14, .read), (7, .grow), (9, .grow), (10, .grow), (12, .grow), (15, .grow), (16, .grow), (17, .grow), (18, .free)] (by kernel_rfl) (by kernel_rfl) hS ?_
    intro wz8 hS hBz8
    refine w_pure rfl rfl (s_fld  rfl fo_49_0 ?_)
    refine w_read rfl rfl (s_ldo (k := 2)  rfl vi_4 hS rfl rfl rfl (.inr rfl) ?_)
    refine w_pure rfl rfl (s_fld  rfl fo_49_0 ?_)
    refine w_read rfl rfl (s_ldo (k := 1)  rfl vi_4 hS rfl rfl rfl (.inr rfl) ?_)
    refine w_pure rfl rfl (s_neb  rfl rfl Tryz.underlying4 ?_)
    refine w_pure rfl rfl (s_fld  rfl fo_49_1 ?_)
    refine w_read rfl rfl (s_ldo (k := 2)  rfl vi_9 hS rfl rfl rfl (.inr rfl) ?_)
    refine w_read rfl rfl (s_ldo (k := 1)  rfl vi_49 hS rfl rfl rfl (.inl rfl) ?_)
    refine w_read rfl rfl (s_ldo (k := 2)  rfl vi_49 hS rfl rfl rfl (.inl rfl) ?_)
    refine w_pure rfl rfl (s_fld  rfl fo_49_1 ?_)
    refine w_read rfl rfl (s_ldo (k := 1)  rfl vi_9 hS rfl rfl rfl (.inr rfl) ?_)
    refine w_grow rfl rfl (s_call Tryz.call81 rfl (hlp _) ?_)
    rintro vx w3 ⟨hvx, hB3⟩
    refine ⟨hB3, ?_⟩
    replace hS := hS.grow hB3
    refine w_grow rfl rfl (s_call Tryz.call82 rfl (rden_ok q _ (by omega)) ?_)
    rintro vq w4 ⟨hvq, hB4⟩
    refine ⟨hB4, ?_⟩
    replace hS := hS.grow hB4
    refine w_grow rfl rfl (s_call Tryz.call80 rfl (rtimes_ok _ _ _ _ _ (hvx.below hB4) hvq (by omega) (by omega)) ?_)
    rintro vX w5 ⟨hvX, hB5⟩
    refine ⟨hB5, ?_⟩
    replace hS := hS.grow hB5
    refine w_grow rfl rfl (s_call Tryz.call82 rfl (rden_ok p _ (by omega)) ?_)
    rintro vp w6 ⟨hvp, hB6⟩
    refine ⟨hB6, ?_⟩
    replace hS := hS.grow hB6
    refine w_grow rfl rfl (s_call Tryz.call81 rfl (hlq _) ?_)
    rintro vy w7 ⟨hvy, hB7⟩
    refine ⟨hB7, ?_⟩
    replace hS := hS.grow hB7
    refine w_grow rfl rfl (s_call Tryz.call80 rfl (rtimes_ok _ _ _ _ _ (hvp.below hB7) hvy (by omega) (by omega)) ?_)
    rintro vD w8 ⟨hvD, hB8⟩
    refine ⟨hB8, ?_⟩
    replace hS := hS.grow hB8
    refine w_grow rfl rfl (s_call Tryz.call79 rfl (rreduced_ok _ _ _ _ _ _ (((hvX.below hB6).below hB7).below hB8) hvD (by omega) (by omega) (Nat.mul_ne_zero p.den_nz hqn)) ?_)
    rintro v9 w9 ⟨rfl, hB9⟩
    refine ⟨hB9, ?_⟩
    replace hS := hS.grow hB9
    refine w_free rfl rfl (s_sta (k := 0)  rfl rfl vi_49 hS rfl rfl rfl (Nat.le_of_ble_eq_true rfl) rfl ?_)
    intro wz9 hS
    refine w_end ?_
    repeat (with_reducible first | refine c_seq ?_ | refine c_block ?_ | refine c_skip ?_ | refine x_then ?_ | refine x_block ?_)
    refine c_ret ?_
    repeat (with_reducible first | refine x_then_ret ?_ | refine x_block_ret ?_)
    refine r_cell (k := 0) rfl rfl vi_49 hS rfl rfl ?_
    exact ⟨congrArg (fun q => aggR (ofQ q)) (divQ_eq p q), hS.below⟩
end Go.Proofs.YtblfipdfklpmmaaGreatDoor
namespace Go.Sx
open Go Go.RowKit Go.Proofs.YtblfipdfklpmmaaGreatDoor
def mD {α : Type} (enc : α → List Value) (t tS : TypeId) (bo : Nat) (cs : List Value) (R : List (Rw α)) (H : List Blk) : List Blk := (bo, tS, cs) :: (R.map (Rw.blk enc t) ++ H)
section
variable {P : Program} {N : Nat} {ρ : Nat → Value} {w0 w w' : World} {d : Option Tmp} {ty : TypeId} {pos : String} {aft : Array Edge} {g : Option (Nat × Bool)} {x y z : Operand} {t t' e : TypeId} {H : List Blk} {k b o : Nat} {v : Value} {K : Value → Prop} {K2 : Value → World → Prop}
  {α : Type} {enc : α → List Value} {size : Nat} {R : List (Rw α)} {tR tS : TypeId} {bo : Nat} {cs : List Value} {zz : List Value}
theorem mD_at {i : Nat} (hi : i < R.length) : (mD enc tR tS bo cs R H)[i + 1]? = some ((R.getD i zRw).b, tR, (R.getD i zRw).X.flatMap enc ++ (R.getD i zRw).sp) := by
  unfold mD
  rw [List.getElem?_cons_succ, List.getElem?_append_left (by rw [List.length_map]; exact hi), List.getElem?_map, List.getElem?_eq_getElem hi, getD_ge R zRw hi]; rfl
theorem mD_put {i : Nat} (j : Nat) (u : α) (hi : i < R.length) :
    (mD enc tR tS bo cs R H).set (i + 1) ((R.getD i zRw).b, tR, ((R.getD i zRw).X.set j u).flatMap enc ++ (R.getD i zRw).sp) = mD enc tR tS bo cs (R.set i ((R.getD i zRw).put j u)) H := by
  unfold mD
  rw [List.set_cons_succ, List.set_append_left _ _ (by rw [List.length_map]; exact hi), List.map_set]; rfl
theorem mD_app (L : List Blk) : mD enc tR tS bo cs R H ++ L = mD enc tR tS bo cs R (H ++ L) := by unfold mD; rw [List.cons_append, List.append_assoc]
theorem s_mrowD (pre : List Blk) {i : Nat} (hx : ev N ρ x = .pointer (some ⟨bo, o, none⟩)) (ht : vinfo P t = some (1, false, zz)) (hS : St w0 w (pre ++ mD enc tR tS bo cs R H)) (ho : o = i) (hv : cs[i]? = some v) (h : K v) : Read1 P N ρ w ⟨d, .load t x, ty, pos, aft, g⟩ K := by
  subst ho
  exact s_ldc (k := pre.length + 0) hx ht hS (by rw [preAt]; rfl) hv h
theorem s_mstD (pre : List Blk) {i j : Nat} {agg : Bool} (u : α) (hu : ∀ x, (enc x).length = size) (hx : ev N ρ x = .pointer (some ⟨b, o, none⟩)) (hy : ev N ρ y = v) (ht : vinfo P t = some (size, agg, zz)) (hS : St w0 w (pre ++ mD enc tR tS bo cs R H)) (hb : (R.getD i zRw).b = b) (hi : i < R.length)
    (ho : o = j * size) (hj : j < (R.getD i zRw).X.length) (hv : v.cells.toList = enc u) (h1 : (enc u).all (·.oneCell') = true) (h : ∀ w', St w0 w' (pre ++ mD enc tR tS bo cs (R.set i ((R.getD i zRw).put j u)) H) → K2 undef w') : Hup1 P N ρ w ⟨d, .store t x y, ty, pos, aft, g⟩ K2 := by
  subst hb
  refine s_stS (k := pre.length + (i + 1)) u hu hx hy ht hS (by rw [preAt]; exact mD_at hi) ho hj hv h1 fun w' hS' => ?_
  rw [preSet, mD_put j u hi] at hS'
  exact h w' hS'
theorem MatG.slD {n m : Nat} {f : Nat → Nat → α} (pre : List Blk) (h : MatG R n m f) (hS : St w0 w (pre ++ mD enc tR tS bo cs R H)) (hu : ∀ x, (enc x).length = size) {i : Nat} (hi : i < n) : Sl enc size w (R.getD i zRw).v (tab m (f i)) := by
  have hl : i < R.length := by rw [h.len]; exact hi
  have := hS.slg (k := pre.length + (i + 1)) (by rw [preAt]; exact mD_at hl) hu (n := m) (cap := (R.getD i zRw).cap) (by rw [h.xlen hi]; omega) (h.cap i hi).1 (h.cap i hi).2
  rwa [h.row i hi, List.take_of_length_le (by rw [tab_len]; omega), ← h.v hi] at this
theorem MatG.mtsD {n m cap : Nat} {f : Nat → Nat → α} {so : List Value} (pre : List Blk) (h : MatG R n m f) (hS : St w0 w (pre ++ mD enc tR tS bo (R.map Rw.v ++ so) R H)) (hu : ∀ x, (enc x).length = size) (h1 : n ≤ cap) (h2 : cap ≤ 9223372036854775807) :
    Mts enc size w (.slice (some ⟨bo, 0, none⟩) n cap) (tabM n m f) (R.map Rw.v) := by
  have hk : (pre ++ mD enc tR tS bo (R.map Rw.v ++ so) R H)[pre.length + 0]? = some (bo, tS, (R.map Rw.v).flatMap enV ++ so) := by rw [preAt, enV_flat]; rfl
  have hsl := hS.slg hk (fun _ => rfl) (n := n) (cap := cap) (by rw [List.length_map, h.len]; omega) h1 h2
  rw [List.take_of_length_le (by rw [List.length_map, h.len]; omega)] at hsl
  refine ⟨by rw [List.length_map, h.len, tabM_len], hsl, fun i hi => ?_⟩
  rw [tabM_len] at hi
  rw [tabM_row f hi, List.getD_eq_getElem?_getD, mB_row (by rw [h.len]; exact hi)]
  exact h.slD pre hS hu hi
end
end Go.Sx
namespace Go.Proofs.YtblfipdfklpmmaaGreatDoor
open Go Go.RowKit Go.Sx
theorem rshape_ok (v : Value) (A : List (List RR)) (vs : List Value) (w : World) (hA : Mts encR 3 w v A vs) :
    Ret Tryz.prog 38 #[v] w fun r w' => r = .int .i64 (shpE A) ∧ Below w.heap.size w w' := by
  have hS := St.init w
  have hmx := hA.sl.maxLen
  have hlen := hA.len
  have hc0 : colsA A = (A.getD 0 []).length := rfl
  refine enter Tryz.func38 rfl Tryz.ntmps38 rfl ?_
  repeat (with_reducible first | refine c_seq ?_ | refine c_block ?_ | refine c_skip ?_ | refine x_then ?_ | refine x_block ?_)
  refine c_reg ?_
  refine l_pure rfl (s_asg  rfl ?_)
  refine l_nil ?_
  repeat (with_reducible first | refine c_seq ?_ | refine c_block ?_ | refine c_skip ?_ | refine x_then ?_ | refine x_block ?_)
  refine c_reg ?_
  refine l_pure rfl (s_move  rfl ?_)
  refine l_pure rfl (s_lenr  rfl (hA.sl.below hS.below) ⟨_, Tryz.underlying22⟩ ?_)
  refine l_pure rfl (s_eql  rfl rfl ?_)
  refine l_nil ?_
  repeat (with_reducible first | refine c_seq ?_ | refine c_block ?_ | refine c_skip ?_ | refine x_then ?_ | refine x_block ?_)
  by_cases h0 : A.length = 0
  · have he : shpE A = 4 := if_pos (.inl h0)
    rw [he]
    refine c_yes rfl (decide_eq_true (by omega)) ?_
    repeat (with_reducible first | refine c_seq ?_ | refine c_block ?_ | refine c_skip ?_ | refine x_then ?_ | refine x_block ?_)
    refine c_reg ?_
    refine l_pure rfl (s_asg  rfl ?_)
    refine l_nil ?_
    repeat (with_reducible first | refine c_seq ?_ | refine c_block ?_ | refine c_skip ?_ | refine x_then ?_ | refine x_block ?_)
    refine c_ret ?_
    repeat (with_reducible first | refine x_then_ret ?_ | refine x_block_ret ?_)
    refine r_one rfl rfl ?_
    exact ⟨rfl, hS.below⟩
  have hr0 := hA.row 0 (by omega)
  have hm0 := hr0.maxLen
  refine c_no rfl (decide_eq_false (by omega)) ?_
  repeat (with_reducible first | refine c_seq ?_ | refine c_block ?_ | refine c_skip ?_ | refine x_then ?_ | refine x_block ?_)
  refine c_reg ?_
  refine l_pure rfl (s_asg  rfl ?_)
  refine l_nil ?_
  repeat (with_reducible first | refine c_seq ?_ | refine c_skip ?_ | refine x_then ?_ | refine x_block ?_)
  refine c_cut1 (fun ρ w' => colsA A ≠ 0 ∧ evenA A = true ∧ ρ 0 = v ∧ St w w' []) ?_ ?_
  · repeat (with_reducible first | refine c_seq ?_ | refine c_block ?_ | refine c_skip ?_ | refine x_then ?_ | refine x_block ?_)
    refine c_loop (σ := Nat) (fun i ρ w' => i ≤ A.length ∧ (0 < i → colsA A ≠ 0) ∧ (A.take i).all (fun r => decide (r.length = colsA A)) = true ∧ ρ 0 = v ∧ ρ 3 = .int .i64 i ∧ St w w' []) (fun i => A.length - i) 0
      ⟨Nat.zero_le _, fun h => absurd h (Nat.lt_irrefl _), by simp, rfl, rfl, hS⟩ ?_
    clear hS
    rintro i ρ w2 ⟨hi, hcz, hall, h0', h3, hS⟩
    repeat (with_reducible first | refine c_seq ?_ | refine c_block ?_ | refine c_skip ?_ | refine x_then ?_ | refine x_block ?_)
    refine c_reg ?_
    refine l_pure rfl (s_move  h3 ?_)
    refine l_pure rfl (s_move  h0' ?_)
    refine l_pure rfl (s_lenr  rfl (hA.sl.below hS.below) ⟨_, Tryz.underlying22⟩ ?_)
    refine l_pure rfl (s_lss  rfl rfl ?_)
    refine l_nil ?_
    repeat (with_reducible first | refine c_seq ?_ | refine c_block ?_ | refine c_skip ?_ | refine x_then ?_ | refine x_block ?_)
    by_cases hlt : i < A.length
    · refine c_yes rfl (decide_eq_true (by omega)) ?_
      repeat (with_reducible first | refine c_seq ?_ | refine c_block ?_ | refine c_skip ?_ | refine x_then ?_ | refine x_block ?_)
      have hri := hA.row i hlt
      have hmi := hri.maxLen
      have hd : (A.getD i []).length = colsA A ↔ decide ((A.getD i []).length = colsA A) = true := (decide_eq_true_iff).symm
      obtain ⟨st1, st2⟩ := all_step (fun r : List RR => decide (r.length = colsA A)) A [] hlt hall
      by_cases hz : (A.getD i []).length = 0
      · have he : shpE A = 4 := by
          unfold shpE
          by_cases q : A.length = 0 ∨ colsA A = 0
          · rw [if_pos q]
          · rw [if_neg q, if_pos]
            exact st2 (decide_eq_false (by omega))
        rw [he]
        repeat (with_reducible first | refine c_seq ?_ | refine c_block ?_ | refine c_skip ?_ | refine x_then ?_ | refine x_block ?_)
        refine c_draw [(0, .pure), (1, .pure), (2, .pure), (3, .read), (4, .pure), (5, .pure), (6, .pure), (7, .pure), (8, .pure), (9, .pure), (10, .read), (11, .pure), (12, .pure), (13, .pure), (14, .read), (15, .pure), (16, .pure), (17, .pure)] (by kernel_rfl) (by kernel_rfl) hS ?_
        intro wz1 hS hBz1
        refine w_pure rfl rfl (s_move  h0' ?_)
        refine w_pure rfl rfl (s_move  h3 ?_)
        refine w_pure rfl rfl (s_ixr (i := i)  rfl rfl (hA.sl.below hS.below) (by omega) (by first | omega | (simp; done) | (simp; omega)) si_22 ?_)
        refine w_read rfl rfl (s_lde (i := i) undef  rfl vi_23 (hA.sl.below hS.below) (by first | omega | (simp; done) | (simp; omega)) rfl rfl (.inr rfl) ?_)
        refine w_pure rfl rfl (s_lenr  rfl (hri.below hS.below) ⟨_, Tryz.underlying23⟩ ?_)
        refine w_pure rfl rfl (s_eql  rfl rfl ?_)
        refine w_pure rfl rfl (s_move  rfl ?_)
        refine w_no rfl (gno_yes 19 (by kernel_rfl) rfl (decide_eq_true (by omega))) ?_
        refine w_no rfl (gno_yes 19 (by kernel_rfl) rfl (decide_eq_true (by omega))) ?_
        refine w_no rfl (gno_yes 19 (by kernel_rfl) rfl (decide_eq_true (by omega))) ?_
        refine w_no rfl (gno_yes 19 (by kernel_rfl) rfl (decide_eq_true (by omega))) ?_
        refine w_no rfl (gno_yes 19 (by kernel_rfl) rfl (decide_eq_true (by omega))) ?_
        refine w_no rfl (gno_yes 19 (by kernel_rfl) rfl (decide_eq_true (by omega))) ?_
        refine w_no rfl (gno_yes 19 (by kernel_rfl) rfl (decide_eq_true (by omega))) ?_
        refine w_no rfl (gno_yes 19 (by kernel_rfl) rfl (decide_eq_true (by omega))) ?_
        refine w_no rfl (gno_yes 19 (by kernel_rfl) rfl (decide_eq_true (by omega))) ?_
        refine w_no rfl (gno_yes 19 (by kernel_rfl) rfl (decide_eq_true (by omega))) ?_
        refine w_pure rfl rfl (s_pick (vb rfl (decide_eq_true (by omega))) rfl ?_)
        refine w_end ?_
        repeat (with_reducible first | refine c_seq ?_ | refine c_block ?_ | refine c_skip ?_ | refine x_then ?_ | refine x_block ?_)
        refine c_yes rfl (rfl) ?_
        repeat (with_reducible first | refine c_seq ?_ | refine c_block ?_ | refine c_skip ?_ | refine x_then ?_ | refine x_block ?_)
        refine c_reg ?_
        refine l_pure rfl (s_asg  rfl ?_)
        refine l_nil ?_
        repeat (with_reducible first | refine c_seq ?_ | refine c_block ?_ | refine c_skip ?_ | refine x_then ?_ | refine x_block ?_)
        refine c_ret ?_
        repeat (with_reducible first | refine x_then_ret ?_ | refine x_block_ret ?_)
        refine r_one rfl rfl ?_
        exact ⟨rfl, hS.below⟩
      · repeat (with_reducible first | refine c_seq ?_ | refine c_block ?_ | refine c_skip ?_ | refine x_then ?_ | refine x_block ?_)
        refine c_draw [(0, .pure), (1, .pure), (2, .pure), (3, .read), (4, .pure), (5, .pure), (6, .pure), (7, .pure), (8, .pure), (9, .pure), (10, .read), (11, .pure), (12, .pure), (13, .pure), (14, .read), (15, .pure), (16, .pure), (17, .pure)] (by kernel_rfl) (by kernel_rfl) hS ?_
        intro wz2 hS hBz2
        refine w_pure rfl rfl (s_move  h0' ?_)
        refine w_pure rfl rfl (s_move  h3 ?_)
        refine w_pure rfl rfl (s_ixr (i := i)  rfl rfl (hA.sl.below hS.below) (by omega) (by first | omega | (simp; done) | (simp; omega)) si_22 ?_)
        refine w_read rfl rfl (s_lde (i := i) undef  rfl vi_23 (hA.sl.below hS.below) (by first | omega | (simp; done) | (simp; omega)) rfl rfl (.inr rfl) ?_)
        refine w_pure rfl rfl (s_lenr  rfl (hri.below hS.below) ⟨_, Tryz.underlying23⟩ ?_)
        refine w_pure rfl rfl (s_eql  rfl rfl ?_)
        refine w_pure rfl rfl (s_move  rfl ?_)
        refine w_pure rfl (gd_yes 19 (by kernel_rfl) rfl (decide_eq_false (by omega))) (s_move  h0' ?_)
        refine w_pure rfl (gd_yes 19 (by kernel_rfl) rfl (decide_eq_false (by omega))) (s_move  h3 ?_)
        refine w_pure rfl (gd_yes 19 (by kernel_rfl) rfl (decide_eq_false (by omega))) (s_ixr (i := i)  rfl rfl (hA.sl.below hS.below) (by omega) (by first | omega | (simp; done) | (simp; omega)) si_22 ?_)
        refine w_read rfl (gd_yes 19 (by kernel_rfl) rfl (decide_eq_false (by omega))) (s_lde (i := i) undef  rfl vi_23 (hA.sl.below hS.below) (by first | omega | (simp; done) | (simp; omega)) rfl rfl (.inr rfl) ?_)
        refine w_pure rfl (gd_yes 19 (by kernel_rfl) rfl (decide_eq_false (by omega))) (s_lenr  rfl (hri.below hS.below) ⟨_, Tryz.underlying23⟩ ?_)
        refine w_pure rfl (gd_yes 19 (by kernel_rfl) rfl (decide_eq_false (by omega))) (s_move  h0' ?_)
        refine w_pure rfl (gd_yes 19 (by kernel_rfl) rfl (decide_eq_false (by omega))) (s_ixr (i := 0)  rfl rfl (hA.sl.below hS.below) (by omega) (by first | omega | (simp; done) | (simp; omega)) si_22 ?_)
        refine w_read rfl (gd_yes 19 (by kernel_rfl) rfl (decide_eq_false (by omega))) (s_lde (i := 0) undef  rfl vi_23 (hA.sl.below hS.below) (by first | omega | (simp; done) | (simp; omega)) rfl rfl (.inr rfl) ?_)
        refine w_pure rfl (gd_yes 19 (by kernel_rfl) rfl (decide_eq_false (by omega))) (s_lenr  rfl (hr0.below hS.below) ⟨_, Tryz.underlying23⟩ ?_)
        refine w_pure rfl (gd_yes 19 (by kernel_rfl) rfl (decide_eq_false (by omega))) (s_neq  rfl rfl ?_)
        refine w_pure rfl rfl (s_pick (vb rfl (decide_eq_false (by omega))) rfl ?_)
        refine w_end ?_
        repeat (with_reducible first | refine c_seq ?_ | refine c_block ?_ | refine c_skip ?_ | refine x_then ?_ | refine x_block ?_)
        by_cases hne : (A.getD i []).length = colsA A
        · refine c_no rfl (decide_eq_false (by omega)) ?_
          repeat (with_reducible first | refine c_seq ?_ | refine c_block ?_ | refine c_skip ?_ | refine x_then ?_ | refine x_block ?_)
          refine c_reg ?_
          refine l_pure rfl (s_move  h3 ?_)
          refine l_pure rfl (s_add  rfl rfl (IntWalk.i64_in _ (by omega)) ?_)
          refine l_pure rfl (s_asg  rfl ?_)
          refine l_nil ?_
          repeat (with_reducible first | refine c_seq ?_ | refine c_block ?_ | refine c_skip ?_ | refine x_then ?_ | refine x_block ?_)
          exact ⟨i + 1, _, rfl, ⟨hlt, fun _ => by omega, st1 (hd.1 hne), by assumption, vi rfl (by omega), hS⟩, by omega⟩
        · have he : shpE A = 4 := by
            unfold shpE
            by_cases q : A.length = 0 ∨ colsA A = 0
            · rw [if_pos q]
            · rw [if_neg q, if_pos]
              exact st2 (decide_eq_false hne)
          rw [he]
          refine c_yes rfl (decide_eq_true (by omega)) ?_
          repeat (with_reducible first | refine c_seq ?_ | refine c_block ?_ | refine c_skip ?_ | refine x_then ?_ | refine x_block ?_)
          refine c_reg ?_
          refine l_pure rfl (s_asg  rfl ?_)
          refine l_nil ?_
          repeat (with_reducible first | refine c_seq ?_ | refine c_block ?_ | refine c_skip ?_ | refine x_then ?_ | refine x_block ?_)
          refine c_ret ?_
          repeat (with_reducible first | refine x_then_ret ?_ | refine x_block_ret ?_)
          refine r_one rfl rfl ?_
          exact ⟨rfl, hS.below⟩
    · refine c_no rfl (decide_eq_false (by omega)) ?_
      repeat (with_reducible first | refine c_seq ?_ | refine c_block ?_ | refine c_skip ?_ | refine x_then ?_ | refine x_block ?_)
      refine c_exit ?_
      repeat (with_reducible first | refine x_then_exit ?_ | refine x_block_exit ?_ | refine x_block_pass rfl ?_)
      repeat (with_reducible first | refine c_seq ?_ | refine c_block ?_ | refine c_skip ?_ | refine x_then ?_ | refine x_block ?_)
      obtain rfl : i = A.length := by omega
      rw [List.take_length] at hall
      exact ⟨_, rfl, hcz (by omega), hall, h0', hS⟩
  clear hS
  rintro ρ w2 ⟨hcz, hev, h0', hS⟩
  repeat (with_reducible first | refine c_seq ?_ | refine c_block ?_ | refine c_skip ?_ | refine x_then ?_ | refine x_block ?_)
  have e2 : shpE A = if 16 < A.length ∨ 16 < colsA A then 2 else 0 := by unfold shpE; rw [if_neg (by omega), if_neg (by rw [hev]; simp)]
  rw [e2]
  by_cases h3 : 16 < A.length
  · rw [if_pos (.inl h3)]
    repeat (with_reducible first | refine c_seq ?_ | refine c_block ?_ | refine c_skip ?_ | refine x_then ?_ | refine x_block ?_)
    refine c_reg ?_
    refine l_pure rfl (s_move  h0' ?_)
    refine l_pure rfl (s_lenr  rfl (hA.sl.below hS.below) ⟨_, Tryz.underlying22⟩ ?_)
    refine l_pure rfl (s_gtr  rfl rfl ?_)
    refine l_pure rfl (s_move  rfl ?_)
    refine l_no (gno_yes 34 (by kernel_rfl) rfl (decide_eq_true (by omega))) ?_
    refine l_no (gno_yes 34 (by kernel_rfl) rfl (decide_eq_true (by omega))) ?_
    refine l_no (gno_yes 34 (by kernel_rfl) rfl (decide_eq_true (by omega))) ?_
    refine l_no (gno_yes 34 (by kernel_rfl) rfl (decide_eq_true (by omega))) ?_
    refine l_no (gno_yes 34 (by kernel_rfl) rfl (decide_eq_true (by omega))) ?_
    refine l_pure rfl (s_pick (vb rfl (decide_eq_true (by omega))) rfl ?_)
    refine l_nil ?_
    repeat (with_reducible first | refine c_seq ?_ | refine c_block ?_ | refine c_skip ?_ | refine x_then ?_ | refine x_block ?_)
    refine c_yes rfl (rfl) ?_
    repeat (with_reducible first | refine c_seq ?_ | refine c_block ?_ | refine c_skip ?_ | refine x_then ?_ | refine x_block ?_)
    refine c_reg ?_
    refine l_pure rfl (s_asg  rfl ?_)
    refine l_nil ?_
    repeat (with_reducible first | refine c_seq ?_ | refine c_block ?_ | refine c_skip ?_ | refine x_then ?_ | refine x_block ?_)
    refine c_ret ?_
    repeat (with_reducible first | refine x_then_ret ?_ | refine x_block_ret ?_)
    refine r_one rfl rfl ?_
    exact ⟨rfl, hS.below⟩
  repeat (with_reducible first | refine c_seq ?_ | refine c_block ?_ | refine c_skip ?_ | refine x_then ?_ | refine x_block ?_)
  refine c_reg ?_
  refine l_pure rfl (s_move  h0' ?_)
  refine l_pure rfl (s_lenr  rfl (hA.sl.below hS.below) ⟨_, Tryz.underlying22⟩ ?_)
  refine l_pure rfl (s_gtr  rfl rfl ?_)
  refine l_pure rfl (s_move  rfl ?_)
  refine l_pure (gd_yes 34 (by kernel_rfl) rfl (decide_eq_false (by omega))) (s_move  h0' ?_)
  refine l_pure (gd_yes 34 (by kernel_rfl) rfl (decide_eq_false (by omega))) (s_ixr (i := 0)  rfl rfl (hA.sl.below hS.below) (by omega) (by first | omega | (simp; done) | (simp; omega)) si_22 ?_)
  refine l_read (gd_yes 34 (by kernel_rfl) rfl (decide_eq_false (by omega))) (s_lde (i := 0) undef  rfl vi_23 (hA.sl.below hS.below) (by first | omega | (simp; done) | (simp; omega)) rfl rfl (.inr rfl) ?_)
  refine l_pure (gd_yes 34 (by kernel_rfl) rfl (decide_eq_false (by omega))) (s_lenr  rfl (hr0.below hS.below) ⟨_, Tryz.underlying23⟩ ?_)
  refine l_pure (gd_yes 34 (by kernel_rfl) rfl (decide_eq_false (by omega))) (s_gtr  rfl rfl ?_)
  refine l_pure rfl (s_pick (vb rfl (decide_eq_false (by omega))) rfl ?_)
  refine l_nil ?_
  repeat (with_reducible first | refine c_seq ?_ | refine c_block ?_ | refine c_skip ?_ | refine x_then ?_ | refine x_block ?_)
  by_cases h4 : 16 < colsA A
  · rw [if_pos (.inr h4)]
    refine c_yes rfl (decide_eq_true (by omega)) ?_
    repeat (with_reducible first | refine c_seq ?_ | refine c_block ?_ | refine c_skip ?_ | refine x_then ?_ | refine x_block ?_)
    refine c_reg ?_
    refine l_pure rfl (s_asg  rfl ?_)
    refine l_nil ?_
    repeat (with_reducible first | refine c_seq ?_ | refine c_block ?_ | refine c_skip ?_ | refine x_then ?_ | refine x_block ?_)
    refine c_ret ?_
    repeat (with_reducible first | refine x_then_ret ?_ | refine x_block_ret ?_)
    refine r_one rfl rfl ?_
    exact ⟨rfl, hS.below⟩
  rw [if_neg (by omega)]
  refine c_no rfl (decide_eq_false (by omega)) ?_
  repeat (with_reducible first | refine c_seq ?_ | refine c_block ?_ | refine c_skip ?_ | refine x_then ?_ | refine x_block ?_)
  refine c_reg ?_
  refine l_pure rfl (s_asg  rfl ?_)
  refine l_nil ?_
  repeat (with_reducible first | refine c_seq ?_ | refine c_block ?_ | refine c_skip ?_ | refine x_then ?_ | refine x_block ?_)
  refine c_ret ?_
  repeat (with_reducible first | refine x_then_ret ?_ | refine x_block_ret ?_)
  refine r_one rfl rfl ?_
  exact ⟨rfl, hS.below⟩
theorem lFixed_ok (v : Value) (l : List RR) (w : World) (hv : Sl encR 3 w v l) (hl : RB MX l) (hn : l.length ≤ 1000000) :
    Ret Tryz.prog 41 #[v] w fun r w' => ∃ LO, Gl encR 49 3 r (tab l.length fun j => ofQ (VX l j)) LO ∧ St w w' LO := by
  have hmax := hv.maxLen
  have hS := St.init w
  refine enter Tryz.func41 rfl Tryz.ntmps41 rfl ?_
  repeat (with_reducible first | refine c_seq ?_ | refine c_block ?_ | refine c_skip ?_ | refine x_then ?_ | refine x_block ?_)
  refine c_reg ?_
  refine l_pure rfl (s_asg  rfl ?_)
  refine l_nil ?_
  repeat (with_reducible first | refine c_seq ?_ | refine c_block ?_ | refine c_skip ?_ | refine x_then ?_ | refine x_block ?_)
  refine c_reg ?_
  refine l_pure rfl (s_asg  rfl ?_)
  refine l_nil ?_
  repeat (with_reducible first | refine c_seq ?_ | refine c_block ?_ | refine c_skip ?_ | refine x_then ?_ | refine x_block ?_)
  refine c_reg ?_
  refine l_pure rfl (s_asg  rfl ?_)
  refine l_nil ?_
  repeat (with_reducible first | refine c_seq ?_ | refine c_block ?_ | refine c_skip ?_ | refine x_then ?_ | refine x_block ?_)
  refine c_loop (σ := Nat) (fun i ρ w' => i ≤ l.length ∧ ρ 0 = v ∧ ρ 4 = .int .i64 i ∧ ∃ sO LO, ρ 3 = sO ∧ Gl encR 49 3 sO (tab i fun j => ofQ (VX l j)) LO ∧ St w w' ([] ++ LO)) (fun i => l.length - i) 0
    ⟨Nat.zero_le _, rfl, rfl, ⟨_, [], rfl, Gl.nil _ _ _, hS⟩⟩ ?_
  clear hS
  rintro i ρ w2 ⟨hi, h0, h4, sO, LO, h3, hG, hS⟩
  have htl := tab_len i (fun j => ofQ (VX l j))
  repeat (with_reducible first | refine c_seq ?_ | refine c_block ?_ | refine c_skip ?_ | refine x_then ?_ | refine x_block ?_)
  refine c_reg ?_
  refine l_pure rfl (s_move  h4 ?_)
  refine l_pure rfl (s_move  h0 ?_)
  refine l_pure rfl (s_lenr  rfl (hv.below hS.below) ⟨_, Tryz.underlying23⟩ ?_)
  refine l_pure rfl (s_lss  rfl rfl ?_)
  refine l_nil ?_
  repeat (with_reducible first | refine c_seq ?_ | refine c_block ?_ | refine c_skip ?_ | refine x_then ?_ | refine x_block ?_)
  by_cases hlt : i < l.length
  · refine c_yes rfl (decide_eq_true (by omega)) ?_
    repeat (with_reducible first | refine c_seq ?_ | refine c_block ?_ | refine c_skip ?_ | refine x_then ?_ | refine x_block ?_)
    have hfix := fun w => rFix_ok (l.getD i zRR) w (hl _ (getD_mem l i zRR hlt))
    have e : fx (l.getD i zRR) = ofQ (VX l i) := rfl
    rw [e] at hfix
    repeat (with_reducible first | refine c_seq ?_ | refine c_block ?_ | refine c_skip ?_ | refine x_then ?_ | refine x_block ?_)
    refine c_reg ?_
    refine l_pure rfl (s_move  h3 ?_)
    refine l_pure rfl (s_move  h0 ?_)
    refine l_pure rfl (s_move  h4 ?_)
    refine l_pure rfl (s_ixr (i := i)  rfl rfl (hv.below hS.below) (by omega) (by first | omega | (simp; done) | (simp; omega)) si_23 ?_)
    refine l_read rfl (s_lde (i := i) zRR  rfl vi_49 (hv.below hS.below) (by first | omega | (simp; done) | (simp; omega)) rfl rfl (.inl rfl) ?_)
    refine l_heavy rfl (s_call Tryz.call71 rfl (hfix _) ?_)
    rintro _ wc1 ⟨rfl, hBc1⟩
    replace hS := hS.grow hBc1
    refine l_heavy rfl (s_bsl (vs := [aggR (ofQ (VX l i))])  rfl si_23 rfl (by decide) (by decide) (by decide) (by simp [Value.cells, aggR]) rfl hS ?_)
    intro bx wz2 hS hBz2
    refine l_heavy rfl (s_appl [ofQ (VX l i)]  rfl rfl si_23 (by decide) hG hS rfl rfl encR_len (encR_one [ofQ (VX l i)]) (by first | omega | (simp only [List.length_cons, List.length_nil]; omega)) (by first | omega | (simp only [List.length_cons, List.length_nil]; omega)) ?_)
    intro va3 La3 wa3 hG hS hga3
    refine l_pure rfl (s_asg  rfl ?_)
    refine l_nil ?_
    repeat (with_reducible first | refine c_seq ?_ | refine c_block ?_ | refine c_skip ?_ | refine x_then ?_ | refine x_block ?_)
    rw [← tab_succ] at hG
    repeat (with_reducible first | refine c_seq ?_ | refine c_block ?_ | refine c_skip ?_ | refine x_then ?_ | refine x_block ?_)
    refine c_reg ?_
    refine l_pure rfl (s_move  h4 ?_)
    refine l_pure rfl (s_add  rfl rfl (IntWalk.i64_in _ (by omega)) ?_)
    refine l_pure rfl (s_asg  rfl ?_)
    refine l_nil ?_
    repeat (with_reducible first | refine c_seq ?_ | refine c_block ?_ | refine c_skip ?_ | refine x_then ?_ | refine x_block ?_)
    exact ⟨i + 1, _, rfl, ⟨hlt, by assumption, vi rfl (by omega), ⟨_, _, rfl, hG, hS⟩⟩, by omega⟩
  · refine c_no rfl (decide_eq_false (by omega)) ?_
    repeat (with_reducible first | refine c_seq ?_ | refine c_block ?_ | refine c_skip ?_ | refine x_then ?_ | refine x_block ?_)
    refine c_exit ?_
    repeat (with_reducible first | refine x_then_exit ?_ | refine x_block_exit ?_ | refine x_block_pass rfl ?_)
    repeat (with_reducible first | refine c_seq ?_ | refine c_block ?_ | refine c_skip ?_ | refine x_then ?_ | refine x_block ?_)
    obtain rfl : i = l.length := by omega
    repeat (with_reducible first | refine c_seq ?_ | refine c_block ?_ | refine c_skip ?_ | refine x_then ?_ | refine x_block ?_)
    refine c_reg ?_
    refine l_pure rfl (s_move  h3 ?_)
    refine l_pure rfl (s_asg  rfl ?_)
    refine l_nil ?_
    repeat (with_reducible first | refine c_seq ?_ | refine c_block ?_ | refine c_skip ?_ | refine x_then ?_ | refine x_block ?_)
    refine c_ret ?_
    repeat (with_reducible first | refine x_then_ret ?_ | refine x_block_ret ?_)
    refine r_one rfl rfl ?_
    exact ⟨LO, hG, hS⟩
set_option maxHeartbeats 2000000 in
theorem lfixedRows_ok (v : Value) (A : List (List RR)) (vs : List Value) (m : Nat) (w : World) (hA : Mts encR 3 w v A vs) (hn1 : 1 ≤ A.length) (hn : A.length ≤ 1000) (hm1 : 1 ≤ m) (hm : m ≤ 1000) (hev : ∀ i, i < A.length → (A.getD i []).length = m) (hB : RBM MX A) :
    Ret Tryz.prog 40 #[v] w fun r w' => (∃ bo cap so R, r = .slice (some ⟨bo, 0, none⟩) A.length cap ∧ A.length ≤ cap ∧ cap ≤ 9223372036854775807 ∧ MatG R A.length m (qM (RM A)) ∧ St w w' (mD encR 49 23 bo (R.map Rw.v ++ so) R [])) ∧ Below w.heap.size w w' := by
  obtain ⟨n, hn'⟩ : ∃ n, n = A.length := ⟨_, rfl⟩
  rw [← hn'] at hn1 hn hev ⊢
  have hS := St.init w
  have hlen := hA.len
  refine enter Tryz.func40 rfl Tryz.ntmps40 rfl ?_
  repeat (with_reducible first | refine c_seq ?_ | refine c_block ?_ | refine c_skip ?_ | refine x_then ?_ | refine x_block ?_)
  refine c_reg ?_
  refine l_pure rfl (s_asg  rfl ?_)
  refine l_nil ?_
  repeat (with_reducible first | refine c_seq ?_ | refine c_block ?_ | refine c_skip ?_ | refine x_then ?_ | refine x_block ?_)
  refine c_reg ?_
  refine l_pure rfl (s_asg  rfl ?_)
  refine l_nil ?_
  repeat (with_reducible first | refine c_seq ?_ | refine c_block ?_ | refine c_skip ?_ | refine x_then ?_ | refine x_block ?_)
  refine c_reg ?_
  refine l_pure rfl (s_asg  rfl ?_)
  refine l_nil ?_
  repeat (with_reducible first | refine c_seq ?_ | refine c_block ?_ | refine c_skip ?_ | refine x_then ?_ | refine x_block ?_)
  refine c_loop (σ := Nat) (fun i ρ w' => i ≤ n ∧ ρ 0 = v ∧ ρ 4 = .int .i64 i ∧ ∃ vo LO R, ρ 3 = vo ∧ MatG R i m (qM (RM A)) ∧ Gl enV 23 1 vo (R.map Rw.v) LO ∧ St w w' (R.map (Rw.blk encR 49) ++ LO)) (fun i => n - i) 0
    ⟨Nat.zero_le _, rfl, rfl, _, [], [], rfl, ⟨rfl, fun i hi => absurd hi (Nat.not_lt_zero _), fun i hi => absurd hi (Nat.not_lt_zero _)⟩, Gl.nil _ _ _, hS⟩ ?_
  clear hS
  rintro i ρ w2 ⟨hi, h0, h4, vo, LO, R, h3, hR, hG, hS⟩
  have hvl : (R.map Rw.v).length = i := by rw [List.length_map, hR.len]
  repeat (with_reducible first | refine c_seq ?_ | refine c_block ?_ | refine c_skip ?_ | refine x_then ?_ | refine x_block ?_)
  refine c_reg ?_
  refine l_pure rfl (s_move  h4 ?_)
  refine l_pure rfl (s_move  h0 ?_)
  refine l_pure rfl (s_lenr  rfl (hA.sl.below hS.below) ⟨_, Tryz.underlying22⟩ ?_)
  refine l_pure rfl (s_lss  rfl rfl ?_)
  refine l_nil ?_
  repeat (with_reducible first | refine c_seq ?_ | refine c_block ?_ | refine c_skip ?_ | refine x_then ?_ | refine x_block ?_)
  by_cases hlt : i < n
  · refine c_yes rfl (decide_eq_true (by omega)) ?_
    repeat (with_reducible first | refine c_seq ?_ | refine c_block ?_ | refine c_skip ?_ | refine x_then ?_ | refine x_block ?_)
    have hri := hA.row i (by omega)
    have hli := hev i hlt
    repeat (with_reducible first | refine c_seq ?_ | refine c_block ?_ | refine c_skip ?_ | refine x_then ?_ | refine x_block ?_)
    refine c_reg ?_
    refine l_pure rfl (s_move  h3 ?_)
    refine l_pure rfl (s_move  h0 ?_)
    refine l_pure rfl (s_move  h4 ?_)
    refine l_pure rfl (s_ixr (i := i)  rfl rfl (hA.sl.below hS.below) (by omega) (by first | omega | (simp; done) | (simp; omega)) si_22 ?_)
    refine l_read rfl (s_lde (i := i) undef  rfl vi_23 (hA.sl.below hS.below) (by first | omega | (simp; done) | (simp; omega)) rfl rfl (.inr rfl) ?_)
    refine l_heavy rfl (s_call Tryz.call41 rfl (lFixed_ok _ (A.getD i []) _ (hri.below hS.below) (hB _ (getD_mem A i [] (by omega))) (by omega)) ?_)
    rintro r w3 ⟨LF, hGF, hSF⟩
    rw [hli] at hGF
    obtain ⟨nr, hX, rfl, rfl, hc1, hc2, _⟩ := Gl_blk hGF (by intro e; have := congrArg List.length e; rw [tab_len] at this; simp at this; omega)
    replace hS := hS.join hSF
    clear hSF hGF
    replace hS : St w _ ((nr.blk encR 49 :: R.map (Rw.blk encR 49)) ++ LO) := hS
    have hR2 := MatG_snoc hR hX ⟨by rw [hX, tab_len] at hc1; exact hc1, hc2⟩
    refine l_heavy rfl (s_bsl (vs := [nr.v])  rfl si_22 rfl (by decide) (by decide) (by decide) (by simp [Value.cells, Rw.v]) rfl hS ?_)
    intro b17 wz1 hS hBz1
    refine l_heavy rfl (s_appl [nr.v]  rfl rfl si_22 (by decide) hG hS rfl rfl (fun _ => rfl) (fun u hu => by rw [List.mem_singleton.1 (show u ∈ [nr.v] from hu)]; rfl) (by first | omega | (simp only [List.length_cons, List.length_nil]; omega)) (by first | omega | (simp only [List.length_cons, List.length_nil]; omega)) ?_)
    intro va2 La2 wa2 hG hS hga2
    refine l_pure rfl (s_asg  rfl ?_)
    refine l_nil ?_
    repeat (with_reducible first | refine c_seq ?_ | refine c_block ?_ | refine c_skip ?_ | refine x_then ?_ | refine x_block ?_)
    rw [show R.map Rw.v ++ [nr.v] = (R ++ [nr]).map Rw.v by rw [List.map_append]; rfl] at hG
    have eb : ∀ T : List Blk, (nr.blk encR 49 :: R.map (Rw.blk encR 49) ++ T).Perm ((R ++ [nr]).map (Rw.blk encR 49) ++ T) := by
      intro T
      rw [List.map_append]
      exact List.Perm.append_right _ (List.perm_append_singleton _ _).symm
    replace hS := hS.perm (eb _)
    repeat (with_reducible first | refine c_seq ?_ | refine c_block ?_ | refine c_skip ?_ | refine x_then ?_ | refine x_block ?_)
    refine c_reg ?_
    refine l_pure rfl (s_move  h4 ?_)
    refine l_pure rfl (s_add  rfl rfl (IntWalk.i64_in _ (by omega)) ?_)
    refine l_pure rfl (s_asg  rfl ?_)
    refine l_nil ?_
    repeat (with_reducible first | refine c_seq ?_ | refine c_block ?_ | refine c_skip ?_ | refine x_then ?_ | refine x_block ?_)
    exact ⟨i + 1, _, rfl, ⟨hlt, by assumption, vi rfl (by omega), _, _, R ++ [nr], rfl, hR2, hG, hS⟩, by omega⟩
  · refine c_no rfl (decide_eq_false (by omega)) ?_
    repeat (with_reducible first | refine c_seq ?_ | refine c_block ?_ | refine c_skip ?_ | refine x_then ?_ | refine x_block ?_)
    refine c_exit ?_
    repeat (with_reducible first | refine x_then_exit ?_ | refine x_block_exit ?_ | refine x_block_pass rfl ?_)
    repeat (with_reducible first | refine c_seq ?_ | refine c_block ?_ | refine c_skip ?_ | refine x_then ?_ | refine x_block ?_)
    obtain rfl : n = i := by omega
    obtain ⟨_, ⟨_, h2, _⟩ | ⟨bo, cap, so, rfl, rfl, h5, h6, _⟩⟩ := hG
    · omega
    · rw [enV_flat] at hS
      rw [hvl] at h3 h5
      repeat (with_reducible first | refine c_seq ?_ | refine c_block ?_ | refine c_skip ?_ | refine x_then ?_ | refine x_block ?_)
      refine c_reg ?_
      refine l_pure rfl (s_move  h3 ?_)
      refine l_pure rfl (s_asg  rfl ?_)
      refine l_nil ?_
      repeat (with_reducible first | refine c_seq ?_ | refine c_block ?_ | refine c_skip ?_ | refine x_then ?_ | refine x_block ?_)
      refine c_ret ?_
      repeat (with_reducible first | refine x_then_ret ?_ | refine x_block_ret ?_)
      refine r_one rfl rfl ?_
      refine ⟨⟨bo, cap, so, R, rfl, h5, by unfold Go.maxLen at h6; omega, hR, hS.perm ?_⟩, hS.below⟩
      unfold mD
      rw [List.append_nil]
      exact List.perm_append_singleton _ _
end Go.Proofs.YtblfipdfklpmmaaGreatDoor
namespace Go.Proofs.YtblfipdfklpmmaaGreatDoor
open Go Go.RowKit Go.Sx
theorem RBM_mono {K K' : Nat} {A : List (List RR)} (h : RBM K A) (hk : K ≤ K') : RBM K' A := fun a ha => RB_mono (h a ha) hk
end Go.Proofs.YtblfipdfklpmmaaGreatDoor
namespace Go.Proofs.YtblfipdfklpmmaaGreatDoor
open Go Go.RowKit Go.Sx
theorem mC_row {α : Type} {R : List (Rw α)} {so : List Value} {i : Nat} (hi : i < R.length) : (R.map Rw.v ++ so)[i]? = some (R.getD i zRw).v := by
  rw [List.getElem?_append_left (by rw [List.length_map]; exact hi)]; exact mB_row hi
theorem mC_swp {α : Type} {enc : α → List Value} {tR tS : TypeId} {bo : Nat} {R R0 : List (Rw α)} {so : List Value} {H pre : List Blk} {w0 w : World} {p r : Nat} (hv : R.map Rw.v = R0.map Rw.v) (hp : p < R.length) (hr : r < R.length)
    (h : St w0 w (pre ++ mD enc tR tS bo (((R0.map Rw.v ++ so).set p (R0.getD r zRw).v).set r (R0.getD p zRw).v) R H)) : St w0 w (pre ++ mD enc tR tS bo ((swpL R p r).map Rw.v ++ so) (swpL R p r) H) := by
  have hl : R0.length = R.length := by have := congrArg List.length hv; rw [List.length_map, List.length_map] at this; exact this.symm
  have hvi : ∀ i, i < R.length → (R0.getD i zRw).v = (R.getD i zRw).v := fun i hi => by
    have h1 := mB_row (R := R) hi
    rw [hv, mB_row (by rw [hl]; exact hi)] at h1
    exact Option.some.inj h1
  have e : ((R0.map Rw.v ++ so).set p (R0.getD r zRw).v).set r (R0.getD p zRw).v = (swpL R p r).map Rw.v ++ so := by
    rw [hvi r hr, hvi p hp, ← hv, List.set_append_left _ _ (by rw [List.length_map]; exact hp), List.set_append_left _ _ (by rw [List.length_set, List.length_map]; exact hr)]
    unfold swpL
    rw [List.map_set, List.map_set]
  rw [e] at h
  refine h.perm (List.Perm.append_left _ (List.Perm.cons _ (List.Perm.append_right _ (List.Perm.map _ ?_))))
  unfold swpL
  rw [getD_ge R zRw hp, getD_ge R zRw hr]
  exact (List.set_set_perm hp hr).symm
theorem perm_row {α : Type} (A B : List α) (z : α) : (A ++ B ++ [z]).Perm (z :: A ++ B) := List.perm_append_singleton _ _
def zC (X : Mx) (r c : Nat) (a : Rat) (i k : Nat) : Mx := fun x b => if x = i ∧ b < k then X i b - X i c * (X r b / a) else elF X r c a i x b
set_option maxHeartbeats 16000000 in
theorem rechelon_ok (v : Value) (n m : Nat) (M : Mx) (vs : List Value) (K : Nat) (w : World) (hA : Mts encR 3 w v (tabM n m (qM M)) vs) (hn1 : 1 ≤ n) (hn : n ≤ 1000) (hm1 : 1 ≤ m) (hm : m ≤ 1000) (hL : ∀ i, i < n → ∀ j, j < m → L (M i j) ≤ K) (hK : 8 * BB K n ≤ MX) :
    Ret Tryz.prog 47 #[v] w fun u w' => (∃ vm vs' vp, u = .tuple #[vm, vp] ∧ Mts encR 3 w' vm (tabM n m (qM (rdc n M m).M)) vs' ∧ Sl enI 1 w' vp (nI (rdc n M m).P)) ∧ Below w.heap.size w w' := by
  have hM : MX = 1099511627776 := rfl
  have hlen := hA.len
  rw [tabM_len] at hlen
  have hS := St.init w
  refine enter Tryz.func47 rfl Tryz.ntmps47 rfl ?_
  repeat (with_reducible first | refine c_seq ?_ | refine c_block ?_ | refine c_skip ?_ | refine x_then ?_ | refine x_block ?_)
  refine c_reg ?_
  refine l_pure rfl (s_asg  rfl ?_)
  refine l_pure rfl (s_asg  rfl ?_)
  refine l_nil ?_
  repeat (with_reducible first | refine c_seq ?_ | refine c_block ?_ | refine c_skip ?_ | refine x_then ?_ | refine x_block ?_)
  refine c_reg ?_
  refine l_pure rfl (s_asg  rfl ?_)
  refine l_nil ?_
  repeat (with_reducible first | refine c_seq ?_ | refine c_block ?_ | refine c_skip ?_ | refine x_then ?_ | refine x_block ?_)
  refine c_reg ?_
  refine l_pure rfl (s_asg  rfl ?_)
  refine l_nil ?_
  repeat (with_reducible first | refine c_seq ?_ | refine c_block ?_ | refine c_skip ?_ | refine x_then ?_ | refine x_block ?_)
  refine c_reg ?_
  refine l_pure rfl (s_asg  rfl ?_)
  refine l_nil ?_
  repeat (with_reducible first | refine c_seq ?_ | refine c_skip ?_ | refine x_then ?_ | refine x_block ?_)
  refine c_cut1 (fun ρ w' => ρ 5 = .slice none 0 0 ∧ ∃ bo cap so R, ρ 4 = .slice (some ⟨bo, 0, none⟩) n cap ∧ n ≤ cap ∧ cap ≤ 9223372036854775807 ∧ MatG R n m (qM M) ∧ St w w' (mD encR 49 23 bo (R.map Rw.v ++ so) R [])) ?_ ?_
  · repeat (with_reducible first | refine c_seq ?_ | refine c_block ?_ | refine c_skip ?_ | refine x_then ?_ | refine x_block ?_)
    refine c_loop (σ := Nat) (fun i ρ w' => i ≤ n ∧ ρ 0 = v ∧ ρ 5 = .slice none 0 0 ∧ ρ 6 = .int .i64 i ∧ ∃ vo LO R, ρ 4 = vo ∧ MatG R i m (qM M) ∧ Gl enV 23 1 vo (R.map Rw.v) LO ∧ St w w' (R.map (Rw.blk encR 49) ++ LO)) (fun i => n - i) 0
      ⟨Nat.zero_le _, rfl, rfl, rfl, _, [], [], rfl, ⟨rfl, fun i hi => absurd hi (Nat.not_lt_zero _), fun i hi => absurd hi (Nat.not_lt_zero _)⟩, Gl.nil _ _ _, hS⟩ ?_
    clear hS
    rintro i ρ w2 ⟨hi, h0, h5, h6, vo, LO, R, h4, hR, hG, hS⟩
    have hvl : (R.map Rw.v).length = i := by rw [List.length_map, hR.len]
    repeat (with_reducible first | refine c_seq ?_ | refine c_block ?_ | refine c_skip ?_ | refine x_then ?_ | refine x_block ?_)
    refine c_reg ?_
    refine l_pure rfl (s_move  h6 ?_)
    refine l_pure rfl (s_move  h0 ?_)
    refine l_pure rfl (s_lenr  rfl (hA.sl.below hS.below) ⟨_, Tryz.underlying22⟩ ?_)
    refine l_pure rfl (s_lss  rfl rfl ?_)
    refine l_nil ?_
    repeat (with_reducible first | refine c_seq ?_ | refine c_block ?_ | refine c_skip ?_ | refine x_then ?_ | refine x_block ?_)
    by_cases hlt : i < n
    · refine c_yes rfl (decide_eq_true (by omega)) ?_
      repeat (with_reducible first | refine c_seq ?_ | refine c_block ?_ | refine c_skip ?_ | refine x_then ?_ | refine x_block ?_)
      have hri := hA.row i (by rw [tabM_len]; exact hlt)
      rw [tabM_row _ hlt] at hri
      have hrl := tab_len m (qM M i)
      repeat (with_reducible first | refine c_seq ?_ | refine c_block ?_ | refine c_skip ?_ | refine x_then ?_ | refine x_block ?_)
      refine c_reg ?_
      refine l_pure rfl (s_move  h4 ?_)
      refine l_pure rfl (s_move  h0 ?_)
      refine l_pure rfl (s_move  h6 ?_)
      refine l_pure rfl (s_ixr (i := i)  rfl rfl (hA.sl.below hS.below) (by omega) (by first | omega | (simp; done) | (simp; omega)) si_22 ?_)
      refine l_read rfl (s_lde (i := i) undef  rfl vi_23 (hA.sl.below hS.below) (by first | omega | (simp; done) | (simp; omega)) rfl rfl (.inr rfl) ?_)
      refine l_heavy rfl (s_appn  rfl rfl si_23 (by decide) hS (hri.below hS.below) encR_len (encR_one _) (by first | omega | (simp only [List.length_cons, List.length_nil]; omega)) (by first | omega | (simp only [List.length_cons, List.length_nil]; omega)) ?_)
      intro va1 La1 wa1 hGa hS hBa1
      obtain ⟨nr, hX, rfl, rfl, hc1, hc2, _⟩ := Gl_blk hGa (by intro e; have := congrArg List.length e; rw [tab_len] at this; simp at this; omega) ; replace hS := hS.perm (perm_row (R.map (Rw.blk encR 49)) LO (nr.blk encR 49))
      refine l_heavy rfl (s_bsl (vs := [nr.v])  rfl si_22 rfl (by decide) (by decide) (by decide) (by simp [Value.cells, Rw.v]) rfl hS ?_)
      intro b28 wz2 hS hBz2
      refine l_heavy rfl (s_appl [nr.v]  rfl rfl si_22 (by decide) hG hS rfl rfl (fun _ => rfl) (fun u hu => by rw [List.mem_singleton.1 (show u ∈ [nr.v] from hu)]; rfl) (by first | omega | (simp only [List.length_cons, List.length_nil]; omega)) (by first | omega | (simp only [List.length_cons, List.length_nil]; omega)) ?_)
      intro va3 La3 wa3 hG hS hga3
      refine l_pure rfl (s_asg  rfl ?_)
      refine l_nil ?_
      repeat (with_reducible first | refine c_seq ?_ | refine c_block ?_ | refine c_skip ?_ | refine x_then ?_ | refine x_block ?_)
      have hR2 := MatG_snoc hR hX ⟨by rw [hX, tab_len] at hc1; exact hc1, hc2⟩
      rw [show R.map Rw.v ++ [nr.v] = (R ++ [nr]).map Rw.v by rw [List.map_append]; rfl] at hG
      have eb : ∀ T : List Blk, (nr.blk encR 49 :: R.map (Rw.blk encR 49) ++ T).Perm ((R ++ [nr]).map (Rw.blk encR 49) ++ T) := by
        intro T
        rw [List.map_append]
        exact List.Perm.append_right _ (List.perm_append_singleton _ _).symm
      replace hS := hS.perm (eb _)
      repeat (with_reducible first | refine c_seq ?_ | refine c_block ?_ | refine c_skip ?_ | refine x_then ?_ | refine x_block ?_)
      refine c_reg ?_
      refine l_pure rfl (s_move  h6 ?_)
      refine l_pure rfl (s_add  rfl rfl (IntWalk.i64_in _ (by omega)) ?_)
      refine l_pure rfl (s_asg  rfl ?_)
      refine l_nil ?_
      repeat (with_reducible first | refine c_seq ?_ | refine c_block ?_ | refine c_skip ?_ | refine x_then ?_ | refine x_block ?_)
      exact ⟨i + 1, _, rfl, ⟨hlt, by assumption, by assumption, vi rfl (by omega), _, _, R ++ [nr], rfl, hR2, hG, hS⟩, by omega⟩
    · refine c_no rfl (decide_eq_false (by omega)) ?_
      repeat (with_reducible first | refine c_seq ?_ | refine c_block ?_ | refine c_skip ?_ | refine x_then ?_ | refine x_block ?_)
      refine c_exit ?_
      repeat (with_reducible first | refine x_then_exit ?_ | refine x_block_exit ?_ | refine x_block_pass rfl ?_)
      repeat (with_reducible first | refine c_seq ?_ | refine c_block ?_ | refine c_skip ?_ | refine x_then ?_ | refine x_block ?_)
      obtain rfl : n = i := by omega
      obtain ⟨_, ⟨_, h2, _⟩ | ⟨bo, cap, so, rfl, rfl, h5', h6', _⟩⟩ := hG
      · omega
      · rw [enV_flat] at hS
        rw [hvl] at h4 h5'
        refine ⟨_, rfl, h5, bo, cap, so, R, h4, h5', by unfold Go.maxLen at h6'; omega, hR, hS.perm ?_⟩
        unfold mD
        rw [List.append_nil]
        exact List.perm_append_singleton _ _
  clear hS
  rintro ρ w2 ⟨h5, bo, cap, so, R0, h4, hcap1, hcap2, hR0, hS⟩
  repeat (with_reducible first | refine c_seq ?_ | refine c_block ?_ | refine c_skip ?_ | refine x_then ?_ | refine x_block ?_)
  refine c_reg ?_
  refine l_pure rfl (s_asg  rfl ?_)
  refine l_nil ?_
  repeat (with_reducible first | refine c_seq ?_ | refine c_block ?_ | refine c_skip ?_ | refine x_then ?_ | refine x_block ?_)
  refine c_reg ?_
  refine l_pure rfl (s_asg  rfl ?_)
  refine l_nil ?_
  repeat (with_reducible first | refine c_seq ?_ | refine c_skip ?_ | refine x_then ?_ | refine x_block ?_)
  refine c_cut1 (fun ρ w' => ρ 4 = .slice (some ⟨bo, 0, none⟩) n cap ∧ ∃ vp LP R, ρ 5 = vp ∧ Gl enI 3 1 vp (nI (rdc n M m).P) LP ∧ MatG R n m (qM (rdc n M m).M) ∧ St w w' (mD encR 49 23 bo (R.map Rw.v ++ so) R LP)) ?_ ?_
  · repeat (with_reducible first | refine c_seq ?_ | refine c_block ?_ | refine c_skip ?_ | refine x_then ?_ | refine x_block ?_)
    refine c_loop (σ := Nat) (fun c ρ w' => c ≤ m ∧ ρ 4 = .slice (some ⟨bo, 0, none⟩) n cap ∧ ρ 7 = .int .i64 (rdc n M c).P.length ∧ ρ 8 = .int .i64 c ∧ ∃ vp LP R, ρ 5 = vp ∧ Gl enI 3 1 vp (nI (rdc n M c).P) LP ∧ MatG R n m (qM (rdc n M c).M) ∧ St w w' (mD encR 49 23 bo (R.map Rw.v ++ so) R LP)) (fun c => m - c) 0
      ⟨Nat.zero_le _, by assumption, rfl, rfl, _, [], R0, by assumption, Gl.nil _ _ _, hR0, hS⟩ ?_
    clear hS hR0
    rintro c ρ w3 ⟨hc, h4, h7, h8, vp, LP, R, h5, hG, hR, hS⟩
    have hlen := (rinv n M c).len
    obtain ⟨hB1, hB2⟩ := rdc_L hL c (by omega)
    obtain ⟨r, hr⟩ : ∃ r, r = (rdc n M c).P.length := ⟨_, rfl⟩
    have hpl := nI_len (rdc n M c).P
    rw [← hr] at hlen hB1 hB2 h7
    have hl0 : 0 < R.length := by rw [hR.len]; omega
    repeat (with_reducible first | refine c_seq ?_ | refine c_block ?_ | refine c_skip ?_ | refine x_then ?_ | refine x_block ?_)
    by_cases hrn : r < n
    · by_cases hcm : c < m
      · have htl0 := tab_len m (qM (rdc n M c).M 0)
        repeat (with_reducible first | refine c_seq ?_ | refine c_block ?_ | refine c_skip ?_ | refine x_then ?_ | refine x_block ?_)
        refine c_reg ?_
        refine l_pure rfl (s_move  h7 ?_)
        refine l_pure rfl (s_move  h4 ?_)
        refine l_pure rfl (s_leno  rfl ⟨_, Tryz.underlying22⟩ ?_)
        refine l_pure rfl (s_lss  rfl rfl ?_)
        refine l_pure rfl (s_move  rfl ?_)
        refine l_pure (gd_yes 34 (by kernel_rfl) rfl (decide_eq_true (by omega))) (s_move  h8 ?_)
        refine l_pure (gd_yes 34 (by kernel_rfl) rfl (decide_eq_true (by omega))) (s_move  h4 ?_)
        refine l_pure (gd_yes 34 (by kernel_rfl) rfl (decide_eq_true (by omega))) (s_ixo (i := 0)  rfl rfl (by omega) (by first | omega | (simp; done) | (simp; omega)) si_22 ?_)
        refine l_read (gd_yes 34 (by kernel_rfl) rfl (decide_eq_true (by omega))) (s_mrowD []  rfl vi_23 hS (by omega) (mC_row hl0) ?_)
        refine l_pure (gd_yes 34 (by kernel_rfl) rfl (decide_eq_true (by omega))) (s_lenr  rfl (hR.slD [] hS encR_len (by omega : 0 < n)) ⟨_, Tryz.underlying23⟩ ?_)
        refine l_pure (gd_yes 34 (by kernel_rfl) rfl (decide_eq_true (by omega))) (s_lss  rfl rfl ?_)
        refine l_pure rfl (s_pick (vb rfl (decide_eq_true (by omega))) rfl ?_)
        refine l_nil ?_
        repeat (with_reducible first | refine c_seq ?_ | refine c_block ?_ | refine c_skip ?_ | refine x_then ?_ | refine x_block ?_)
        refine c_yes rfl (decide_eq_true (by omega)) ?_
        repeat (with_reducible first | refine c_seq ?_ | refine c_block ?_ | refine c_skip ?_ | refine x_then ?_ | refine x_block ?_)
        refine c_reg ?_
        refine l_pure rfl (s_move  h7 ?_)
        refine l_pure rfl (s_asg  rfl ?_)
        refine l_nil ?_
        repeat (with_reducible first | refine c_seq ?_ | refine c_skip ?_ | refine x_then ?_ | refine x_block ?_)
        refine c_cut1 (fun ρ w' => ρ 4 = .slice (some ⟨bo, 0, none⟩) n cap ∧ ρ 5 = vp ∧ ρ 7 = .int .i64 r ∧ ρ 8 = .int .i64 c ∧ ρ 9 = .int .i64 (pv (rdc n M c).M c n r) ∧ St w w' (mD encR 49 23 bo (R.map Rw.v ++ so) R LP)) ?_ ?_
        · repeat (with_reducible first | refine c_seq ?_ | refine c_block ?_ | refine c_skip ?_ | refine x_then ?_ | refine x_block ?_)
          refine c_loop (σ := Nat) (fun p ρ w' => r ≤ p ∧ p ≤ n ∧ (∀ l, r ≤ l → l < p → (rdc n M c).M l c = 0) ∧ ρ 4 = .slice (some ⟨bo, 0, none⟩) n cap ∧ ρ 5 = vp ∧ ρ 7 = .int .i64 r ∧ ρ 8 = .int .i64 c ∧ ρ 9 = .int .i64 p ∧ St w w' (mD encR 49 23 bo (R.map Rw.v ++ so) R LP)) (fun p => n - p) r
            ⟨Nat.le_refl _, by omega, fun l h1 h2 => absurd h2 (by omega), by assumption, by assumption, by assumption, by assumption, rfl, hS⟩ ?_
          clear hS
          rintro p ρ w4 ⟨hrp, hpn, hz, h4, h5, h7, h8, h9, hS⟩
          repeat (with_reducible first | refine c_seq ?_ | refine c_block ?_ | refine c_skip ?_ | refine x_then ?_ | refine x_block ?_)
          by_cases hpl' : p < n
          · have hlp : p < R.length := by rw [hR.len]; exact hpl'
            have htlp := tab_len m (qM (rdc n M c).M p)
            have hgp : (tab m (qM (rdc n M c).M p)).getD c zRR = ofQ ((rdc n M c).M p c) := tab_get _ _ hcm
            repeat (with_reducible first | refine c_seq ?_ | refine c_block ?_ | refine c_skip ?_ | refine x_then ?_ | refine x_block ?_)
            refine c_reg ?_
            refine l_pure rfl (s_move  h9 ?_)
            refine l_pure rfl (s_move  h4 ?_)
            refine l_pure rfl (s_leno  rfl ⟨_, Tryz.underlying22⟩ ?_)
            refine l_pure rfl (s_lss  rfl rfl ?_)
            refine l_pure rfl (s_move  rfl ?_)
            refine l_pure (gd_yes 49 (by kernel_rfl) rfl (decide_eq_true (by omega))) (s_move  h4 ?_)
            refine l_pure (gd_yes 49 (by kernel_rfl) rfl (decide_eq_true (by omega))) (s_move  h9 ?_)
            refine l_pure (gd_yes 49 (by kernel_rfl) rfl (decide_eq_true (by omega))) (s_ixo (i := p)  rfl rfl (by omega) (by first | omega | (simp; done) | (simp; omega)) si_22 ?_)
            refine l_read (gd_yes 49 (by kernel_rfl) rfl (decide_eq_true (by omega))) (s_mrowD []  rfl vi_23 hS (by omega) (mC_row hlp) ?_)
            refine l_pure (gd_yes 49 (by kernel_rfl) rfl (decide_eq_true (by omega))) (s_move  h8 ?_)
            refine l_pure (gd_yes 49 (by kernel_rfl) rfl (decide_eq_true (by omega))) (s_ixr (i := c)  rfl rfl (hR.slD [] hS encR_len hpl') (by omega) (by first | omega | (simp; done) | (simp; omega)) si_23 ?_)
            refine l_pure (gd_yes 49 (by kernel_rfl) rfl (decide_eq_true (by omega))) (s_fldr  rfl (spot_el (hR.slD [] hS encR_len hpl') (fun _ => rfl) (by decide) (by first | omega | (simp; done) | (simp; omega))) fo_49_1 ?_)
            refine l_read (gd_yes 49 (by kernel_rfl) rfl (decide_eq_true (by omega))) (s_ldfe (i := c) (off := 1) zRR  rfl vi_9 (hR.slD [] hS encR_len hpl') (fun _ => rfl) (by decide) (by first | omega | (simp; done) | (simp; omega)) rfl rfl (.inr rfl) ?_)
            refine l_pure (gd_yes 49 (by kernel_rfl) rfl (decide_eq_true (by omega))) (s_eqs  rfl rfl ?_)
            refine l_pure rfl (s_pick (vb rfl (decide_eq_true (by omega))) rfl ?_)
            refine l_nil ?_
            repeat (with_reducible first | refine c_seq ?_ | refine c_block ?_ | refine c_skip ?_ | refine x_then ?_ | refine x_block ?_)
            rw [hgp]
            by_cases hzz : (rdc n M c).M p c = 0
            · refine c_yes rfl (decide_eq_true (ofQ_num_nil.2 hzz)) ?_
              repeat (with_reducible first | refine c_seq ?_ | refine c_block ?_ | refine c_skip ?_ | refine x_then ?_ | refine x_block ?_)
              refine c_reg ?_
              refine l_pure rfl (s_move  h9 ?_)
              refine l_pure rfl (s_add  rfl rfl (IntWalk.i64_in _ (by omega)) ?_)
              refine l_pure rfl (s_asg  rfl ?_)
              refine l_nil ?_
              repeat (with_reducible first | refine c_seq ?_ | refine c_block ?_ | refine c_skip ?_ | refine x_then ?_ | refine x_block ?_)
              exact ⟨p + 1, _, rfl, ⟨by omega, hpl', fun l h1 h2 => by
                by_cases e : l = p
                · rw [e]; exact hzz
                · exact hz l h1 (by omega), by assumption, by assumption, by assumption, by assumption, vi rfl (by omega), hS⟩, by omega⟩
            · refine c_no rfl (decide_eq_false (fun g => hzz (ofQ_num_nil.1 g))) ?_
              repeat (with_reducible first | refine c_seq ?_ | refine c_block ?_ | refine c_skip ?_ | refine x_then ?_ | refine x_block ?_)
              refine c_exit ?_
              repeat (with_reducible first | refine x_then_exit ?_ | refine x_block_exit ?_ | refine x_block_pass rfl ?_)
              repeat (with_reducible first | refine c_seq ?_ | refine c_block ?_ | refine c_skip ?_ | refine x_then ?_ | refine x_block ?_)
              have hp : pv (rdc n M c).M c n r = p := pv_uniq hrp (by omega) hz fun _ => hzz
              rw [hp]
              exact ⟨_, rfl, by assumption, by assumption, by assumption, by assumption, by assumption, hS⟩
          · repeat (with_reducible first | refine c_seq ?_ | refine c_block ?_ | refine c_skip ?_ | refine x_then ?_ | refine x_block ?_)
            refine c_reg ?_
            refine l_pure rfl (s_move  h9 ?_)
            refine l_pure rfl (s_move  h4 ?_)
            refine l_pure rfl (s_leno  rfl ⟨_, Tryz.underlying22⟩ ?_)
            refine l_pure rfl (s_lss  rfl rfl ?_)
            refine l_pure rfl (s_move  rfl ?_)
            refine l_no (gno_yes 49 (by kernel_rfl) rfl (decide_eq_false (by omega))) ?_
            refine l_no (gno_yes 49 (by kernel_rfl) rfl (decide_eq_false (by omega))) ?_
            refine l_no (gno_yes 49 (by kernel_rfl) rfl (decide_eq_false (by omega))) ?_
            refine l_no (gno_yes 49 (by kernel_rfl) rfl (decide_eq_false (by omega))) ?_
            refine l_no (gno_yes 49 (by kernel_rfl) rfl (decide_eq_false (by omega))) ?_
            refine l_no (gno_yes 49 (by kernel_rfl) rfl (decide_eq_false (by omega))) ?_
            refine l_no (gno_yes 49 (by kernel_rfl) rfl (decide_eq_false (by omega))) ?_
            refine l_no (gno_yes 49 (by kernel_rfl) rfl (decide_eq_false (by omega))) ?_
            refine l_no (gno_yes 49 (by kernel_rfl) rfl (decide_eq_false (by omega))) ?_
            refine l_pure rfl (s_pick (vb rfl (decide_eq_false (by omega))) rfl ?_)
            refine l_nil ?_
            repeat (with_reducible first | refine c_seq ?_ | refine c_block ?_ | refine c_skip ?_ | refine x_then ?_ | refine x_block ?_)
            refine c_no rfl (rfl) ?_
            repeat (with_reducible first | refine c_seq ?_ | refine c_block ?_ | refine c_skip ?_ | refine x_then ?_ | refine x_block ?_)
            refine c_exit ?_
            repeat (with_reducible first | refine x_then_exit ?_ | refine x_block_exit ?_ | refine x_block_pass rfl ?_)
            repeat (with_reducible first | refine c_seq ?_ | refine c_block ?_ | refine c_skip ?_ | refine x_then ?_ | refine x_block ?_)
            obtain rfl : n = p := by omega
            have hp : pv (rdc n M c).M c n r = n := pv_uniq hrp (Nat.le_refl _) hz fun h => absurd h (Nat.lt_irrefl _)
            rw [hp]
            exact ⟨_, rfl, by assumption, by assumption, by assumption, by assumption, by assumption, hS⟩
        clear hS
        rintro ρ w4 ⟨h4, h5, h7, h8, h9, hS⟩
        obtain ⟨p, hp⟩ : ∃ p, p = pv (rdc n M c).M c n r := ⟨_, rfl⟩
        have hps := pv_spec (rdc n M c).M c (n := n) (r := r) (by omega)
        rw [← hp] at hps h9
        obtain ⟨hrp, hpn', _, ha⟩ := hps
        repeat (with_reducible first | refine c_seq ?_ | refine c_block ?_ | refine c_skip ?_ | refine x_then ?_ | refine x_block ?_)
        refine c_reg ?_
        refine l_pure rfl (s_move  h9 ?_)
        refine l_pure rfl (s_move  h4 ?_)
        refine l_pure rfl (s_leno  rfl ⟨_, Tryz.underlying22⟩ ?_)
        refine l_pure rfl (s_eql  rfl rfl ?_)
        refine l_nil ?_
        repeat (with_reducible first | refine c_seq ?_ | refine c_block ?_ | refine c_skip ?_ | refine x_then ?_ | refine x_block ?_)
        by_cases hpn : p < n
        · refine c_no rfl (decide_eq_false (by omega)) ?_
          repeat (with_reducible first | refine c_seq ?_ | refine c_block ?_ | refine c_skip ?_ | refine x_then ?_ | refine x_block ?_)
          replace ha := ha hpn
          have hyes := rstp_yes (n := n) (c := c) (M := M) (by rw [← hr, ← hp]; exact hpn)
          rw [← hr, ← hp] at hyes
          obtain ⟨s, hs⟩ : ∃ s, s = rdc n M c := ⟨_, rfl⟩
          rw [← hs] at hyes hB1 hB2 hR hG ha hr hpl
          obtain ⟨a, ha'⟩ : ∃ a, a = s.M p c := ⟨_, rfl⟩
          obtain ⟨X, hX⟩ : ∃ X, X = swpR s.M r p := ⟨_, rfl⟩
          rw [← ha', ← hX] at hyes
          rw [← ha'] at ha
          have hbm := BB_mono K (r := r + 1) (s := n) hrn
          rw [BB_succ] at hbm
          obtain ⟨b, hb⟩ : ∃ b, b = BB K r := ⟨_, rfl⟩
          rw [← hb] at hB1 hB2 hbm
          have hLs : ∀ i, i < n → ∀ j, j < m → L (s.M i j) ≤ b - 1 := fun i hi j hj => by have := hB1 i hi j hj; omega
          have hLX : ∀ i, i < n → ∀ j, j < m → L (X i j) ≤ b - 1 := by rw [hX]; exact L_swp hpn hrn hLs
          have hLa : L a ≤ b - 1 := by rw [ha']; exact hLs p hpn c (by omega)
          have hb1 : 1 ≤ b := by have := hB1 p hpn c (by omega); omega
          have hXa : X r c = a := by rw [hX, ha', swpR_at]
          have hlp : p < R.length := by rw [hR.len]; exact hpn
          have hlr : r < R.length := by rw [hR.len]; exact hrn
          obtain ⟨bp, hbp⟩ : ∃ x, x = (R.getD p zRw).b := ⟨_, rfl⟩
          obtain ⟨cp, hcp⟩ : ∃ x, x = (R.getD p zRw).cap := ⟨_, rfl⟩
          have hvp := hR.v hpn
          rw [← hbp, ← hcp] at hvp
          obtain ⟨cs, hcs⟩ : ∃ cs, cs = (R.map Rw.v ++ so).set p (R.getD r zRw).v := ⟨_, rfl⟩
          have htp := tab_len m (qM s.M p)
          have hgp : (tab m (qM s.M p)).getD c zRR = ofQ a := by rw [tab_get _ _ hcm, ha']
          have hcl : (R.map Rw.v ++ so).length = n + so.length := by rw [List.length_append, List.length_map, hR.len]
          repeat (with_reducible first | refine c_seq ?_ | refine c_block ?_ | refine c_skip ?_ | refine x_then ?_ | refine x_block ?_)
          refine c_reg ?_
          refine l_pure rfl (s_move  h4 ?_)
          refine l_pure rfl (s_move  h9 ?_)
          refine l_pure rfl (s_ixo (i := p)  rfl rfl (by omega) (by first | omega | (simp; done) | (simp; omega)) si_22 ?_)
          refine l_read rfl (s_mrowD []  rfl vi_23 hS (by omega) (mC_row hlp) ?_)
          refine l_pure rfl (s_asg  rfl ?_)
          refine l_nil ?_
          repeat (with_reducible first | refine c_seq ?_ | refine c_block ?_ | refine c_skip ?_ | refine x_then ?_ | refine x_block ?_)
          refine c_reg ?_
          refine l_pure rfl (s_move  h4 ?_)
          refine l_pure rfl (s_move  h9 ?_)
          refine l_pure rfl (s_move  h4 ?_)
          refine l_pure rfl (s_move  h7 ?_)
          refine l_pure rfl (s_ixo (i := r)  rfl rfl (by omega) (by first | omega | (simp; done) | (simp; omega)) si_22 ?_)
          refine l_read rfl (s_mrowD []  rfl vi_23 hS (by omega) (mC_row hlr) ?_)
          refine l_pure rfl (s_ixo (i := p)  rfl rfl (by omega) (by first | omega | (simp; done) | (simp; omega)) si_22 ?_)
          refine l_heavy rfl (s_mrowstP [] (i := p)  rfl rfl vi_23 hS (by omega) (by omega) (Rw_one _) ?_)
          intro wz4 hS
          refine l_nil ?_
          repeat (with_reducible first | refine c_seq ?_ | refine c_block ?_ | refine c_skip ?_ | refine x_then ?_ | refine x_block ?_)
          replace hS : St w _ (mD encR 49 23 bo ((R.map Rw.v ++ so).set p (R.getD r zRw).v) R LP) := hS
          rw [← hcs] at hS
          rw [hvp]
          have hrow := hR.slD [] hS encR_len hpn
          rw [hvp] at hrow
          repeat (with_reducible first | refine c_seq ?_ | refine c_block ?_ | refine c_skip ?_ | refine x_then ?_ | refine x_block ?_)
          refine c_reg ?_
          refine l_pure rfl (s_move  rfl ?_)
          refine l_pure rfl (s_move  h8 ?_)
          refine l_pure rfl (s_ixr (i := c)  rfl rfl hrow (by omega) (by first | omega | (simp; done) | (simp; omega)) si_23 ?_)
          refine l_read rfl (s_lde (i := c) zRR  rfl vi_49 hrow (by first | omega | (simp; done) | (simp; omega)) rfl rfl (.inl rfl) ?_)
          refine l_heavy rfl (s_alloc  vi_49 hS ?_)
          intro b11 wz5 hS hBz5
          refine l_heavy rfl (s_sta (k := 0)  rfl rfl vi_49 hS rfl rfl rfl (Nat.le_of_ble_eq_true rfl) rfl ?_)
          intro wz6 hS
          refine l_nil ?_
          repeat (with_reducible first | refine c_seq ?_ | refine c_block ?_ | refine c_skip ?_ | refine x_then ?_ | refine x_block ?_)
          rw [hgp] at hS
          replace hS : St w _ ([(b11, 49, encR (ofQ a))] ++ mD encR 49 23 bo cs R LP) := hS
          repeat (with_reducible first | refine c_seq ?_ | refine c_block ?_ | refine c_skip ?_ | refine x_then ?_ | refine x_block ?_)
          refine c_forget (fun ρ' => ρ' 4 = .slice (some ⟨bo, 0, none⟩) n cap ∧ ρ' 5 = vp ∧ ρ' 7 = .int .i64 r ∧ ρ' 8 = .int .i64 c ∧ ρ' 10 = .slice (some ⟨bp, 0, none⟩) m cp ∧ ρ' 11 = .pointer (some ⟨b11, 0, none⟩) ∧ True) ⟨h4, h5, h7, h8, rfl, rfl, trivial⟩ ?_
          rintro ρk7 ⟨hk7_4, hk7_5, hk7_7, hk7_8, hk7_10, hk7_11, -⟩
          repeat (with_reducible first | refine c_seq ?_ | refine c_block ?_ | refine c_skip ?_ | refine x_then ?_ | refine x_block ?_)
          refine c_reg ?_
          refine l_pure rfl (s_asg  rfl ?_)
          refine l_nil ?_
          repeat (with_reducible first | refine c_seq ?_ | refine c_skip ?_ | refine x_then ?_ | refine x_block ?_)
          refine c_cut1 (fun ρ w' => ρ 4 = .slice (some ⟨bo, 0, none⟩) n cap ∧ ρ 5 = vp ∧ ρ 7 = .int .i64 r ∧ ρ 8 = .int .i64 c ∧ ρ 10 = .slice (some ⟨bp, 0, none⟩) m cp ∧
            ∃ R', R'.map Rw.v = R.map Rw.v ∧ (R'.getD p zRw).b = bp ∧ (R'.getD p zRw).cap = cp ∧ MatG R' n m (qM (divF s.M p a m)) ∧ St w w' (mD encR 49 23 bo cs R' LP)) ?_ ?_
          · repeat (with_reducible first | refine c_seq ?_ | refine c_block ?_ | refine c_skip ?_ | refine x_then ?_ | refine x_block ?_)
            refine c_loop (σ := Nat) (fun k ρ w' => k ≤ m ∧ ρ 4 = .slice (some ⟨bo, 0, none⟩) n cap ∧ ρ 5 = vp ∧ ρ 7 = .int .i64 r ∧ ρ 8 = .int .i64 c ∧ ρ 10 = .slice (some ⟨bp, 0, none⟩) m cp ∧ ρ 11 = .pointer (some ⟨b11, 0, none⟩) ∧ ρ 12 = .int .i64 k ∧
              ∃ R', R'.map Rw.v = R.map Rw.v ∧ (R'.getD p zRw).b = bp ∧ (R'.getD p zRw).cap = cp ∧ MatG R' n m (qM (divF s.M p a k)) ∧ St w w' ([(b11, 49, encR (ofQ a))] ++ mD encR 49 23 bo cs R' LP)) (fun k => m - k) 0
              ⟨Nat.zero_le _, by assumption, by assumption, by assumption, by assumption, by assumption, by assumption, rfl, R, rfl, hbp.symm, hcp.symm, hR.congr fun i _ j _ => by show ofQ (s.M i j) = ofQ (divF s.M p a 0 i j); unfold divF; rw [if_neg (by omega)], hS⟩ ?_
            clear hS hrow
            rintro k ρ w5 ⟨hk, h4, h5, h7, h8, h10, h11, h12, R', hmv, hb', hc', hR', hS⟩
            have hlp' : p < R'.length := by rw [hR'.len]; exact hpn
            have hvk := hR'.v hpn
            rw [hb', hc'] at hvk
            have hrow := fun wx (h : St w wx ([(b11, 49, encR (ofQ a))] ++ mD encR 49 23 bo cs R' LP)) => hR'.slD [(b11, 49, encR (ofQ a))] h encR_len hpn
            rw [hvk] at hrow
            have htk := tab_len m (qM (divF s.M p a k) p)
            have hxk := hR'.xlen hpn
            repeat (with_reducible first | refine c_seq ?_ | refine c_block ?_ | refine c_skip ?_ | refine x_then ?_ | refine x_block ?_)
            refine c_reg ?_
            refine l_pure rfl (s_move  h12 ?_)
            refine l_pure rfl (s_move  h10 ?_)
            refine l_pure rfl (s_leno  rfl ⟨_, Tryz.underlying23⟩ ?_)
            refine l_pure rfl (s_lss  rfl rfl ?_)
            refine l_nil ?_
            repeat (with_reducible first | refine c_seq ?_ | refine c_block ?_ | refine c_skip ?_ | refine x_then ?_ | refine x_block ?_)
            by_cases hkl : k < m
            · refine c_yes rfl (decide_eq_true (by omega)) ?_
              repeat (with_reducible first | refine c_seq ?_ | refine c_block ?_ | refine c_skip ?_ | refine x_then ?_ | refine x_block ?_)
              have hgk : (tab m (qM (divF s.M p a k) p)).getD k zRR = ofQ (s.M p k) := by rw [tab_get _ _ hkl]; show ofQ (divF s.M p a k p k) = _; unfold divF; rw [if_neg (by omega)]
              have hLk := hLs p hpn k hkl
              have hov := fun w => rOver_ok (s.M p k) a w (by omega) ha
              repeat (with_reducible first | refine c_seq ?_ | refine c_block ?_ | refine c_skip ?_ | refine x_then ?_ | refine x_block ?_)
              refine c_draw [(0, .pure), (1, .pure), (2, .pure), (3, .pure), (4, .pure), (5, .read), (6, .read), (7, .grow), (8, .pure), (9, .free)] (by kernel_rfl) (by kernel_rfl) hS ?_
              intro wz8 hS hBz8
              refine w_pure rfl rfl (s_move  h10 ?_)
              refine w_pure rfl rfl (s_move  h12 ?_)
              refine w_pure rfl rfl (s_move  h10 ?_)
              refine w_pure rfl rfl (s_move  h12 ?_)
              refine w_pure rfl rfl (s_ixr (i := k)  rfl rfl (hrow _ hS) (by omega) (by first | omega | (simp; done) | (simp; omega)) si_23 ?_)
              refine w_read rfl rfl (s_lde (i := k) zRR  rfl vi_49 (hrow _ hS) (by first | omega | (simp; done) | (simp; omega)) rfl rfl (.inl rfl) ?_)
              refine w_read rfl rfl (s_ldo (k := 0)  h11 vi_49 hS rfl rfl rfl (.inl rfl) ?_)
              rw [hgk]
              refine w_grow rfl rfl (s_call Tryz.call51 rfl (hov _) ?_)
              rintro _ wc9 ⟨rfl, hBc9⟩
              replace hS := hS.grow hBc9
              refine ⟨hBc9, ?_⟩
              refine w_pure rfl rfl (s_ixo (i := k) rfl rfl (by omega) (by omega) si_23 ?_)
              refine w_free rfl rfl (s_mstD [_] (i := p) (j := k) (ofQ (s.M p k / a)) encR_len  rfl rfl vi_49 hS hb' hlp' (by omega) (by omega) rfl rfl ?_)
              intro wz10 hS
              refine w_end ?_
              repeat (with_reducible first | refine c_seq ?_ | refine c_block ?_ | refine c_skip ?_ | refine x_then ?_ | refine x_block ?_)
              refine c_reg ?_
              refine l_pure rfl (s_move  h12 ?_)
              refine l_pure rfl (s_add  rfl rfl (IntWalk.i64_in _ (by omega)) ?_)
              refine l_pure rfl (s_asg  rfl ?_)
              refine l_nil ?_
              repeat (with_reducible first | refine c_seq ?_ | refine c_block ?_ | refine c_skip ?_ | refine x_then ?_ | refine x_block ?_)
              refine ⟨k + 1, _, rfl, ⟨hkl, by assumption, by assumption, by assumption, by assumption, by assumption, by assumption, vi rfl (by omega), _, ?_, ?_, ?_, (hR'.put hpn k (ofQ (s.M p k / a))).congr fun i _ j _ => ?_, hS⟩, by omega⟩
              · rw [map_put_v R' k _ hlp']; exact hmv
              · rw [getD_setL _ _ _ hlp', if_pos rfl]; exact hb'
              · rw [getD_setL _ _ _ hlp', if_pos rfl]; exact hc'
              · show (if i = p ∧ j = k then ofQ (s.M p k / a) else ofQ (divF s.M p a k i j)) = ofQ (divF s.M p a (k + 1) i j)
                unfold divF
                by_cases g : i = p ∧ j = k
                · rw [if_pos g, if_pos (by omega), g.2]
                · rw [if_neg g]
                  by_cases g2 : i = p ∧ j < k
                  · rw [if_pos g2, if_pos (by omega)]
                  · rw [if_neg g2, if_neg (by omega)]
            · refine c_no rfl (decide_eq_false (by omega)) ?_
              repeat (with_reducible first | refine c_seq ?_ | refine c_block ?_ | refine c_skip ?_ | refine x_then ?_ | refine x_block ?_)
              refine c_exit ?_
              repeat (with_reducible first | refine x_then_exit ?_ | refine x_block_exit ?_ | refine x_block_pass rfl ?_)
              repeat (with_reducible first | refine c_seq ?_ | refine c_block ?_ | refine c_skip ?_ | refine x_then ?_ | refine x_block ?_)
              obtain rfl : m = k := by omega
              exact ⟨_, rfl, h4, h5, h7, h8, h10, R', hmv, hb', hc', hR', hS.drop (List.sublist_cons_self _ _)⟩
          clear hS hrow
          rintro ρ w5 ⟨h4, h5, h7, h8, h10, R1, hmv, hb1', hc1', hR1, hS⟩
          have hl1p : p < R1.length := by rw [hR1.len]; exact hpn
          have hl1r : r < R1.length := by rw [hR1.len]; exact hrn
          have hcsl : cs.length = n + so.length := by rw [hcs, List.length_set]; exact hcl
          repeat (with_reducible first | refine c_seq ?_ | refine c_block ?_ | refine c_skip ?_ | refine x_then ?_ | refine x_block ?_)
          refine c_reg ?_
          refine l_pure rfl (s_move  h4 ?_)
          refine l_pure rfl (s_move  h7 ?_)
          refine l_pure rfl (s_move  h10 ?_)
          refine l_pure rfl (s_ixo (i := r)  rfl rfl (by omega) (by first | omega | (simp; done) | (simp; omega)) si_22 ?_)
          refine l_heavy rfl (s_mrowstP [] (i := r)  rfl rfl vi_23 hS (by omega) (by omega) rfl ?_)
          intro wz11 hS
          refine l_nil ?_
          repeat (with_reducible first | refine c_seq ?_ | refine c_block ?_ | refine c_skip ?_ | refine x_then ?_ | refine x_block ?_)
          have hvp0 : (R.getD p zRw).v = .slice (some ⟨bp, 0, none⟩) m cp := hvp
          rw [← hvp0, hcs] at hS
          replace hS : St w _ ([] ++ mD encR 49 23 bo ((swpL R1 p r).map Rw.v ++ so) (swpL R1 p r) LP) := mC_swp (pre := []) hmv hl1p hl1r hS
          obtain ⟨R2, hR2d⟩ : ∃ R2, R2 = swpL R1 p r := ⟨_, rfl⟩
          have hrv : (R2.getD r zRw).b = bp ∧ (R2.getD r zRw).cap = cp := by rw [hR2d, swpL_get R1 hl1p hl1r, if_pos rfl]; exact ⟨hb1', hc1'⟩
          have hR2 : MatG R2 n m (qM (elF X r c a 0)) := by
            rw [hR2d]
            refine (hR1.swp hpn hrn).congr fun i _ j hj => ?_
            show (if i = r then ofQ (divF s.M p a m p j) else if i = p then ofQ (divF s.M p a m r j) else ofQ (divF s.M p a m i j)) = ofQ (elF X r c a 0 i j)
            unfold divF elF
            by_cases e : i = r
            · rw [if_pos e, if_pos ⟨rfl, hj⟩, if_pos e, hX, swpR_at]
            · rw [if_neg e, if_neg e, if_neg (Nat.not_lt_zero _), hX]
              by_cases e2 : i = p
              · rw [if_pos e2, if_neg (by omega), e2, swpR_at2]
              · rw [if_neg e2, if_neg (by omega), swpR_ne _ e e2]
          rw [← hR2d] at hS
          clear hR1 hmv hb1' hc1' hl1p hl1r
          repeat (with_reducible first | refine c_seq ?_ | refine c_block ?_ | refine c_skip ?_ | refine x_then ?_ | refine x_block ?_)
          refine c_reg ?_
          refine l_pure rfl (s_asg  rfl ?_)
          refine l_nil ?_
          repeat (with_reducible first | refine c_seq ?_ | refine c_skip ?_ | refine x_then ?_ | refine x_block ?_)
          refine c_cut1 (fun ρ w' => ρ 4 = .slice (some ⟨bo, 0, none⟩) n cap ∧ ρ 5 = vp ∧ ρ 7 = .int .i64 r ∧ ρ 8 = .int .i64 c ∧ ∃ R, MatG R n m (qM (elF X r c a n)) ∧ St w w' (mD encR 49 23 bo (R.map Rw.v ++ so) R LP)) ?_ ?_
          · repeat (with_reducible first | refine c_seq ?_ | refine c_block ?_ | refine c_skip ?_ | refine x_then ?_ | refine x_block ?_)
            refine c_loop (σ := Nat) (fun i ρ w' => i ≤ n ∧ ρ 4 = .slice (some ⟨bo, 0, none⟩) n cap ∧ ρ 5 = vp ∧ ρ 7 = .int .i64 r ∧ ρ 8 = .int .i64 c ∧ ρ 10 = .slice (some ⟨bp, 0, none⟩) m cp ∧ ρ 13 = .int .i64 i ∧
              ∃ R, (R.getD r zRw).b = bp ∧ (R.getD r zRw).cap = cp ∧ MatG R n m (qM (elF X r c a i)) ∧ St w w' (mD encR 49 23 bo (R.map Rw.v ++ so) R LP)) (fun i => n - i) 0
              ⟨Nat.zero_le _, by assumption, by assumption, by assumption, by assumption, by assumption, rfl, R2, hrv.1, hrv.2, hR2, hS⟩ ?_
            clear hS hR2 hrv
            rintro i ρ w6 ⟨hi, h4, h5, h7, h8, h10, h13, R3, hb3, hc3, hR3, hS⟩
            repeat (with_reducible first | refine c_seq ?_ | refine c_block ?_ | refine c_skip ?_ | refine x_then ?_ | refine x_block ?_)
            refine c_reg ?_
            refine l_pure rfl (s_move  h13 ?_)
            refine l_pure rfl (s_move  h4 ?_)
            refine l_pure rfl (s_leno  rfl ⟨_, Tryz.underlying22⟩ ?_)
            refine l_pure rfl (s_lss  rfl rfl ?_)
            refine l_nil ?_
            repeat (with_reducible first | refine c_seq ?_ | refine c_block ?_ | refine c_skip ?_ | refine x_then ?_ | refine x_block ?_)
            by_cases hin : i < n
            · refine c_yes rfl (decide_eq_true (by omega)) ?_
              repeat (with_reducible first | refine c_seq ?_ | refine c_block ?_ | refine c_skip ?_ | refine x_then ?_ | refine x_block ?_)
              have hl3 : i < R3.length := by rw [hR3.len]; exact hin
              have ht3 := tab_len m (qM (elF X r c a i) i)
              have hstep : ∀ x, x < n → ∀ j, x ≠ i → elF X r c a i x j = elF X r c a (i + 1) x j := by
                intro x _ j hne
                unfold elF
                by_cases e : x = r
                · rw [if_pos e, if_pos e]
                · rw [if_neg e, if_neg e]
                  by_cases e2 : x < i
                  · rw [if_pos e2, if_pos (by omega)]
                  · rw [if_neg e2, if_neg (by omega)]
              repeat (with_reducible first | refine c_seq ?_ | refine c_block ?_ | refine c_skip ?_ | refine x_then ?_ | refine x_block ?_)
              refine c_reg ?_
              refine l_pure rfl (s_move  h4 ?_)
              refine l_pure rfl (s_move  h13 ?_)
              refine l_pure rfl (s_ixo (i := i)  rfl rfl (by omega) (by first | omega | (simp; done) | (simp; omega)) si_22 ?_)
              refine l_read rfl (s_mrowD []  rfl vi_23 hS (by omega) (mC_row hl3) ?_)
              refine l_pure rfl (s_move  h8 ?_)
              refine l_pure rfl (s_ixr (i := c)  rfl rfl (hR3.slD [] hS encR_len hin) (by omega) (by first | omega | (simp; done) | (simp; omega)) si_23 ?_)
              refine l_read rfl (s_lde (i := c) zRR  rfl vi_49 (hR3.slD [] hS encR_len hin) (by first | omega | (simp; done) | (simp; omega)) rfl rfl (.inl rfl) ?_)
              refine l_heavy rfl (s_alloc  vi_49 hS ?_)
              intro b14 wz12 hS hBz12
              refine l_heavy rfl (s_sta (k := 0)  rfl rfl vi_49 hS rfl rfl rfl (Nat.le_of_ble_eq_true rfl) rfl ?_)
              intro wz13 hS
              refine l_nil ?_
              repeat (with_reducible first | refine c_seq ?_ | refine c_block ?_ | refine c_skip ?_ | refine x_then ?_ | refine x_block ?_)
              by_cases hir : i = r
              · repeat (with_reducible first | refine c_seq ?_ | refine c_block ?_ | refine c_skip ?_ | refine x_then ?_ | refine x_block ?_)
                refine c_reg ?_
                refine l_pure rfl (s_move  h13 ?_)
                refine l_pure rfl (s_move  h7 ?_)
                refine l_pure rfl (s_eql  rfl rfl ?_)
                refine l_pure rfl (s_move  rfl ?_)
                refine l_no (gno_yes 116 (by kernel_rfl) rfl (decide_eq_true (by omega))) ?_
                refine l_no (gno_yes 116 (by kernel_rfl) rfl (decide_eq_true (by omega))) ?_
                refine l_no (gno_yes 116 (by kernel_rfl) rfl (decide_eq_true (by omega))) ?_
                refine l_pure rfl (s_pick (vb rfl (decide_eq_true (by omega))) rfl ?_)
                refine l_nil ?_
                repeat (with_reducible first | refine c_seq ?_ | refine c_block ?_ | refine c_skip ?_ | refine x_then ?_ | refine x_block ?_)
                refine c_yes rfl (rfl) ?_
                repeat (with_reducible first | refine c_seq ?_ | refine c_block ?_ | refine c_skip ?_ | refine x_then ?_ | refine x_block ?_)
                refine c_exit ?_
                repeat (with_reducible first | refine x_then_exit ?_ | refine x_block_exit ?_ | refine x_block_pass rfl ?_)
                repeat (with_reducible first | refine c_seq ?_ | refine c_block ?_ | refine c_skip ?_ | refine x_then ?_ | refine x_block ?_)
                refine c_reg ?_
                refine l_pure rfl (s_move  h13 ?_)
                refine l_pure rfl (s_add  rfl rfl (IntWalk.i64_in _ (by omega)) ?_)
                refine l_pure rfl (s_asg  rfl ?_)
                refine l_nil ?_
                repeat (with_reducible first | refine c_seq ?_ | refine c_block ?_ | refine c_skip ?_ | refine x_then ?_ | refine x_block ?_)
                refine ⟨i + 1, _, rfl, ⟨hin, by assumption, by assumption, by assumption, by assumption, by assumption, vi rfl (by omega), R3, hb3, hc3, hR3.congr fun x hx j _ => ?_, hS.drop (List.sublist_cons_self _ _)⟩, by omega⟩
                show ofQ (elF X r c a i x j) = ofQ (elF X r c a (i + 1) x j)
                by_cases e : x = i
                · unfold elF; rw [if_pos (by omega), if_pos (by omega)]
                · rw [hstep x hx j e]
              · have hgi : (tab m (qM (elF X r c a i) i)).getD c zRR = ofQ (X i c) := by rw [tab_get _ _ hcm]; show ofQ (elF X r c a i i c) = _; unfold elF; rw [if_neg hir, if_neg (Nat.lt_irrefl _)]
                rw [hgi] at hS
                replace hS : St w _ ([(b14, 49, encR (ofQ (X i c)))] ++ mD encR 49 23 bo (R3.map Rw.v ++ so) R3 LP) := hS
                repeat (with_reducible first | refine c_seq ?_ | refine c_block ?_ | refine c_skip ?_ | refine x_then ?_ | refine x_block ?_)
                refine c_reg ?_
                refine l_pure rfl (s_move  h13 ?_)
                refine l_pure rfl (s_move  h7 ?_)
                refine l_pure rfl (s_eql  rfl rfl ?_)
                refine l_pure rfl (s_move  rfl ?_)
                refine l_pure (gd_yes 116 (by kernel_rfl) rfl (decide_eq_false (by omega))) (s_fld  rfl fo_49_1 ?_)
                refine l_read (gd_yes 116 (by kernel_rfl) rfl (decide_eq_false (by omega))) (s_ldo (k := 0)  rfl vi_9 hS rfl rfl rfl (.inr rfl) ?_)
                refine l_pure (gd_yes 116 (by kernel_rfl) rfl (decide_eq_false (by omega))) (s_eqs  rfl rfl ?_)
                refine l_pure rfl (s_pick (vb rfl (decide_eq_false (by omega))) rfl ?_)
                refine l_nil ?_
                repeat (with_reducible first | refine c_seq ?_ | refine c_block ?_ | refine c_skip ?_ | refine x_then ?_ | refine x_block ?_)
                by_cases hz : X i c = 0
                · refine c_yes rfl (decide_eq_true (ofQ_num_nil.2 hz)) ?_
                  repeat (with_reducible first | refine c_seq ?_ | refine c_block ?_ | refine c_skip ?_ | refine x_then ?_ | refine x_block ?_)
                  refine c_exit ?_
                  repeat (with_reducible first | refine x_then_exit ?_ | refine x_block_exit ?_ | refine x_block_pass rfl ?_)
                  repeat (with_reducible first | refine c_seq ?_ | refine c_block ?_ | refine c_skip ?_ | refine x_then ?_ | refine x_block ?_)
                  refine c_reg ?_
                  refine l_pure rfl (s_move  h13 ?_)
                  refine l_pure rfl (s_add  rfl rfl (IntWalk.i64_in _ (by omega)) ?_)
                  refine l_pure rfl (s_asg  rfl ?_)
                  refine l_nil ?_
                  repeat (with_reducible first | refine c_seq ?_ | refine c_block ?_ | refine c_skip ?_ | refine x_then ?_ | refine x_block ?_)
                  refine ⟨i + 1, _, rfl, ⟨hin, by assumption, by assumption, by assumption, by assumption, by assumption, vi rfl (by omega), R3, hb3, hc3, hR3.congr fun x hx j _ => ?_, hS.drop (List.sublist_cons_self _ _)⟩, by omega⟩
                  show ofQ (elF X r c a i x j) = ofQ (elF X r c a (i + 1) x j)
                  by_cases e : x = i
                  · rw [e]; unfold elF; rw [if_neg hir, if_neg hir, if_neg (Nat.lt_irrefl _), if_pos (Nat.lt_succ_self _), hz]; congr 1; grind
                  · rw [hstep x hx j e]
                · refine c_no rfl (decide_eq_false (fun g => hz (ofQ_num_nil.1 g))) ?_
                  repeat (with_reducible first | refine c_seq ?_ | refine c_block ?_ | refine c_skip ?_ | refine x_then ?_ | refine x_block ?_)
                  refine c_forget (fun ρ' => ρ' 4 = .slice (some ⟨bo, 0, none⟩) n cap ∧ ρ' 5 = vp ∧ ρ' 7 = .int .i64 r ∧ ρ' 8 = .int .i64 c ∧ ρ' 10 = .slice (some ⟨bp, 0, none⟩) m cp ∧ ρ' 13 = .int .i64 i ∧ ρ' 14 = .pointer (some ⟨b14, 0, none⟩) ∧ True) ⟨h4, h5, h7, h8, h10, h13, rfl, trivial⟩ ?_
                  rintro ρk14 ⟨hk14_4, hk14_5, hk14_7, hk14_8, hk14_10, hk14_13, hk14_14, -⟩
                  repeat (with_reducible first | refine c_seq ?_ | refine c_block ?_ | refine c_skip ?_ | refine x_then ?_ | refine x_block ?_)
                  refine c_reg ?_
                  refine l_pure rfl (s_asg  rfl ?_)
                  refine l_nil ?_
                  repeat (with_reducible first | refine c_seq ?_ | refine c_skip ?_ | refine x_then ?_ | refine x_block ?_)
                  refine c_cut1 (fun ρ w' => ρ 4 = .slice (some ⟨bo, 0, none⟩) n cap ∧ ρ 5 = vp ∧ ρ 7 = .int .i64 r ∧ ρ 8 = .int .i64 c ∧ ρ 10 = .slice (some ⟨bp, 0, none⟩) m cp ∧ ρ 13 = .int .i64 i ∧
                    ∃ R, (R.getD r zRw).b = bp ∧ (R.getD r zRw).cap = cp ∧ MatG R n m (qM (zC X r c a i m)) ∧ St w w' (mD encR 49 23 bo (R.map Rw.v ++ so) R LP)) ?_ ?_
                  · repeat (with_reducible first | refine c_seq ?_ | refine c_block ?_ | refine c_skip ?_ | refine x_then ?_ | refine x_block ?_)
                    refine c_loop (σ := Nat) (fun k ρ w' => k ≤ m ∧ ρ 4 = .slice (some ⟨bo, 0, none⟩) n cap ∧ ρ 5 = vp ∧ ρ 7 = .int .i64 r ∧ ρ 8 = .int .i64 c ∧ ρ 10 = .slice (some ⟨bp, 0, none⟩) m cp ∧ ρ 13 = .int .i64 i ∧ ρ 14 = .pointer (some ⟨b14, 0, none⟩) ∧ ρ 15 = .int .i64 k ∧
                      ∃ R, (R.getD r zRw).b = bp ∧ (R.getD r zRw).cap = cp ∧ MatG R n m (qM (zC X r c a i k)) ∧ St w w' ([(b14, 49, encR (ofQ (X i c)))] ++ mD encR 49 23 bo (R.map Rw.v ++ so) R LP)) (fun k => m - k) 0
                      ⟨Nat.zero_le _, by assumption, by assumption, by assumption, by assumption, by assumption, by assumption, by assumption, rfl, R3, hb3, hc3, hR3.congr fun x _ j _ => by show ofQ (elF X r c a i x j) = ofQ (zC X r c a i 0 x j); unfold zC; rw [if_neg (by omega)], hS⟩ ?_
                    clear hS hR3 hl3 hb3 hc3
                    rintro k ρ w7 ⟨hk, h4, h5, h7, h8, h10, h13, h14, h15, R3, hb3, hc3, hR3, hS⟩
                    have hl3 : i < R3.length := by rw [hR3.len]; exact hin
                    have hxi := hR3.xlen hin
                    have hv3 := hR3.v hrn
                    rw [hb3, hc3] at hv3
                    have hrow := fun wx (h : St w wx ([(b14, 49, encR (ofQ (X i c)))] ++ mD encR 49 23 bo (R3.map Rw.v ++ so) R3 LP)) => hR3.slD [(b14, 49, encR (ofQ (X i c)))] h encR_len hrn
                    rw [hv3] at hrow
                    have htr := tab_len m (qM (zC X r c a i k) r)
                    have hti := tab_len m (qM (zC X r c a i k) i)
                    repeat (with_reducible first | refine c_seq ?_ | refine c_block ?_ | refine c_skip ?_ | refine x_then ?_ | refine x_block ?_)
                    refine c_reg ?_
                    refine l_pure rfl (s_move  h15 ?_)
                    refine l_pure rfl (s_move  h10 ?_)
                    refine l_pure rfl (s_leno  rfl ⟨_, Tryz.underlying23⟩ ?_)
                    refine l_pure rfl (s_lss  rfl rfl ?_)
                    refine l_nil ?_
                    repeat (with_reducible first | refine c_seq ?_ | refine c_block ?_ | refine c_skip ?_ | refine x_then ?_ | refine x_block ?_)
                    by_cases hkl : k < m
                    · refine c_yes rfl (decide_eq_true (by omega)) ?_
                      repeat (with_reducible first | refine c_seq ?_ | refine c_block ?_ | refine c_skip ?_ | refine x_then ?_ | refine x_block ?_)
                      have g1 : (tab m (qM (zC X r c a i k) i)).getD k zRR = ofQ (X i k) := by
                        rw [tab_get _ _ hkl]; show ofQ (zC X r c a i k i k) = _; unfold zC elF
                        rw [if_neg (by omega), if_neg hir, if_neg (Nat.lt_irrefl _)]
                      have g2 : (tab m (qM (zC X r c a i k) r)).getD k zRR = ofQ (X r k / a) := by
                        rw [tab_get _ _ hkl]; show ofQ (zC X r c a i k r k) = _; unfold zC elF
                        rw [if_neg (by omega), if_pos rfl]
                      have q1 := hLX i hin k hkl
                      have q2 := hLX r hrn k hkl
                      have q3 := hLX i hin c (by omega)
                      have q4 := L_div (X r k) a
                      have q5 := L_mul (X i c) (X r k / a)
                      have hti2 := fun w => rTimes_ok (X i c) (X r k / a) w (by omega)
                      have hmi := fun w => rMinus_ok (X i k) (X i c * (X r k / a)) w (by omega)
                      repeat (with_reducible first | refine c_seq ?_ | refine c_block ?_ | refine c_skip ?_ | refine x_then ?_ | refine x_block ?_)
                      refine c_draw [(0, .pure), (1, .pure), (2, .pure), (3, .read), (4, .pure), (5, .pure), (6, .pure), (7, .pure), (8, .read), (9, .pure), (10, .pure), (11, .read), (12, .read), (13, .pure), (14, .pure), (15, .pure), (16, .read), (17, .grow), (18, .grow), (19, .pure), (20, .free)] (by kernel_rfl) (by kernel_rfl) hS ?_
                      intro wz15 hS hBz15
                      refine w_pure rfl rfl (s_move  h4 ?_)
                      refine w_pure rfl rfl (s_move  h13 ?_)
                      refine w_pure rfl rfl (s_ixo (i := i)  rfl rfl (by omega) (by first | omega | (simp; done) | (simp; omega)) si_22 ?_)
                      refine w_read rfl rfl (s_mrowD [_]  rfl vi_23 hS (by omega) (mC_row hl3) ?_)
                      refine w_pure rfl rfl (s_move  h15 ?_)
                      refine w_pure rfl rfl (s_move  h4 ?_)
                      refine w_pure rfl rfl (s_move  h13 ?_)
                      refine w_pure rfl rfl (s_ixo (i := i)  rfl rfl (by omega) (by first | omega | (simp; done) | (simp; omega)) si_22 ?_)
                      refine w_read rfl rfl (s_mrowD [_]  rfl vi_23 hS (by omega) (mC_row hl3) ?_)
                      refine w_pure rfl rfl (s_move  h15 ?_)
                      refine w_pure rfl rfl (s_ixr (i := k)  rfl rfl (hR3.slD [_] hS encR_len hin) (by omega) (by first | omega | (simp; done) | (simp; omega)) si_23 ?_)
                      refine w_read rfl rfl (s_lde (i := k) zRR  rfl vi_49 (hR3.slD [_] hS encR_len hin) (by first | omega | (simp; done) | (simp; omega)) rfl rfl (.inl rfl) ?_)
                      refine w_read rfl rfl (s_ldo (k := 0)  h14 vi_49 hS rfl rfl rfl (.inl rfl) ?_)
                      refine w_pure rfl rfl (s_move  h10 ?_)
                      refine w_pure rfl rfl (s_move  h15 ?_)
                      refine w_pure rfl rfl (s_ixr (i := k)  rfl rfl (hrow _ hS) (by omega) (by first | omega | (simp; done) | (simp; omega)) si_23 ?_)
                      refine w_read rfl rfl (s_lde (i := k) zRR  rfl vi_49 (hrow _ hS) (by first | omega | (simp; done) | (simp; omega)) rfl rfl (.inl rfl) ?_)
                      rw [g1, g2]
                      refine w_grow rfl rfl (s_call Tryz.call50 rfl (hti2 _) ?_)
                      rintro _ wc16 ⟨rfl, hBc16⟩
                      replace hS := hS.grow hBc16
                      refine ⟨hBc16, ?_⟩
                      refine w_grow rfl rfl (s_call Tryz.call52 rfl (hmi _) ?_)
                      rintro _ wc17 ⟨rfl, hBc17⟩
                      replace hS := hS.grow hBc17
                      refine ⟨hBc17, ?_⟩
                      refine w_pure rfl rfl (s_ixo (i := k)  rfl rfl (by omega) (by first | omega | (simp; done) | (simp; omega)) si_23 ?_)
                      refine w_free rfl rfl (s_mstD [_] (i := i) (j := k) (ofQ (X i k - X i c * (X r k / a))) encR_len  rfl rfl vi_49 hS rfl hl3 (by omega) (by omega) rfl rfl ?_)
                      intro wz18 hS
                      refine w_end ?_
                      repeat (with_reducible first | refine c_seq ?_ | refine c_block ?_ | refine c_skip ?_ | refine x_then ?_ | refine x_block ?_)
                      rw [← map_put_v R3 k (ofQ (X i k - X i c * (X r k / a))) hl3] at hS
                      repeat (with_reducible first | refine c_seq ?_ | refine c_block ?_ | refine c_skip ?_ | refine x_then ?_ | refine x_block ?_)
                      refine c_reg ?_
                      refine l_pure rfl (s_move  h15 ?_)
                      refine l_pure rfl (s_add  rfl rfl (IntWalk.i64_in _ (by omega)) ?_)
                      refine l_pure rfl (s_asg  rfl ?_)
                      refine l_nil ?_
                      repeat (with_reducible first | refine c_seq ?_ | refine c_block ?_ | refine c_skip ?_ | refine x_then ?_ | refine x_block ?_)
                      refine ⟨k + 1, _, rfl, ⟨hkl, by assumption, by assumption, by assumption, by assumption, by assumption, by assumption, by assumption, vi rfl (by omega), _, ?_, ?_, (hR3.put hin k (ofQ (X i k - X i c * (X r k / a)))).congr fun x _ j _ => ?_, hS⟩, by omega⟩
                      · rw [getD_setL _ _ _ hl3, if_neg (fun e => hir e.symm)]; exact hb3
                      · rw [getD_setL _ _ _ hl3, if_neg (fun e => hir e.symm)]; exact hc3
                      · show (if x = i ∧ j = k then ofQ (X i k - X i c * (X r k / a)) else ofQ (zC X r c a i k x j)) = ofQ (zC X r c a i (k + 1) x j)
                        unfold zC
                        by_cases g : x = i ∧ j = k
                        · rw [if_pos g, if_pos (by omega), g.2]
                        · rw [if_neg g]
                          by_cases g2 : x = i ∧ j < k
                          · rw [if_pos g2, if_pos (by omega)]
                          · rw [if_neg g2, if_neg (by omega)]
                    · refine c_no rfl (decide_eq_false (by omega)) ?_
                      repeat (with_reducible first | refine c_seq ?_ | refine c_block ?_ | refine c_skip ?_ | refine x_then ?_ | refine x_block ?_)
                      refine c_exit ?_
                      repeat (with_reducible first | refine x_then_exit ?_ | refine x_block_exit ?_ | refine x_block_pass rfl ?_)
                      repeat (with_reducible first | refine c_seq ?_ | refine c_block ?_ | refine c_skip ?_ | refine x_then ?_ | refine x_block ?_)
                      obtain rfl : m = k := by omega
                      exact ⟨_, rfl, h4, h5, h7, h8, h10, h13, R3, hb3, hc3, hR3, hS.drop (List.sublist_cons_self _ _)⟩
                  clear hS hR3 hl3 hb3 hc3
                  rintro ρ w7 ⟨h4, h5, h7, h8, h10, h13, R3, hb3, hc3, hR3, hS⟩
                  repeat (with_reducible first | refine c_seq ?_ | refine c_block ?_ | refine c_skip ?_ | refine x_then ?_ | refine x_block ?_)
                  refine c_reg ?_
                  refine l_pure rfl (s_move  h13 ?_)
                  refine l_pure rfl (s_add  rfl rfl (IntWalk.i64_in _ (by omega)) ?_)
                  refine l_pure rfl (s_asg  rfl ?_)
                  refine l_nil ?_
                  repeat (with_reducible first | refine c_seq ?_ | refine c_block ?_ | refine c_skip ?_ | refine x_then ?_ | refine x_block ?_)
                  refine ⟨i + 1, _, rfl, ⟨hin, by assumption, by assumption, by assumption, by assumption, by assumption, vi rfl (by omega), R3, hb3, hc3, hR3.congr fun x hx j hj => ?_, hS⟩, by omega⟩
                  show ofQ (zC X r c a i m x j) = ofQ (elF X r c a (i + 1) x j)
                  unfold zC
                  by_cases e : x = i
                  · rw [if_pos ⟨e, hj⟩, e]
                    unfold elF
                    rw [if_neg hir, if_pos (Nat.lt_succ_self _)]
                  · rw [if_neg (fun q => e q.1), hstep x hx j e]
            · refine c_no rfl (decide_eq_false (by omega)) ?_
              repeat (with_reducible first | refine c_seq ?_ | refine c_block ?_ | refine c_skip ?_ | refine x_then ?_ | refine x_block ?_)
              refine c_exit ?_
              repeat (with_reducible first | refine x_then_exit ?_ | refine x_block_exit ?_ | refine x_block_pass rfl ?_)
              repeat (with_reducible first | refine c_seq ?_ | refine c_block ?_ | refine c_skip ?_ | refine x_then ?_ | refine x_block ?_)
              obtain rfl : n = i := by omega
              exact ⟨_, rfl, h4, h5, h7, h8, R3, hR3, hS⟩
          clear hS hR2 hrv
          rintro ρ w6 ⟨h4, h5, h7, h8, R3, hR3, hS⟩
          replace hR3 : MatG R3 n m (qM (rdc n M (c + 1)).M) := hR3.congr fun i hi j _ => by
            show ofQ (elF X r c a n i j) = ofQ ((rdc n M (c + 1)).M i j)
            rw [hyes, elF_elim X r c a hi j]
          rw [← List.nil_append LP, ← mD_app] at hS
          repeat (with_reducible first | refine c_seq ?_ | refine c_block ?_ | refine c_skip ?_ | refine x_then ?_ | refine x_block ?_)
          refine c_reg ?_
          refine l_pure rfl (s_move  h5 ?_)
          refine l_pure rfl (s_move  h8 ?_)
          refine l_heavy rfl (s_bsl (vs := [.int .i64 c])  rfl si_40 rfl (by decide) (by decide) (by decide) (by simp [Value.cells]) rfl hS ?_)
          intro b19 wz20 hS hBz20
          refine l_heavy rfl (s_appl [(c : Int)]  rfl rfl si_40 (by decide) hG hS rfl rfl (fun _ => rfl) (fun u hu => by rw [List.mem_singleton.1 (show u ∈ [Value.int .i64 (c : Int)] from hu)]; rfl) (by first | omega | (simp only [List.length_cons, List.length_nil]; omega)) (by first | omega | (simp only [List.length_cons, List.length_nil]; omega)) ?_)
          intro va21 La21 wa21 hG hS hga21
          refine l_pure rfl (s_asg  rfl ?_)
          refine l_nil ?_
          repeat (with_reducible first | refine c_seq ?_ | refine c_block ?_ | refine c_skip ?_ | refine x_then ?_ | refine x_block ?_)
          rw [← nI_snoc] at hG
          rw [mD_app, List.nil_append] at hS
          repeat (with_reducible first | refine c_seq ?_ | refine c_block ?_ | refine c_skip ?_ | refine x_then ?_ | refine x_block ?_)
          refine c_reg ?_
          refine l_pure rfl (s_move  h7 ?_)
          refine l_pure rfl (s_add  rfl rfl (IntWalk.i64_in _ (by omega)) ?_)
          refine l_pure rfl (s_asg  rfl ?_)
          refine l_nil ?_
          repeat (with_reducible first | refine c_seq ?_ | refine c_block ?_ | refine c_skip ?_ | refine x_then ?_ | refine x_block ?_)
          refine c_reg ?_
          refine l_pure rfl (s_move  h8 ?_)
          refine l_pure rfl (s_add  rfl rfl (IntWalk.i64_in _ (by omega)) ?_)
          refine l_pure rfl (s_asg  rfl ?_)
          refine l_nil ?_
          repeat (with_reducible first | refine c_seq ?_ | refine c_block ?_ | refine c_skip ?_ | refine x_then ?_ | refine x_block ?_)
          exact ⟨c + 1, _, rfl, ⟨hcm, by assumption, vi rfl (by rw [hyes]; simp [← hr]), vi rfl (by omega), _, _, R3, rfl, by rw [hyes]; exact hG, hR3, hS⟩, by omega⟩
        · refine c_yes rfl (decide_eq_true (by omega)) ?_
          repeat (with_reducible first | refine c_seq ?_ | refine c_block ?_ | refine c_skip ?_ | refine x_then ?_ | refine x_block ?_)
          refine c_exit ?_
          repeat (with_reducible first | refine x_then_exit ?_ | refine x_block_exit ?_ | refine x_block_pass rfl ?_)
          repeat (with_reducible first | refine c_seq ?_ | refine c_block ?_ | refine c_skip ?_ | refine x_then ?_ | refine x_block ?_)
          refine c_reg ?_
          refine l_pure rfl (s_move  h8 ?_)
          refine l_pure rfl (s_add  rfl rfl (IntWalk.i64_in _ (by omega)) ?_)
          refine l_pure rfl (s_asg  rfl ?_)
          refine l_nil ?_
          repeat (with_reducible first | refine c_seq ?_ | refine c_block ?_ | refine c_skip ?_ | refine x_then ?_ | refine x_block ?_)
          have e := rstp_no (n := n) (c := c) (M := M) (by rw [← hr, ← hp]; exact hpn)
          exact ⟨c + 1, _, rfl, ⟨hcm, by assumption, by rw [e, ← hr]; assumption, vi rfl (by omega), _, LP, R, by assumption, by rw [e]; exact hG, by rw [e]; exact hR, hS⟩, by omega⟩
      · have htl0 := tab_len m (qM (rdc n M c).M 0)
        repeat (with_reducible first | refine c_seq ?_ | refine c_block ?_ | refine c_skip ?_ | refine x_then ?_ | refine x_block ?_)
        refine c_reg ?_
        refine l_pure rfl (s_move  h7 ?_)
        refine l_pure rfl (s_move  h4 ?_)
        refine l_pure rfl (s_leno  rfl ⟨_, Tryz.underlying22⟩ ?_)
        refine l_pure rfl (s_lss  rfl rfl ?_)
        refine l_pure rfl (s_move  rfl ?_)
        refine l_pure (gd_yes 34 (by kernel_rfl) rfl (decide_eq_true (by omega))) (s_move  h8 ?_)
        refine l_pure (gd_yes 34 (by kernel_rfl) rfl (decide_eq_true (by omega))) (s_move  h4 ?_)
        refine l_pure (gd_yes 34 (by kernel_rfl) rfl (decide_eq_true (by omega))) (s_ixo (i := 0)  rfl rfl (by omega) (by first | omega | (simp; done) | (simp; omega)) si_22 ?_)
        refine l_read (gd_yes 34 (by kernel_rfl) rfl (decide_eq_true (by omega))) (s_mrowD []  rfl vi_23 hS (by omega) (mC_row hl0) ?_)
        refine l_pure (gd_yes 34 (by kernel_rfl) rfl (decide_eq_true (by omega))) (s_lenr  rfl (hR.slD [] hS encR_len (by omega : 0 < n)) ⟨_, Tryz.underlying23⟩ ?_)
        refine l_pure (gd_yes 34 (by kernel_rfl) rfl (decide_eq_true (by omega))) (s_lss  rfl rfl ?_)
        refine l_pure rfl (s_pick (vb rfl (decide_eq_true (by omega))) rfl ?_)
        refine l_nil ?_
        repeat (with_reducible first | refine c_seq ?_ | refine c_block ?_ | refine c_skip ?_ | refine x_then ?_ | refine x_block ?_)
        refine c_no rfl (decide_eq_false (by omega)) ?_
        repeat (with_reducible first | refine c_seq ?_ | refine c_block ?_ | refine c_skip ?_ | refine x_then ?_ | refine x_block ?_)
        refine c_exit ?_
        repeat (with_reducible first | refine x_then_exit ?_ | refine x_block_exit ?_ | refine x_block_pass rfl ?_)
        repeat (with_reducible first | refine c_seq ?_ | refine c_block ?_ | refine c_skip ?_ | refine x_then ?_ | refine x_block ?_)
        obtain rfl : m = c := by omega
        exact ⟨_, rfl, h4, _, LP, R, h5, hG, hR, hS⟩
    · repeat (with_reducible first | refine c_seq ?_ | refine c_block ?_ | refine c_skip ?_ | refine x_then ?_ | refine x_block ?_)
      refine c_reg ?_
      refine l_pure rfl (s_move  h7 ?_)
      refine l_pure rfl (s_move  h4 ?_)
      refine l_pure rfl (s_leno  rfl ⟨_, Tryz.underlying22⟩ ?_)
      refine l_pure rfl (s_lss  rfl rfl ?_)
      refine l_pure rfl (s_move  rfl ?_)
      refine l_no (gno_yes 34 (by kernel_rfl) rfl (decide_eq_false (by omega))) ?_
      refine l_no (gno_yes 34 (by kernel_rfl) rfl (decide_eq_false (by omega))) ?_
      refine l_no (gno_yes 34 (by kernel_rfl) rfl (decide_eq_false (by omega))) ?_
      refine l_no (gno_yes 34 (by kernel_rfl) rfl (decide_eq_false (by omega))) ?_
      refine l_no (gno_yes 34 (by kernel_rfl) rfl (decide_eq_false (by omega))) ?_
      refine l_no (gno_yes 34 (by kernel_rfl) rfl (decide_eq_false (by omega))) ?_
      refine l_pure rfl (s_pick (vb rfl (decide_eq_false (by omega))) rfl ?_)
      refine l_nil ?_
      repeat (with_reducible first | refine c_seq ?_ | refine c_block ?_ | refine c_skip ?_ | refine x_then ?_ | refine x_block ?_)
      refine c_no rfl (rfl) ?_
      repeat (with_reducible first | refine c_seq ?_ | refine c_block ?_ | refine c_skip ?_ | refine x_then ?_ | refine x_block ?_)
      refine c_exit ?_
      repeat (with_reducible first | refine x_then_exit ?_ | refine x_block_exit ?_ | refine x_block_pass rfl ?_)
      repeat (with_reducible first | refine c_seq ?_ | refine c_block ?_ | refine c_skip ?_ | refine x_then ?_ | refine x_block ?_)
      have e : rdc n M m = rdc n M c := by
        have := rdc_full (n := n) (A := M) (c := c) (by omega) (m - c)
        rwa [show c + (m - c) = m by omega] at this
      rw [e]
      exact ⟨_, rfl, h4, _, LP, R, h5, hG, hR, hS⟩
  clear hS
  rintro ρ w3 ⟨h4, vp, LP, R, h5, hG, hR, hS⟩
  repeat (with_reducible first | refine c_seq ?_ | refine c_block ?_ | refine c_skip ?_ | refine x_then ?_ | refine x_block ?_)
  have hmt := hR.mtsD [] hS encR_len hcap1 hcap2
  have hS2 := hS
  rw [← List.nil_append LP, ← mD_app] at hS2
  have hsl := hG.sl hS2 (fun _ => rfl)
  repeat (with_reducible first | refine c_seq ?_ | refine c_block ?_ | refine c_skip ?_ | refine x_then ?_ | refine x_block ?_)
  refine c_reg ?_
  refine l_pure rfl (s_move  h4 ?_)
  refine l_pure rfl (s_move  h5 ?_)
  refine l_pure rfl (s_asg  rfl ?_)
  refine l_pure rfl (s_asg  rfl ?_)
  refine l_nil ?_
  repeat (with_reducible first | refine c_seq ?_ | refine c_block ?_ | refine c_skip ?_ | refine x_then ?_ | refine x_block ?_)
  refine c_ret ?_
  repeat (with_reducible first | refine x_then_ret ?_ | refine x_block_ret ?_)
  refine r_two rfl rfl rfl ?_
  exact ⟨⟨_, _, _, rfl, hmt, hsl⟩, hS.below⟩
end Go.Proofs.YtblfipdfklpmmaaGreatDoor
namespace Go.Proofs.YtblfipdfklpmmaaGreatDoor
open Go Go.RowKit Go.Sx
def q1 : Rat := ((1 : Int) : Rat)
def q2 : Rat := ((2 : Int) : Rat)
def q4 : Rat := ((4 : Int) : Rat)
def qm2 : Rat := ((-2 : Int) : Rat)
def Aw : List (List RR) := [[ofQ q1, ofQ q2], [ofQ q2, ofQ q4]]
def Bw : List RR := [zRR, zRR]
def aMx : Mx := fun i j => if j = 0 then (if i = 0 then q1 else q2) else if j = 1 then (if i = 0 then q2 else q4) else 0
theorem two_cases {i : Nat} (h : i < 2) : i = 0 ∨ i = 1 := by omega
theorem three_cases {i : Nat} (h : i < 3) : i = 0 ∨ i = 1 ∨ i = 2 := by omega
theorem RM_Aw : ∀ i, i < 2 → ∀ j, j < 2 → RM Aw i j = aMx i j := by
  intro i hi j hj
  rcases two_cases hi with rfl | rfl <;> rcases two_cases hj with rfl | rfl <;> exact toQ_ofQ _
theorem AUG_Aw : ∀ i, i < 2 → ∀ j, j < 3 → AUG Aw Bw i j = aMx i j := by
  intro i hi j hj
  rcases three_cases hj with rfl | rfl | rfl
  · show RM Aw i 0 = _; exact RM_Aw i hi 0 (by decide)
  · show RM Aw i 1 = _; exact RM_Aw i hi 1 (by decide)
  · show VX Bw i = 0
    rcases two_cases hi with rfl | rfl <;> exact toQ_zRR
theorem shp_Aw : shpE Aw = 0 := rfl
theorem slE_Aw : slE Aw Bw = 5 := by
  have h := (rdc_cols (n := 2) (m := 3) AUG_Aw 2 (by decide)).2.1
  have h2 : (rdc 2 aMx 2).P.length = 1 := by decide +kernel
  unfold slE slD
  show (if sqE Aw ≠ 0 then _ else if (2 : Nat) ≠ 2 then _ else if (rdc 2 (AUG Aw Bw) 2).P.length = 2 then _ else _) = _
  rw [if_neg (by decide), if_neg (by decide), h, h2]; rfl
theorem krL_Aw : krL Aw = [[ofQ qm2, ofQ q1]] := by
  obtain ⟨h1, h2, _⟩ := rdc_cols (n := 2) (m := 2) RM_Aw 2 (by decide)
  have hP : (rdc 2 aMx 2).P = [0] := by decide +kernel
  have hM : (rdc 2 aMx 2).M 0 1 = q2 := by decide +kernel
  have e : krL Aw = (frL (rdA Aw).P 2).map (krRow (rdA Aw).M (rdA Aw).P 2) := if_pos shp_Aw
  rw [e]
  show (frL (rdc 2 (RM Aw) 2).P 2).map (krRow (rdc 2 (RM Aw) 2).M (rdc 2 (RM Aw) 2).P 2) = _
  have hP2 : (rdc 2 (RM Aw) 2).P = [0] := by rw [← hP]; exact h2
  have hM2 : (rdc 2 (RM Aw) 2).M 0 1 = q2 := by rw [h1 0 (by decide) 1 (by decide), hM]
  rw [hP2]
  show [[ofQ (kv [0] _ 1 0), ofQ (kv [0] _ 1 1)]] = _
  have k0 : kv [0] (rdc 2 (RM Aw) 2).M 1 0 = qm2 := by
    show - (rdc 2 (RM Aw) 2).M 0 1 = _
    rw [hM2]; decide +kernel
  have k1 : kv [0] (rdc 2 (RM Aw) 2).M 1 1 = q1 := rfl
  rw [k0, k1]
theorem Aw_RB : RBM 1 Aw := by
  intro a ha r hr
  have hq : ∀ z : Int, z.natAbs < 256 → Lr (ofQ (z : Rat)) ≤ 1 := fun z hz => by rw [Lr_ofQ]; exact L_int _ (by simpa using hz) (by decide)
  simp only [Aw, List.mem_cons, List.not_mem_nil, or_false] at ha
  rcases ha with rfl | rfl
  · simp only [List.mem_cons, List.not_mem_nil, or_false] at hr
    rcases hr with rfl | rfl
    · exact hq 1 (by decide)
    · exact hq 2 (by decide)
  · simp only [List.mem_cons, List.not_mem_nil, or_false] at hr
    rcases hr with rfl | rfl
    · exact hq 2 (by decide)
    · exact hq 4 (by decide)
theorem Bw_RB : RB 1 Bw := fun r hr => by
  simp only [Bw, List.mem_cons, List.not_mem_nil, or_false] at hr
  rcases hr with rfl | rfl <;> exact Nat.le_refl _
theorem ex_mts {w0 w : World} {b12 b11 b8 : Nat} (hS : St w0 w [(b12, 23, ([.slice (some ⟨b8, 0, none⟩) 2 2, .slice (some ⟨b11, 0, none⟩) 2 2] : List Value).flatMap enV), (b11, 49, [ofQ q2, ofQ q4].flatMap encR), (b8, 49, [ofQ q1, ofQ q2].flatMap encR)]) :
    Mts encR 3 w (.slice (some ⟨b12, 0, none⟩) 2 2) Aw [.slice (some ⟨b8, 0, none⟩) 2 2, .slice (some ⟨b11, 0, none⟩) 2 2] := by
  refine ⟨rfl, hS.sle (k := 0) (n := 2) (cap := 2) rfl (fun _ => rfl) (Nat.le_refl _) (Nat.le_refl _) (by decide), fun i hi => ?_⟩
  rcases two_cases hi with rfl | rfl
  · exact hS.sle (k := 2) (L := [ofQ q1, ofQ q2]) (n := 2) (cap := 2) rfl encR_len (Nat.le_refl _) (Nat.le_refl _) (by decide)
  · exact hS.sle (k := 1) (L := [ofQ q2, ofQ q4]) (n := 2) (cap := 2) rfl encR_len (Nat.le_refl _) (Nat.le_refl _) (by decide)
set_option maxHeartbeats 2000000 in
theorem Lawake_ok (w : World) :
    Ret Tryz.prog 11 #[] w fun v w' => v = .bool true ∧ Below w.heap.size w w' := by
  have hM : MX = 1099511627776 := rfl
  have hS := St.init w
  refine enter Tryz.func11 rfl Tryz.ntmps11 rfl ?_
  repeat (with_reducible first | refine c_seq ?_ | refine c_block ?_ | refine c_skip ?_ | refine x_then ?_ | refine x_block ?_)
  refine c_reg ?_
  refine l_pure rfl (s_asg  rfl ?_)
  refine l_nil ?_
  repeat (with_reducible first | refine c_seq ?_ | refine c_block ?_ | refine c_skip ?_ | refine x_then ?_ | refine x_block ?_)
  refine c_reg ?_
  refine l_heavy rfl (s_call Tryz.call29 rfl (QInt_ok 1 _ (by decide) (by decide)) ?_)
  rintro r wa ⟨rfl, hBa⟩
  replace hS := hS.grow hBa
  refine l_heavy rfl (s_call Tryz.call29 rfl (QInt_ok 2 _ (by decide) (by decide)) ?_)
  rintro r wb ⟨rfl, hBb⟩
  replace hS := hS.grow hBb
  refine l_heavy rfl (s_bsl (vs := [aggR (ofQ q1), aggR (ofQ q2)])  rfl si_23 rfl (by decide) (by decide) (by decide) (by simp [Value.cells, aggR]) rfl hS ?_)
  intro b8 wz1 hS hBz1
  refine l_heavy rfl (s_call Tryz.call29 rfl (QInt_ok 2 _ (by decide) (by decide)) ?_)
  rintro r wc ⟨rfl, hBc⟩
  replace hS := hS.grow hBc
  refine l_heavy rfl (s_call Tryz.call29 rfl (QInt_ok 4 _ (by decide) (by decide)) ?_)
  rintro r wd ⟨rfl, hBd⟩
  replace hS := hS.grow hBd
  refine l_heavy rfl (s_bsl (vs := [aggR (ofQ q2), aggR (ofQ q4)])  rfl si_23 rfl (by decide) (by decide) (by decide) (by simp [Value.cells, aggR]) rfl hS ?_)
  intro b11 wz2 hS hBz2
  refine l_heavy rfl (s_bsl (vs := [.slice (some ⟨b8, 0, none⟩) 2 2, .slice (some ⟨b11, 0, none⟩) 2 2])  rfl si_22 rfl (by decide) (by decide) (by decide) (by simp [Value.cells]) rfl hS ?_)
  intro b12 wz3 hS hBz3
  refine l_pure rfl (s_asg  rfl ?_)
  refine l_nil ?_
  repeat (with_reducible first | refine c_seq ?_ | refine c_block ?_ | refine c_skip ?_ | refine x_then ?_ | refine x_block ?_)
  replace hS : St w _ [(b12, 23, ([.slice (some ⟨b8, 0, none⟩) 2 2, .slice (some ⟨b11, 0, none⟩) 2 2] : List Value).flatMap enV), (b11, 49, [ofQ q2, ofQ q4].flatMap encR), (b8, 49, [ofQ q1, ofQ q2].flatMap encR)] := hS
  have hm := ex_mts hS
  repeat (with_reducible first | refine c_seq ?_ | refine c_block ?_ | refine c_skip ?_ | refine x_then ?_ | refine x_block ?_)
  refine c_reg ?_
  refine l_pure rfl (s_move  rfl ?_)
  refine l_pure rfl (s_build  rfl bz_49 ?_)
  refine l_pure rfl (s_build  rfl bz_49 ?_)
  refine l_heavy rfl (s_bsl (vs := [aggR zRR, aggR zRR])  rfl si_23 rfl (by decide) (by decide) (by decide) (by simp [Value.cells, aggR]) rfl hS ?_)
  intro b17 wz4 hS hBz4
  replace hS : St w _ ((b17, 49, Bw.flatMap encR) :: [(b12, 23, ([.slice (some ⟨b8, 0, none⟩) 2 2, .slice (some ⟨b11, 0, none⟩) 2 2] : List Value).flatMap enV), (b11, 49, [ofQ q2, ofQ q4].flatMap encR), (b8, 49, [ofQ q1, ofQ q2].flatMap encR)]) := hS
  have hm2 := ex_mts (hS.drop (List.sublist_cons_self _ _))
  have hb := hS.sle (k := 0) (L := Bw) (n := 2) (cap := 2) rfl encR_len (Nat.le_refl _) (Nat.le_refl _) (by decide)
  refine l_heavy rfl (s_call Tryz.call12 rfl (lSolve_ok _ _ Aw _ Bw 1 _ hm2 hb Aw_RB Bw_RB (by decide)) ?_)
  rintro r w3 ⟨⟨vx, rfl, -⟩, hB3⟩
  rw [slE_Aw]
  replace hS := hS.grow hB3
  replace hm2 := hm2.below hB3
  refine l_pure rfl (s_move  rfl ?_)
  refine l_pure rfl (s_ext  rfl rfl ?_)
  refine l_pure rfl (s_ext  rfl rfl ?_)
  refine l_pure rfl (s_asg  rfl ?_)
  refine l_pure rfl (s_asg  rfl ?_)
  refine l_nil ?_
  repeat (with_reducible first | refine c_seq ?_ | refine c_block ?_ | refine c_skip ?_ | refine x_then ?_ | refine x_block ?_)
  refine c_reg ?_
  refine l_pure rfl (s_move  rfl ?_)
  refine l_heavy rfl (s_call Tryz.call15 rfl (lKernel_ok _ Aw _ 1 _ hm2 Aw_RB (by decide)) ?_)
  rintro r w4 ⟨⟨vk, vks, rfl, hk⟩, hB4⟩
  rw [krL_Aw] at hk
  rw [shp_Aw]
  replace hS := hS.grow hB4
  have hW := hS.below
  clear hm hm2 hb
  replace hS := St.init w4
  have hkl := hk.len
  have hk0 := hk.row 0 (by decide)
  refine l_pure rfl (s_move  rfl ?_)
  refine l_pure rfl (s_ext  rfl rfl ?_)
  refine l_pure rfl (s_ext  rfl rfl ?_)
  refine l_pure rfl (s_asg  rfl ?_)
  refine l_pure rfl (s_asg  rfl ?_)
  refine l_nil ?_
  repeat (with_reducible first | refine c_seq ?_ | refine c_block ?_ | refine c_skip ?_ | refine x_then ?_ | refine x_block ?_)
  refine c_drawM [0, 1, 3, 7, 15, 31, 63, 127, 255, 511, 1023, 2047, 4095, 8191, 16383, 32767, 65535, 131071, 262143, 524287, 1048575, 2097151, 4194303, 8388607, 524287, 33554431, 67108863, 134217727, 268435455, 536870911, 1073741823, 2147483647, 4294967295, 268435455, 17179869183, 34359738367, 68719476735] [(0, .pure), (1, .pure), (2, .pure), (3, .pure), (4, .pure), (5, .pure), (6, .pure), (7, .pure), (8, .pure), (9, .pure), (10, .pure), (11, .pure), (12, .pure), (13, .pure), (14, .read), (15, .pure), (16, .pure), (17, .pure), (18, .pure), (19, .pure), (20, .pure), (21, .read), (22, .pure), (23, .read), (24, .grow), (25, .pure), (26, .pure), (27, .pure), (28, .pure), (29, .pure), (30, .read), (31, .pure), (32, .read), (33, .grow), (34, .pure), (35, .pure), (36, .pure)] (by kernel_rfl) (by kernel_rfl) hS ?_
  intro wz5 hS hBz5
  refine w_pure rfl rfl (s_move  rfl ?_)
  refine w_pure rfl rfl (s_eql  rfl rfl ?_)
  refine w_pure rfl rfl (s_move  rfl ?_)
  refine w_pure rfl (gd_yes 28 (by kernel_rfl) rfl (decide_eq_true rfl)) (s_move  rfl ?_)
  refine w_pure rfl (gd_yes 28 (by kernel_rfl) rfl (decide_eq_true rfl)) (s_eql  rfl rfl ?_)
  refine w_pure rfl rfl (s_pick (vb rfl (decide_eq_true rfl)) rfl ?_)
  refine w_pure rfl rfl (s_move  rfl ?_)
  refine w_pure rfl (gd_yes 32 (by kernel_rfl) rfl (decide_eq_true rfl)) (s_move  rfl ?_)
  refine w_pure rfl (gd_yes 32 (by kernel_rfl) rfl (decide_eq_true rfl)) (s_lenr  rfl (hk.sl.below hS.below) ⟨_, Tryz.underlying22⟩ ?_)
  refine w_pure rfl (gd_yes 32 (by kernel_rfl) rfl (decide_eq_true rfl)) (s_eql  rfl rfl ?_)
  refine w_pure rfl rfl (s_pick (vb rfl (decide_eq_true rfl)) rfl ?_)
  refine w_pure rfl rfl (s_move  rfl ?_)
  refine w_pure rfl (gd_yes 37 (by kernel_rfl) rfl (decide_eq_true (by rw [hkl]; rfl))) (s_move  rfl ?_)
  refine w_pure rfl (gd_yes 37 (by kernel_rfl) rfl (decide_eq_true (by rw [hkl]; rfl))) (s_ixr (i := 0)  rfl rfl (hk.sl.below hS.below) (by omega) (by rw [hkl]; exact Nat.one_pos) si_22 ?_)
  refine w_read rfl (gd_yes 37 (by kernel_rfl) rfl (decide_eq_true (by rw [hkl]; rfl))) (s_lde (i := 0) undef  rfl vi_23 (hk.sl.below hS.below) (by rw [hkl]; exact Nat.one_pos) rfl rfl (.inr rfl) ?_)
  refine w_pure rfl (gd_yes 37 (by kernel_rfl) rfl (decide_eq_true (by rw [hkl]; rfl))) (s_lenr  rfl (hk0.below hS.below) ⟨_, Tryz.underlying23⟩ ?_)
  refine w_pure rfl (gd_yes 37 (by kernel_rfl) rfl (decide_eq_true (by rw [hkl]; rfl))) (s_eql  rfl rfl ?_)
  refine w_pure rfl rfl (s_pick (vb rfl (decide_eq_true (by rw [hkl]; rfl))) rfl ?_)
  refine w_pure rfl rfl (s_move  rfl ?_)
  refine w_pure rfl (gd_yes 44 (by kernel_rfl) rfl (decide_eq_true rfl)) (s_move  rfl ?_)
  refine w_pure rfl (gd_yes 44 (by kernel_rfl) rfl (decide_eq_true rfl)) (s_ixr (i := 0)  rfl rfl (hk.sl.below hS.below) (by omega) (by rw [hkl]; exact Nat.one_pos) si_22 ?_)
  refine w_read rfl (gd_yes 44 (by kernel_rfl) rfl (decide_eq_true rfl)) (s_lde (i := 0) undef  rfl vi_23 (hk.sl.below hS.below) (by rw [hkl]; exact Nat.one_pos) rfl rfl (.inr rfl) ?_)
  refine w_pure rfl (gd_yes 44 (by kernel_rfl) rfl (decide_eq_true rfl)) (s_ixr (i := 0)  rfl rfl (hk0.below hS.below) (by omega) (Nat.le_of_ble_eq_true rfl) si_23 ?_)
  refine w_read rfl (gd_yes 44 (by kernel_rfl) rfl (decide_eq_true rfl)) (s_lde (i := 0) zRR  rfl vi_49 (hk0.below hS.below) (Nat.le_of_ble_eq_true rfl) rfl rfl (.inl rfl) ?_)
  refine w_grow rfl (gd_yes 44 (by kernel_rfl) rfl (decide_eq_true rfl)) (s_call Tryz.call29 rfl (QInt_ok (-2) _ (by decide) (by decide)) ?_)
  rintro r we0 ⟨rfl, hBe0⟩
  refine ⟨hBe0, ?_⟩
  replace hS := hS.grow hBe0
  refine w_pure rfl (gd_yes 44 (by kernel_rfl) rfl (decide_eq_true rfl)) (s_eqR  rfl rfl ?_)
  refine w_pure rfl rfl (s_pick (vb rfl (decide_eq_true rfl)) rfl ?_)
  refine w_pure rfl rfl (s_move  rfl ?_)
  refine w_pure rfl (gd_yes 53 (by kernel_rfl) rfl (decide_eq_true rfl)) (s_move  rfl ?_)
  refine w_pure rfl (gd_yes 53 (by kernel_rfl) rfl (decide_eq_true rfl)) (s_ixr (i := 0)  rfl rfl (hk.sl.below hS.below) (by omega) (by rw [hkl]; exact Nat.one_pos) si_22 ?_)
  refine w_read rfl (gd_yes 53 (by kernel_rfl) rfl (decide_eq_true rfl)) (s_lde (i := 0) undef  rfl vi_23 (hk.sl.below hS.below) (by rw [hkl]; exact Nat.one_pos) rfl rfl (.inr rfl) ?_)
  refine w_pure rfl (gd_yes 53 (by kernel_rfl) rfl (decide_eq_true rfl)) (s_ixr (i := 1)  rfl rfl (hk0.below hS.below) (by omega) (Nat.le_of_ble_eq_true rfl) si_23 ?_)
  refine w_read rfl (gd_yes 53 (by kernel_rfl) rfl (decide_eq_true rfl)) (s_lde (i := 1) zRR  rfl vi_49 (hk0.below hS.below) (Nat.le_of_ble_eq_true rfl) rfl rfl (.inl rfl) ?_)
  refine w_grow rfl (gd_yes 53 (by kernel_rfl) rfl (decide_eq_true rfl)) (s_call Tryz.call29 rfl (QInt_ok 1 _ (by decide) (by decide)) ?_)
  rintro r we1 ⟨rfl, hBe1⟩
  refine ⟨hBe1, ?_⟩
  replace hS := hS.grow hBe1
  refine w_pure rfl (gd_yes 53 (by kernel_rfl) rfl (decide_eq_true rfl)) (s_eqR  rfl rfl ?_)
  refine w_pure rfl rfl (s_pick (vb rfl (decide_eq_true rfl)) rfl ?_)
  refine w_pure rfl rfl (s_asg  rfl ?_)
  refine w_end ?_
  repeat (with_reducible first | refine c_seq ?_ | refine c_block ?_ | refine c_skip ?_ | refine x_then ?_ | refine x_block ?_)
  refine c_ret ?_
  repeat (with_reducible first | refine x_then_ret ?_ | refine x_block_ret ?_)
  refine r_one rfl rfl ?_
  exact ⟨vb rfl (decide_eq_true rfl), hW.trans (hS.below.mono hW.size)⟩
end Go.Proofs.YtblfipdfklpmmaaGreatDoor
namespace Go.Proofs.YtblfipdfklpmmaaGreatDoor
open Go Go.RowKit Go.Sx
def fewA (A : List (List RR)) : Bool := decide ((A.length : Int) ≤ 5) && A.all fun r => decide ((r.length : Int) ≤ 5) && r.all few
theorem fewA_B {A : List (List RR)} (h : fewA A = true) : A.length ≤ 5 ∧ RBM 24 A ∧ ∀ a ∈ A, a.length ≤ 5 := by
  unfold fewA at h
  rw [Bool.and_eq_true, decide_eq_true_eq] at h
  refine ⟨by omega, fun a ha r hr => ?_, fun a ha => ?_⟩
  · have := List.all_eq_true.1 h.2 a ha
    rw [Bool.and_eq_true] at this
    exact few_Lr (List.all_eq_true.1 this.2 r hr)
  · have := List.all_eq_true.1 h.2 a ha
    rw [Bool.and_eq_true, decide_eq_true_eq] at this
    omega
theorem RB_few {A : List RR} (h : A.all few = true) : RB 24 A := fun r hr => few_Lr (List.all_eq_true.1 h r hr)
theorem FewRows_ok (v : Value) (A : List (List RR)) (vs : List Value) (w : World) (hA : Mts encR 3 w v A vs) :
    Ret Tryz.prog 9 #[v, .int .i64 5] w fun r w' => r = .bool (fewA A) ∧ Below w.heap.size w w' := by
  have hS := St.init w
  have hmx := hA.sl.maxLen
  have hlen := hA.len
  refine enter Tryz.func9 rfl Tryz.ntmps9 rfl ?_
  repeat (with_reducible first | refine c_seq ?_ | refine c_block ?_ | refine c_skip ?_ | refine x_then ?_ | refine x_block ?_)
  refine c_reg ?_
  refine l_pure rfl (s_asg  rfl ?_)
  refine l_nil ?_
  repeat (with_reducible first | refine c_seq ?_ | refine c_block ?_ | refine c_skip ?_ | refine x_then ?_ | refine x_block ?_)
  refine c_reg ?_
  refine l_pure rfl (s_move  rfl ?_)
  refine l_pure rfl (s_lenr  rfl (hA.sl.below hS.below) ⟨_, Tryz.underlying22⟩ ?_)
  refine l_pure rfl (s_move  rfl ?_)
  refine l_pure rfl (s_gtr  rfl rfl ?_)
  refine l_nil ?_
  repeat (with_reducible first | refine c_seq ?_ | refine c_block ?_ | refine c_skip ?_ | refine x_then ?_ | refine x_block ?_)
  by_cases h0 : (A.length : Int) ≤ 5
  · have e1 : fewA A = A.all fun r => decide ((r.length : Int) ≤ 5) && r.all few := by unfold fewA; rw [decide_eq_true h0]; rfl
    rw [e1]
    refine c_no rfl (decide_eq_false (by omega)) ?_
    repeat (with_reducible first | refine c_seq ?_ | refine c_block ?_ | refine c_skip ?_ | refine x_then ?_ | refine x_block ?_)
    refine c_reg ?_
    refine l_pure rfl (s_move  rfl ?_)
    refine l_pure rfl (s_lenr  rfl (hA.sl.below hS.below) ⟨_, Tryz.underlying22⟩ ?_)
    refine l_pure rfl (s_move  rfl ?_)
    refine l_nil ?_
    repeat (with_reducible first | refine c_seq ?_ | refine c_block ?_ | refine c_skip ?_ | refine x_then ?_ | refine x_block ?_)
    refine c_loop (σ := Nat) (fun i ρ w' => i ≤ A.length ∧ (A.take i).all (fun r => decide ((r.length : Int) ≤ 5) && r.all few) = true ∧ ρ 1 = .int .i64 5 ∧ ρ 11 = v ∧ ρ 12 = .int .i64 A.length ∧ ρ 13 = .int .i64 i ∧ St w w' []) (fun i => A.length - i) 0
      ⟨Nat.zero_le _, by simp, rfl, rfl, vi rfl (by omega), rfl, hS⟩ ?_
    clear hS
    rintro i ρ w2 ⟨hi, hall, h1, h11, h12, h13, hS⟩
    repeat (with_reducible first | refine c_seq ?_ | refine c_block ?_ | refine c_skip ?_ | refine x_then ?_ | refine x_block ?_)
    refine c_reg ?_
    refine l_pure rfl (s_lss  h13 h12 ?_)
    refine l_nil ?_
    repeat (with_reducible first | refine c_seq ?_ | refine c_block ?_ | refine c_skip ?_ | refine x_then ?_ | refine x_block ?_)
    by_cases hlt : i < A.length
    · refine c_yes rfl (decide_eq_true (by omega)) ?_
      repeat (with_reducible first | refine c_seq ?_ | refine c_block ?_ | refine c_skip ?_ | refine x_then ?_ | refine x_block ?_)
      have hri := hA.row i hlt
      obtain ⟨st1, st2⟩ := all_step (fun r : List RR => decide ((r.length : Int) ≤ 5) && r.all few) A [] hlt hall
      repeat (with_reducible first | refine c_seq ?_ | refine c_block ?_ | refine c_skip ?_ | refine x_then ?_ | refine x_block ?_)
      refine c_reg ?_
      refine l_pure rfl (s_ixr (i := i)  h11 h13 (hA.sl.below hS.below) (by omega) (by first | omega | (simp; done) | (simp; omega)) si_22 ?_)
      refine l_read rfl (s_lde (i := i) undef  rfl vi_23 (hA.sl.below hS.below) (by first | omega | (simp; done) | (simp; omega)) rfl rfl (.inr rfl) ?_)
      refine l_pure rfl (s_asg  rfl ?_)
      refine l_nil ?_
      repeat (with_reducible first | refine c_seq ?_ | refine c_block ?_ | refine c_skip ?_ | refine x_then ?_ | refine x_block ?_)
      refine c_reg ?_
      refine l_pure rfl (s_move  rfl ?_)
      refine l_pure rfl (s_move  h1 ?_)
      refine l_heavy rfl (s_call Tryz.call10 rfl (FewRats_ok _ (A.getD i []) 5 _ (hri.below hS.below)) ?_)
      rintro _ wc1 ⟨rfl, hBc1⟩
      replace hS := hS.grow hBc1
      refine l_pure rfl (s_not  rfl ?_)
      refine l_nil ?_
      repeat (with_reducible first | refine c_seq ?_ | refine c_block ?_ | refine c_skip ?_ | refine x_then ?_ | refine x_block ?_)
      cases hf : decide (((A.getD i []).length : Int) ≤ 5) && (A.getD i []).all few with
      | true =>
        refine c_no rfl (rfl) ?_
        repeat (with_reducible first | refine c_seq ?_ | refine c_block ?_ | refine c_skip ?_ | refine x_then ?_ | refine x_block ?_)
        refine c_reg ?_
        refine l_pure rfl (s_add  h13 rfl (IntWalk.i64_in _ (by omega)) ?_)
        refine l_pure rfl (s_move  rfl ?_)
        refine l_nil ?_
        repeat (with_reducible first | refine c_seq ?_ | refine c_block ?_ | refine c_skip ?_ | refine x_then ?_ | refine x_block ?_)
        exact ⟨i + 1, _, rfl, ⟨hlt, st1 hf, by assumption, by assumption, by assumption, vi rfl (by omega), hS⟩, by omega⟩
      | false =>
        rw [st2 hf]
        refine c_yes rfl (rfl) ?_
        repeat (with_reducible first | refine c_seq ?_ | refine c_block ?_ | refine c_skip ?_ | refine x_then ?_ | refine x_block ?_)
        refine c_reg ?_
        refine l_pure rfl (s_asg  rfl ?_)
        refine l_nil ?_
        repeat (with_reducible first | refine c_seq ?_ | refine c_block ?_ | refine c_skip ?_ | refine x_then ?_ | refine x_block ?_)
        refine c_ret ?_
        repeat (with_reducible first | refine x_then_ret ?_ | refine x_block_ret ?_)
        refine r_one rfl rfl ?_
        exact ⟨rfl, hS.below⟩
    · refine c_no rfl (decide_eq_false (by omega)) ?_
      repeat (with_reducible first | refine c_seq ?_ | refine c_block ?_ | refine c_skip ?_ | refine x_then ?_ | refine x_block ?_)
      refine c_exit ?_
      repeat (with_reducible first | refine x_then_exit ?_ | refine x_block_exit ?_ | refine x_block_pass rfl ?_)
      repeat (with_reducible first | refine c_seq ?_ | refine c_block ?_ | refine c_skip ?_ | refine x_then ?_ | refine x_block ?_)
      obtain rfl : i = A.length := by omega
      rw [List.take_length] at hall
      rw [hall]
      repeat (with_reducible first | refine c_seq ?_ | refine c_block ?_ | refine c_skip ?_ | refine x_then ?_ | refine x_block ?_)
      refine c_reg ?_
      refine l_pure rfl (s_asg  rfl ?_)
      refine l_nil ?_
      repeat (with_reducible first | refine c_seq ?_ | refine c_block ?_ | refine c_skip ?_ | refine x_then ?_ | refine x_block ?_)
      refine c_ret ?_
      repeat (with_reducible first | refine x_then_ret ?_ | refine x_block_ret ?_)
      refine r_one rfl rfl ?_
      exact ⟨rfl, hS.below⟩
  · have e1 : fewA A = false := by unfold fewA; rw [decide_eq_false h0]; rfl
    rw [e1]
    refine c_yes rfl (decide_eq_true (by omega)) ?_
    repeat (with_reducible first | refine c_seq ?_ | refine c_block ?_ | refine c_skip ?_ | refine x_then ?_ | refine x_block ?_)
    refine c_reg ?_
    refine l_pure rfl (s_asg  rfl ?_)
    refine l_nil ?_
    repeat (with_reducible first | refine c_seq ?_ | refine c_block ?_ | refine c_skip ?_ | refine x_then ?_ | refine x_block ?_)
    refine c_ret ?_
    repeat (with_reducible first | refine x_then_ret ?_ | refine x_block_ret ?_)
    refine r_one rfl rfl ?_
    exact ⟨rfl, hS.below⟩
theorem SameRats_eq (va vb_ : Value) (A : List RR) (w : World) (ha : Sl encR 3 w va A) (hb : Sl encR 3 w vb_ A) :
    Ret Tryz.prog 14 #[va, vb_] w fun v w' => v = .bool true ∧ Below w.heap.size w w' :=
  (SameRats_ok va vb_ A A w ha hb).mono fun _ _ ⟨h, hB⟩ => ⟨by rw [h, decide_eq_true rfl], hB⟩
theorem SameRows_eq (va vb_ : Value) (A : List (List RR)) (vs us : List Value) (w : World) (hA : Mts encR 3 w va A vs) (hB : Mts encR 3 w vb_ A us) :
    Ret Tryz.prog 17 #[va, vb_] w fun r w' => r = .bool true ∧ Below w.heap.size w w' := by
  have hS := St.init w
  have hmx := hA.sl.maxLen
  have hla := hA.len
  have hlb := hB.len
  refine enter Tryz.func17 rfl Tryz.ntmps17 rfl ?_
  repeat (with_reducible first | refine c_seq ?_ | refine c_block ?_ | refine c_skip ?_ | refine x_then ?_ | refine x_block ?_)
  refine c_reg ?_
  refine l_pure rfl (s_asg  rfl ?_)
  refine l_nil ?_
  repeat (with_reducible first | refine c_seq ?_ | refine c_block ?_ | refine c_skip ?_ | refine x_then ?_ | refine x_block ?_)
  refine c_reg ?_
  refine l_pure rfl (s_move  rfl ?_)
  refine l_pure rfl (s_lenr  rfl (hA.sl.below hS.below) ⟨_, Tryz.underlying22⟩ ?_)
  refine l_pure rfl (s_move  rfl ?_)
  refine l_pure rfl (s_lenr  rfl (hB.sl.below hS.below) ⟨_, Tryz.underlying22⟩ ?_)
  refine l_pure rfl (s_neq  rfl rfl ?_)
  refine l_nil ?_
  repeat (with_reducible first | refine c_seq ?_ | refine c_block ?_ | refine c_skip ?_ | refine x_then ?_ | refine x_block ?_)
  refine c_no rfl (decide_eq_false (by omega)) ?_
  repeat (with_reducible first | refine c_seq ?_ | refine c_block ?_ | refine c_skip ?_ | refine x_then ?_ | refine x_block ?_)
  refine c_reg ?_
  refine l_pure rfl (s_asg  rfl ?_)
  refine l_nil ?_
  repeat (with_reducible first | refine c_seq ?_ | refine c_block ?_ | refine c_skip ?_ | refine x_then ?_ | refine x_block ?_)
  refine c_loop (σ := Nat) (fun i ρ w' => i ≤ A.length ∧ ρ 0 = va ∧ ρ 1 = vb_ ∧ ρ 5 = .int .i64 i ∧ St w w' []) (fun i => A.length - i) 0
    ⟨Nat.zero_le _, rfl, rfl, rfl, hS⟩ ?_
  clear hS
  rintro i ρ w2 ⟨hi, h0, h1, h5, hS⟩
  repeat (with_reducible first | refine c_seq ?_ | refine c_block ?_ | refine c_skip ?_ | refine x_then ?_ | refine x_block ?_)
  refine c_reg ?_
  refine l_pure rfl (s_move  h5 ?_)
  refine l_pure rfl (s_move  h0 ?_)
  refine l_pure rfl (s_lenr  rfl (hA.sl.below hS.below) ⟨_, Tryz.underlying22⟩ ?_)
  refine l_pure rfl (s_lss  rfl rfl ?_)
  refine l_nil ?_
  repeat (with_reducible first | refine c_seq ?_ | refine c_block ?_ | refine c_skip ?_ | refine x_then ?_ | refine x_block ?_)
  by_cases hlt : i < A.length
  · refine c_yes rfl (decide_eq_true (by omega)) ?_
    repeat (with_reducible first | refine c_seq ?_ | refine c_block ?_ | refine c_skip ?_ | refine x_then ?_ | refine x_block ?_)
    have hra := hA.row i hlt
    have hrb := hB.row i hlt
    repeat (with_reducible first | refine c_seq ?_ | refine c_block ?_ | refine c_skip ?_ | refine x_then ?_ | refine x_block ?_)
    refine c_draw [(0, .pure), (1, .pure), (2, .pure), (3, .read), (4, .pure), (5, .pure), (6, .pure), (7, .read), (8, .grow), (9, .pure)] (by kernel_rfl) (by kernel_rfl) hS ?_
    intro wz1 hS hBz1
    refine w_pure rfl rfl (s_move  h0 ?_)
    refine w_pure rfl rfl (s_move  h5 ?_)
    refine w_pure rfl rfl (s_ixr (i := i)  rfl rfl (hA.sl.below hS.below) (by omega) (by first | omega | (simp; done) | (simp; omega)) si_22 ?_)
    refine w_read rfl rfl (s_lde (i := i) undef  rfl vi_23 (hA.sl.below hS.below) (by first | omega | (simp; done) | (simp; omega)) rfl rfl (.inr rfl) ?_)
    refine w_pure rfl rfl (s_move  h1 ?_)
    refine w_pure rfl rfl (s_move  h5 ?_)
    refine w_pure rfl rfl (s_ixr (i := i)  rfl rfl (hB.sl.below hS.below) (by omega) (by first | omega | (simp; done) | (simp; omega)) si_22 ?_)
    refine w_read rfl rfl (s_lde (i := i) undef  rfl vi_23 (hB.sl.below hS.below) (by first | omega | (simp; done) | (simp; omega)) rfl rfl (.inr rfl) ?_)
    refine w_grow rfl rfl (s_call Tryz.call14 rfl (SameRats_eq _ _ (A.getD i []) _ (hra.below hS.below) (hrb.below hS.below)) ?_)
    rintro _ wc2 ⟨rfl, hBc2⟩
    replace hS := hS.grow hBc2
    refine ⟨hBc2, ?_⟩
    refine w_pure rfl rfl (s_not  rfl ?_)
    refine w_end ?_
    repeat (with_reducible first | refine c_seq ?_ | refine c_block ?_ | refine c_skip ?_ | refine x_then ?_ | refine x_block ?_)
    refine c_no rfl (rfl) ?_
    repeat (with_reducible first | refine c_seq ?_ | refine c_block ?_ | refine c_skip ?_ | refine x_then ?_ | refine x_block ?_)
    refine c_reg ?_
    refine l_pure rfl (s_move  h5 ?_)
    refine l_pure rfl (s_add  rfl rfl (IntWalk.i64_in _ (by omega)) ?_)
    refine l_pure rfl (s_asg  rfl ?_)
    refine l_nil ?_
    repeat (with_reducible first | refine c_seq ?_ | refine c_block ?_ | refine c_skip ?_ | refine x_then ?_ | refine x_block ?_)
    exact ⟨i + 1, _, rfl, ⟨hlt, by assumption, by assumption, vi rfl (by omega), hS⟩, by omega⟩
  · refine c_no rfl (decide_eq_false (by omega)) ?_
    repeat (with_reducible first | refine c_seq ?_ | refine c_block ?_ | refine c_skip ?_ | refine x_then ?_ | refine x_block ?_)
    refine c_exit ?_
    repeat (with_reducible first | refine x_then_exit ?_ | refine x_block_exit ?_ | refine x_block_pass rfl ?_)
    repeat (with_reducible first | refine c_seq ?_ | refine c_block ?_ | refine c_skip ?_ | refine x_then ?_ | refine x_block ?_)
    refine c_reg ?_
    refine l_pure rfl (s_asg  rfl ?_)
    refine l_nil ?_
    repeat (with_reducible first | refine c_seq ?_ | refine c_block ?_ | refine c_skip ?_ | refine x_then ?_ | refine x_block ?_)
    refine c_ret ?_
    repeat (with_reducible first | refine x_then_ret ?_ | refine x_block_ret ?_)
    refine r_one rfl rfl ?_
    exact ⟨rfl, hS.below⟩
theorem K24 : 8 * BB 24 16 ≤ MX := by decide
theorem K24b : 200000000 * 24 + 300000000 ≤ MX := by decide
end Go.Proofs.YtblfipdfklpmmaaGreatDoor
