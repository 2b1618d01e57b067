/-
  Walk: rounding with an exact sum (program).
-/
import Derived.Test.YtmapmdldlcfjhaaGreatDoorLawUb
namespace Go.Proofs.YtmapmdldlcfjhaaGreatDoor
open Go Go.RowKit Go.Sx

/-- A list that is being filled. -/
def fill {α : Type} (n i : Nat) (f : Nat → α) (z : α) : List α := tab n fun j => if j < i then f j else z
theorem fill_len {α : Type} (n i : Nat) (f : Nat → α) (z : α) : (fill n i f z).length = n := tab_len _ _
theorem fill_zero {α : Type} (n : Nat) (f : Nat → α) (z : α) : List.replicate n z = fill n 0 f z := by
  rw [tab_rep]; exact tab_congr fun _ _ => (if_neg (Nat.not_lt_zero _)).symm
theorem fill_all {α : Type} (n : Nat) (f : Nat → α) (z : α) : fill n n f z = tab n f := tab_congr fun _ hj => if_pos hj
theorem fill_set {α : Type} (n i : Nat) (f : Nat → α) (z : α) : (fill n i f z).set i (f i) = fill n (i + 1) f z := by
  unfold fill
  rw [tab_set]
  refine tab_congr fun j _ => ?_
  by_cases e : j = i
  · subst e; rw [if_pos rfl, if_pos (by omega)]
  · rw [if_neg e]
    by_cases e2 : j < i
    · rw [if_pos e2, if_pos (by omega)]
    · rw [if_neg e2, if_neg (by omega)]
theorem fill_get {α : Type} {n i k : Nat} (f : Nat → α) (z d : α) (hk : k < n) (hki : k < i) : (fill n i f z).getD k d = f k := by
  unfold fill
  rw [tab_get _ _ hk, if_pos hki]
theorem zI_fill (n : Nat) : (tab n fun j : Nat => (j : Int)) = zI (List.range n) := rfl
theorem sumL_le {K : Nat} {l : List RR} (h : RB K l) : sumL l ≤ l.length * (K + 1) := by
  induction l with
  | nil => exact Nat.zero_le _
  | cons r l ih =>
    have h1 := h r (List.mem_cons_self ..)
    have h2 := ih fun x hx => h x (List.mem_cons_of_mem _ hx)
    rw [sumL, List.length_cons, Nat.add_mul]
    omega
theorem L_sumQ (l : List RR) : L (sumQ (l.map toQ)) ≤ sumL l + 1 := by
  induction l with
  | nil => show L 0 ≤ _; rw [L_zero]; omega
  | cons r l ih =>
    rw [List.map_cons, sumQ_cons, sumL]
    have := L_add (toQ r) (sumQ (l.map toQ))
    have := L_toQ r
    omega
theorem negs_get {l : List RR} (h : negs l = false) (i : Nat) : 0 ≤ toQ (l.getD i zRR) := by
  by_cases hi : i < l.length
  · unfold negs at h
    rw [List.any_eq_false] at h
    have := h _ (getD_mem l i zRR hi)
    rw [decide_eq_true_eq] at this
    exact Rat.not_lt.1 this
  · rw [List.getD_eq_getElem?_getD, List.getElem?_eq_none (by omega)]
    show 0 ≤ toQ zRR
    rw [toQ_zRR]; exact Rat.le_refl
theorem hd_nonneg {q : Rat} (h : 0 ≤ q) : 0 ≤ hdQ q := Rat.mul_nonneg h (by decide)

/-! ### What Round answers -/
def qC (l : List RR) (i : Nat) : Rat := hdQ (toQ (l.getD i zRR))
def rE (l : List RR) : Int := if 1024 < l.length then 2 else if negs l = true then 7 else cE (sumQ (l.map toQ))
def ordC (l : List RR) : List Nat := ordB (frQ (qC l)) l.length
def resC (l : List RR) : Nat → Int := resQ (qC l) (ordC l) l.length
theorem ordC_ord (l : List RR) : Ord (frQ (qC l)) l.length (ordC l) := ordB_ord _ _
theorem qC_sum (l : List RR) : sumR (qC l) l.length = hdQ (sumQ (l.map toQ)) := by
  rw [sumR_list]
  exact sumR_mul _ _ _
theorem lfC (l : List RR) : lfQ (qC l) l.length = flC (sumQ (l.map toQ)) - sumZ (baQ (qC l)) l.length := by
  unfold lfQ flC
  rw [qC_sum]
theorem rE_zero {l : List RR} (h : rE l = 0) : negs l = false ∧ cE (sumQ (l.map toQ)) = 0 ∧ 0 ≤ sumQ (l.map toQ) ∧ 0 ≤ flC (sumQ (l.map toQ)) ∧ flC (sumQ (l.map toQ)) ≤ mxC ∧ l.length ≤ 1024 := by
  unfold rE at h
  split at h
  · cases h
  · next h1 =>
    cases hn : negs l with
    | true => rw [hn, if_pos rfl] at h; cases h
    | false =>
      rw [hn, if_neg (by decide)] at h
      have h2 := h
      unfold cE at h
      split at h
      · cases h
      · next h3 =>
        split at h
        · cases h
        · next h4 => exact ⟨rfl, h2, Rat.not_lt.1 h3, flC_nonneg (Rat.not_lt.1 h3), by omega, by omega⟩
theorem baC_bound {l : List RR} (h : rE l = 0) {i : Nat} (hi : i < l.length) : 0 ≤ baQ (qC l) i ∧ baQ (qC l) i ≤ flC (sumQ (l.map toQ)) := by
  obtain ⟨h1, _, h3, h4, h5, _⟩ := rE_zero h
  have hq : ∀ j, j < l.length → 0 ≤ qC l j := fun j _ => hd_nonneg (negs_get h1 j)
  refine ⟨baQ_nonneg (hq i hi), ?_⟩
  have := baQ_le hq hi
  rw [qC_sum] at this
  exact this
theorem sumC_bound {l : List RR} (h : rE l = 0) {i : Nat} (hi : i ≤ l.length) : 0 ≤ sumZ (baQ (qC l)) i ∧ sumZ (baQ (qC l)) i ≤ flC (sumQ (l.map toQ)) := by
  have h1 := fun j hj => (baC_bound h (i := j) hj).1
  have h2 := sumZ_mono h1 hi
  have h3 := lfQ_nonneg (qC l) l.length
  rw [lfC] at h3
  exact ⟨sumZ_nonneg fun j hj => h1 j (by omega), by omega⟩
theorem resC_bound {l : List RR} (h : rE l = 0) {i : Nat} (hi : i < l.length) : 0 ≤ resC l i ∧ resC l i ≤ mxC + 1 := by
  have h1 := baC_bound h hi
  have h2 := (rE_zero h).2.2.2.2.1
  rcases res_or (ordC_ord l) i with ⟨_, e⟩ | ⟨_, e, _⟩ <;> unfold resC <;> omega

/-! ### The order -/
def cmpN (x y : Int) : Int := if x < y then -1 else if y < x then 1 else 0
def cmpB (fr : Nat → Rat) (x y : Int) : Int := if cmpQ (fr y.toNat) (fr x.toNat) ≠ 0 then cmpQ (fr y.toNat) (fr x.toNat) else cmpN x y
theorem ltC_cmpB (fr : Nat → Rat) (i k : Nat) : ltC (cmpB fr) (i : Int) (k : Int) = ltB fr i k := by
  unfold ltC cmpB ltB
  rw [Int.toNat_natCast, Int.toNat_natCast, decide_eq_decide]
  by_cases h : cmpQ (fr k) (fr i) = 0
  · rw [if_neg (not_not_intro h)]
    have h2 := cmpQ_zero.1 h
    unfold cmpN
    constructor
    · intro g
      refine .inr ⟨h2.symm, ?_⟩
      split at g
      · omega
      · split at g <;> omega
    · rintro (g | ⟨_, g⟩)
      · rw [h2] at g; exact absurd g Rat.lt_irrefl
      · rw [if_pos (by omega)]; decide
  · rw [if_pos h, cmpQ_neg]
    constructor
    · exact .inl
    · rintro (g | ⟨g, _⟩)
      · exact g
      · exact absurd (cmpQ_zero.2 g.symm) h
theorem sort_B (fr : Nat → Rat) (n : Nat) : isort (ltC (cmpB fr)) (zI (List.range n)) = zI (ordB fr n) := isort_map (f := fun i : Nat => (i : Int)) (fun i k => ltC_cmpB fr i k) _
theorem isNaN_ok (x : Int) (w : World) : Ret Tryz.prog 101 #[.int .i64 x] w fun v w' => v = .bool false ∧ w' = w := by
  refine enter Tryz.func101 rfl Tryz.ntmps101 rfl ?_
  repeat (with_reducible first | refine c_seq ?_ | refine c_block ?_ | refine c_skip ?_ | refine x_then ?_ | refine x_block ?_)
  refine c_reg ?_
  refine l_pure rfl (s_asg  rfl ?_)
  refine l_nil ?_
  repeat (with_reducible first | refine c_seq ?_ | refine c_block ?_ | refine c_skip ?_ | refine x_then ?_ | refine x_block ?_)
  refine c_reg ?_
  refine l_pure rfl (s_move  rfl ?_)
  refine l_pure rfl (s_move  rfl ?_)
  refine l_pure rfl (s_neq  rfl rfl ?_)
  refine l_pure rfl (s_asg  rfl ?_)
  refine l_nil ?_
  repeat (with_reducible first | refine c_seq ?_ | refine c_block ?_ | refine c_skip ?_ | refine x_then ?_ | refine x_block ?_)
  refine c_ret ?_
  repeat (with_reducible first | refine x_then_ret ?_ | refine x_block_ret ?_)
  refine r_one rfl rfl ?_
  exact ⟨congrArg Value.bool (decide_eq_false (fun h => h rfl)), rfl⟩
theorem cmpCompare_ok (x y : Int) (w : World) : Ret Tryz.prog 69 #[.int .i64 x, .int .i64 y] w fun v w' => v = .int .i64 (cmpN x y) ∧ w' = w := by
  refine enter Tryz.func69 rfl Tryz.ntmps69 rfl ?_
  repeat (with_reducible first | refine c_seq ?_ | refine c_block ?_ | refine c_skip ?_ | refine x_then ?_ | refine x_block ?_)
  refine c_reg ?_
  refine l_pure rfl (s_asg  rfl ?_)
  refine l_nil ?_
  repeat (with_reducible first | refine c_seq ?_ | refine c_block ?_ | refine c_skip ?_ | refine x_then ?_ | refine x_block ?_)
  refine c_reg ?_
  refine l_pure rfl (s_move  rfl ?_)
  refine l_heavy rfl (s_call Tryz.call101 rfl (isNaN_ok x _) ?_)
  rintro _ wq1 ⟨rfl, hq1⟩
  replace hq1 := hq1.symm
  subst hq1
  refine l_pure rfl (s_asg  rfl ?_)
  refine l_nil ?_
  repeat (with_reducible first | refine c_seq ?_ | refine c_block ?_ | refine c_skip ?_ | refine x_then ?_ | refine x_block ?_)
  refine c_reg ?_
  refine l_pure rfl (s_move  rfl ?_)
  refine l_heavy rfl (s_call Tryz.call101 rfl (isNaN_ok y _) ?_)
  rintro _ wq2 ⟨rfl, hq2⟩
  replace hq2 := hq2.symm
  subst hq2
  refine l_pure rfl (s_asg  rfl ?_)
  refine l_nil ?_
  repeat (with_reducible first | refine c_seq ?_ | refine c_block ?_ | refine c_skip ?_ | refine x_then ?_ | refine x_block ?_)
  refine c_reg ?_
  refine l_pure rfl (s_move  rfl ?_)
  refine l_nil ?_
  repeat (with_reducible first | refine c_seq ?_ | refine c_block ?_ | refine c_skip ?_ | refine x_then ?_ | refine x_block ?_)
  refine c_no rfl (rfl) ?_
  repeat (with_reducible first | refine c_seq ?_ | refine c_block ?_ | refine c_skip ?_ | refine x_then ?_ | refine x_block ?_)
  refine c_reg ?_
  refine l_pure rfl (s_move  rfl ?_)
  refine l_nil ?_
  repeat (with_reducible first | refine c_seq ?_ | refine c_block ?_ | refine c_skip ?_ | refine x_then ?_ | refine x_block ?_)
  refine c_no rfl (rfl) ?_
  repeat (with_reducible first | refine c_seq ?_ | refine c_block ?_ | refine c_skip ?_ | refine x_then ?_ | refine x_block ?_)
  refine c_reg ?_
  refine l_pure rfl (s_move  rfl ?_)
  refine l_pure rfl (s_move  rfl ?_)
  refine l_pure rfl (s_lss  rfl rfl ?_)
  refine l_nil ?_
  repeat (with_reducible first | refine c_seq ?_ | refine c_block ?_ | refine c_skip ?_ | refine x_then ?_ | refine x_block ?_)
  unfold cmpN
  by_cases h : x < y
  · rw [if_pos h]
    refine c_yes rfl (decide_eq_true (by omega)) ?_
    repeat (with_reducible first | refine c_seq ?_ | refine c_block ?_ | refine c_skip ?_ | refine x_then ?_ | refine x_block ?_)
    refine c_reg ?_
    refine l_pure rfl (s_asg  rfl ?_)
    refine l_nil ?_
    repeat (with_reducible first | refine c_seq ?_ | refine c_block ?_ | refine c_skip ?_ | refine x_then ?_ | refine x_block ?_)
    refine c_ret ?_
    repeat (with_reducible first | refine x_then_ret ?_ | refine x_block_ret ?_)
    refine r_one rfl rfl ?_
    exact ⟨rfl, rfl⟩
  · rw [if_neg h]
    refine c_no rfl (decide_eq_false (by omega)) ?_
    repeat (with_reducible first | refine c_seq ?_ | refine c_block ?_ | refine c_skip ?_ | refine x_then ?_ | refine x_block ?_)
    refine c_reg ?_
    refine l_pure rfl (s_move  rfl ?_)
    refine l_pure rfl (s_move  rfl ?_)
    refine l_pure rfl (s_gtr  rfl rfl ?_)
    refine l_nil ?_
    repeat (with_reducible first | refine c_seq ?_ | refine c_block ?_ | refine c_skip ?_ | refine x_then ?_ | refine x_block ?_)
    by_cases h2 : y < x
    · rw [if_pos h2]
      refine c_yes rfl (decide_eq_true (by omega)) ?_
      repeat (with_reducible first | refine c_seq ?_ | refine c_block ?_ | refine c_skip ?_ | refine x_then ?_ | refine x_block ?_)
      refine c_reg ?_
      refine l_pure rfl (s_asg  rfl ?_)
      refine l_nil ?_
      repeat (with_reducible first | refine c_seq ?_ | refine c_block ?_ | refine c_skip ?_ | refine x_then ?_ | refine x_block ?_)
      refine c_ret ?_
      repeat (with_reducible first | refine x_then_ret ?_ | refine x_block_ret ?_)
      refine r_one rfl rfl ?_
      exact ⟨rfl, rfl⟩
    · rw [if_neg h2]
      refine c_no rfl (decide_eq_false (by omega)) ?_
      repeat (with_reducible first | refine c_seq ?_ | refine c_block ?_ | refine c_skip ?_ | refine x_then ?_ | refine x_block ?_)
      refine c_reg ?_
      refine l_pure rfl (s_asg  rfl ?_)
      refine l_nil ?_
      repeat (with_reducible first | refine c_seq ?_ | refine c_block ?_ | refine c_skip ?_ | refine x_then ?_ | refine x_block ?_)
      refine c_ret ?_
      repeat (with_reducible first | refine x_then_ret ?_ | refine x_block_ret ?_)
      refine r_one rfl rfl ?_
      exact ⟨rfl, rfl⟩
theorem round1_ok (p i k n K : Nat) (vl : Value) (fr : Nat → Rat) (w : World) (hp : At w ⟨p, 0, none⟩ [vl]) (hl : Sl encR 3 w vl (tab n fun j => ofQ (fr j))) (hi : i < n) (hk : k < n) (hK : ∀ j, j < n → L (fr j) ≤ K) (hM : 2 * K ≤ MX) :
    Ret Tryz.prog 68 #[.int .i64 i, .int .i64 k, .pointer (some ⟨p, 0, none⟩)] w fun v w' => v = .int .i64 (cmpB fr i k) ∧ Below w.heap.size w w' := by
  have hS := St.init w
  have hci : cmpB fr i k = if cmpQ (fr k) (fr i) ≠ 0 then cmpQ (fr k) (fr i) else cmpN i k := by
    unfold cmpB; rw [Int.toNat_natCast, Int.toNat_natCast]
  rw [hci]
  have htl := tab_len n fun j => ofQ (fr j)
  have hki := hK i hi
  have hkk := hK k hk
  have hcm := fun w => QCompare_ok (ofQ (fr k)) (ofQ (fr i)) w (by rw [Lr_ofQ, Lr_ofQ]; omega)
  rw [toQ_ofQ, toQ_ofQ] at hcm
  have e1 : (tab n fun j => ofQ (fr j)).getD k zRR = ofQ (fr k) := tab_get _ _ hk
  have e2 : (tab n fun j => ofQ (fr j)).getD i zRR = ofQ (fr i) := tab_get _ _ hi
  refine enter Tryz.func68 rfl Tryz.ntmps68 rfl ?_
  repeat (with_reducible first | refine c_seq ?_ | refine c_block ?_ | refine c_skip ?_ | refine x_then ?_ | refine x_block ?_)
  refine c_reg ?_
  refine l_pure rfl (s_asg  rfl ?_)
  refine l_nil ?_
  repeat (with_reducible first | refine c_seq ?_ | refine c_block ?_ | refine c_skip ?_ | refine x_then ?_ | refine x_block ?_)
  refine c_draw [(0, .read), (1, .pure), (2, .pure), (3, .read), (4, .read), (5, .pure), (6, .pure), (7, .read), (8, .grow), (9, .pure)] (by kernel_rfl) (by kernel_rfl) hS ?_
  intro wz1 hS hBz1
  refine w_read rfl rfl (s_ld (cs := [vl])  rfl vi_22 (hp.below hS.below) rfl rfl (.inr rfl) ?_)
  refine w_pure rfl rfl (s_move  rfl ?_)
  refine w_pure rfl rfl (s_ixr (i := k)  rfl rfl (hl.below hS.below) (by omega) (by first | omega | (simp; done) | (simp; omega)) si_22 ?_)
  refine w_read rfl rfl (s_lde (i := k) zRR  rfl vi_37 (hl.below hS.below) (by first | omega | (simp; done) | (simp; omega)) rfl rfl (.inl rfl) ?_)
  refine w_read rfl rfl (s_ld (cs := [vl])  rfl vi_22 (hp.below hS.below) rfl rfl (.inr rfl) ?_)
  refine w_pure rfl rfl (s_move  rfl ?_)
  refine w_pure rfl rfl (s_ixr (i := i)  rfl rfl (hl.below hS.below) (by omega) (by first | omega | (simp; done) | (simp; omega)) si_22 ?_)
  refine w_read rfl rfl (s_lde (i := i) zRR  rfl vi_37 (hl.below hS.below) (by first | omega | (simp; done) | (simp; omega)) rfl rfl (.inl rfl) ?_)
  rw [e1, e2]
  refine w_grow rfl rfl (s_call Tryz.call47 rfl (hcm _) ?_)
  rintro _ wc2 ⟨rfl, hBc2⟩
  replace hS := hS.grow hBc2
  refine ⟨hBc2, ?_⟩
  refine w_pure rfl rfl (s_asg  rfl ?_)
  refine w_end ?_
  repeat (with_reducible first | refine c_seq ?_ | refine c_block ?_ | refine c_skip ?_ | refine x_then ?_ | refine x_block ?_)
  refine c_reg ?_
  refine l_pure rfl (s_move  rfl ?_)
  refine l_pure rfl (s_neq  rfl rfl ?_)
  refine l_nil ?_
  repeat (with_reducible first | refine c_seq ?_ | refine c_block ?_ | refine c_skip ?_ | refine x_then ?_ | refine x_block ?_)
  by_cases h : cmpQ (fr k) (fr i) = 0
  · rw [if_neg (not_not_intro h)]
    refine c_no rfl (decide_eq_false (not_not_intro h)) ?_
    repeat (with_reducible first | refine c_seq ?_ | refine c_block ?_ | refine c_skip ?_ | refine x_then ?_ | refine x_block ?_)
    refine c_reg ?_
    refine l_pure rfl (s_move  rfl ?_)
    refine l_pure rfl (s_move  rfl ?_)
    refine l_heavy rfl (s_call Tryz.call69 rfl (cmpCompare_ok i k _) ?_)
    rintro _ wq3 ⟨rfl, hq3⟩
    replace hq3 := hq3.symm
    subst hq3
    refine l_pure rfl (s_asg  rfl ?_)
    refine l_nil ?_
    repeat (with_reducible first | refine c_seq ?_ | refine c_block ?_ | refine c_skip ?_ | refine x_then ?_ | refine x_block ?_)
    refine c_ret ?_
    repeat (with_reducible first | refine x_then_ret ?_ | refine x_block_ret ?_)
    refine r_one rfl rfl ?_
    exact ⟨rfl, hS.below⟩
  · rw [if_pos h]
    refine c_yes rfl (decide_eq_true h) ?_
    repeat (with_reducible first | refine c_seq ?_ | refine c_block ?_ | refine c_skip ?_ | refine x_then ?_ | refine x_block ?_)
    refine c_reg ?_
    refine l_pure rfl (s_move  rfl ?_)
    refine l_pure rfl (s_asg  rfl ?_)
    refine l_nil ?_
    repeat (with_reducible first | refine c_seq ?_ | refine c_block ?_ | refine c_skip ?_ | refine x_then ?_ | refine x_block ?_)
    refine c_ret ?_
    repeat (with_reducible first | refine x_then_ret ?_ | refine x_block_ret ?_)
    refine r_one rfl rfl ?_
    exact ⟨rfl, hS.below⟩
end Go.Proofs.YtmapmdldlcfjhaaGreatDoor
