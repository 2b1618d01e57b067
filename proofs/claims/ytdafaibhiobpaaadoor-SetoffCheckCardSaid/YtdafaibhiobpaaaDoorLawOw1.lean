/-
  Walks: obligations are checked; which are eligible.
-/
import Derived.Test.YtdafaibhiobpaaaDoorLawSo
namespace Go.Proofs.YtdafaibhiobpaaaDoor
open Go Go.RowKit Go.Sx

structure Ob where
  deb : Int
  cre : Int
  amt : RR
  inc : Int
  acq : Int
  cont : Bool
def encOb (o : Ob) : List Value := [.int .i64 o.deb, .int .i64 o.cre, .bool o.amt.neg, .string o.amt.num, .string o.amt.den, .int .i64 o.inc, .int .i64 o.acq, .bool o.cont]
def aggOb (o : Ob) : Value := .agg #[.int .i64 o.deb, .int .i64 o.cre, .bool o.amt.neg, .string o.amt.num, .string o.amt.den, .int .i64 o.inc, .int .i64 o.acq, .bool o.cont]
theorem encOb_len : ∀ o, (encOb o).length = 8 := fun _ => rfl
def zOb : Ob := ⟨0, 0, zRR, 0, 0, false⟩
def isDay (d : Int) : Bool := decide (0 ≤ d ∧ d ≤ 1048576)
def pairB (n a b : Int) : Bool := decide (0 ≤ a ∧ a < n ∧ 0 ≤ b ∧ b < n ∧ a ≠ b)
def obErr (n : Int) (o : Ob) : Int := if pairB n o.deb o.cre = false then 14 else if toQ o.amt < 0 then 7 else if isDay o.inc = false ∨ isDay o.acq = false then 1 else if o.acq < o.inc then 15 else 0
def obsE (n : Int) (l : List Ob) : Int := if n < 0 ∨ 32 < n then 1 else if 64 < l.length then 2 else firstE (obErr n) l
def chkE (n : Int) (l : List Ob) (c s : Int) : Int := if obsE n l ≠ 0 then obsE n l else if isDay c = false ∨ isDay s = false then 1 else 0
def eligB (o : Ob) (c s : Int) : Bool := isDay c && isDay s && !o.cont && decide (o.inc ≤ c) && (decide (o.acq = o.inc) || decide (o.acq < c - s))
def ObB (k : Nat) (l : List Ob) : Prop := ∀ o ∈ l, Lr o.amt ≤ k

/-! ### Who is set off -/
def gO (l : List Ob) (i : Nat) : Ob := l.getD i zOb
def goes (l : List Ob) (c s a b : Int) (i : Nat) : Bool := decide ((gO l i).deb = a) && decide ((gO l i).cre = b) && eligB (gO l i) c s
def selL (l : List Ob) (c s a b : Int) (n : Nat) : List Nat := (List.range n).filter (goes l c s a b)
theorem selL_succ (l : List Ob) (c s a b : Int) (n : Nat) : selL l c s a b (n + 1) = if goes l c s a b n = true then selL l c s a b n ++ [n] else selL l c s a b n := by
  unfold selL
  rw [List.range_succ, List.filter_append]
  cases h : goes l c s a b n with
  | true => simp [h]
  | false => simp [h]
theorem selL_len (l : List Ob) (c s a b : Int) (n : Nat) : (selL l c s a b n).length ≤ n := by
  unfold selL
  have h := List.length_filter_le (goes l c s a b) (List.range n)
  rwa [List.length_range] at h
theorem selL_mem {l : List Ob} {c s a b : Int} {n i : Nat} : i ∈ selL l c s a b n ↔ i < n ∧ goes l c s a b i = true := by
  unfold selL
  rw [List.mem_filter, List.mem_range]
def older (l : List Ob) (i k : Nat) : Bool := decide ((gO l i).inc < (gO l k).inc)
/-- The eligible obligations of a to b in the order in which they are set off. -/
def ordL (l : List Ob) (c s a b : Int) : List Nat := isort (older l) (selL l c s a b l.length)
theorem ordL_mem {l : List Ob} {c s a b : Int} {i : Nat} : i ∈ ordL l c s a b ↔ i < l.length ∧ goes l c s a b i = true := by
  unfold ordL
  rw [(isort_perm _ _).mem_iff, selL_mem]
theorem ordL_nodup (l : List Ob) (c s a b : Int) : (ordL l c s a b).Nodup := by
  unfold ordL
  rw [(isort_perm _ _).nodup_iff]
  exact List.Nodup.sublist List.filter_sublist List.nodup_range
/-- i goes ahead of k. -/
def ahead (l : List Ob) (i k : Nat) : Prop := (gO l i).inc < (gO l k).inc ∨ ((gO l i).inc = (gO l k).inc ∧ i < k)
theorem ordL_sorted (l : List Ob) (c s a b : Int) : (ordL l c s a b).Pairwise (ahead l) := by
  have h := isort_sorted (lt := older l) (L := selL l c s a b l.length) (R := fun i k => i < k)
    (fun i k h => by unfold older at h ⊢; have := of_decide_eq_true h; exact decide_eq_false (by omega))
    (fun i k m h1 h2 => by unfold older at h1 h2 ⊢; have := of_decide_eq_false h1; have := of_decide_eq_false h2; exact decide_eq_false (by omega))
    (List.Pairwise.sublist List.filter_sublist List.pairwise_lt_range)
  refine h.imp ?_
  rintro i k ⟨h1, h2⟩
  unfold older at h1 h2
  have h1' := of_decide_eq_false h1
  by_cases g : (gO l i).inc < (gO l k).inc
  · exact .inl g
  · exact .inr ⟨by omega, h2 (decide_eq_false g)⟩

/-! ### Reducing -/
structure RS where
  rest : Nat → Rat
  amt : Rat
def rstp (s : RS) (i : Nat) : RS := ⟨fun k => if k = i then s.rest i - minQ (s.rest i) s.amt else s.rest k, s.amt - minQ (s.rest i) s.amt⟩
def redu (s : RS) (idx : List Nat) : RS := idx.foldl rstp s
theorem redu_snoc (s : RS) (idx : List Nat) (i : Nat) : redu s (idx ++ [i]) = rstp (redu s idx) i := by unfold redu; rw [List.foldl_append]; rfl
theorem redu_off {idx : List Nat} {i : Nat} (h : i ∉ idx) (s : RS) : (redu s idx).rest i = s.rest i := by
  unfold redu
  induction idx generalizing s with
  | nil => rfl
  | cons k idx ih =>
    rw [List.foldl_cons, ih (fun g => h (List.mem_cons_of_mem _ g))]
    show (if i = k then _ else _) = _
    rw [if_neg (fun g => h (by rw [g]; exact List.mem_cons_self ..))]
theorem redu_congr {idx : List Nat} {s t : RS} (h : ∀ i ∈ idx, s.rest i = t.rest i) (ha : s.amt = t.amt) : (∀ i ∈ idx, (redu s idx).rest i = (redu t idx).rest i) ∧ (redu s idx).amt = (redu t idx).amt := by
  unfold redu
  have key : ∀ (idx : List Nat) (s t : RS) (A : Nat → Prop), (∀ i ∈ idx, A i) → (∀ i, A i → s.rest i = t.rest i) → s.amt = t.amt → (∀ i, A i → (idx.foldl rstp s).rest i = (idx.foldl rstp t).rest i) ∧ (idx.foldl rstp s).amt = (idx.foldl rstp t).amt := by
    intro idx
    induction idx with
    | nil => intro s t A _ h1 h2; exact ⟨h1, h2⟩
    | cons k idx ih =>
      intro s t A hA h1 h2
      rw [List.foldl_cons, List.foldl_cons]
      have hk := h1 k (hA k (List.mem_cons_self ..))
      refine ih _ _ A (fun i hi => hA i (List.mem_cons_of_mem _ hi)) (fun i hi => ?_) ?_
      · show (if i = k then s.rest k - minQ (s.rest k) s.amt else s.rest i) = (if i = k then t.rest k - minQ (t.rest k) t.amt else t.rest i)
        rw [hk, h2, h1 i hi]
      · show s.amt - minQ (s.rest k) s.amt = t.amt - minQ (t.rest k) t.amt
        rw [hk, h2]
  have := key idx s t (fun i => i ∈ idx) (fun _ h => h) h ha
  exact this
def oQ (l : List Ob) (i : Nat) : Rat := toQ (gO l i).amt
def totS (f : Nat → Rat) (idx : List Nat) : Rat := sumQ (idx.map f)
/-- What is set off between a and b. -/
def mQ (l : List Ob) (c s a b : Int) : Rat := minQ (totS (oQ l) (ordL l c s a b)) (totS (oQ l) (ordL l c s b a))
/-- What is left of an obligation. -/
def finQ (l : List Ob) (c s : Int) (i : Nat) : Rat := (redu ⟨oQ l, mQ l c s (gO l i).deb (gO l i).cre⟩ (ordL l c s (gO l i).deb (gO l i).cre)).rest i
theorem minQ_comm' (p q : Rat) : minQ p q = minQ q p := by unfold minQ; split <;> split <;> grind
theorem mQ_comm (l : List Ob) (c s a b : Int) : mQ l c s a b = mQ l c s b a := minQ_comm' _ _
theorem finQ_off {l : List Ob} {c s : Int} {i : Nat} (h : eligB (gO l i) c s = false) : finQ l c s i = oQ l i := by
  unfold finQ
  rw [redu_off]
  intro g
  have := (ordL_mem.1 g).2
  unfold goes at this
  rw [h] at this
  simp at this

/-! ### Facts on reducing -/
theorem sumQ_cons (q : Rat) (l : List Rat) : sumQ (q :: l) = q + sumQ l := by
  have key : ∀ (l : List Rat) (a : Rat), l.foldl (· + ·) a = a + sumQ l := by
    intro l
    induction l with
    | nil => intro a; show a = a + 0; grind
    | cons x l ih =>
      intro a
      rw [List.foldl_cons, ih]
      unfold sumQ
      rw [List.foldl_cons, ih]
      grind
  show l.foldl (· + ·) (0 + q) = _
  rw [key]; grind
theorem sumQ_perm {l m : List Rat} (h : l.Perm m) : sumQ l = sumQ m := by
  induction h with
  | nil => rfl
  | cons x _ ih => rw [sumQ_cons, sumQ_cons, ih]
  | swap x y l => rw [sumQ_cons, sumQ_cons, sumQ_cons, sumQ_cons]; grind
  | trans _ _ ih1 ih2 => rw [ih1, ih2]
theorem sumQ_nonneg {l : List Rat} (h : ∀ q ∈ l, 0 ≤ q) : 0 ≤ sumQ l := by
  induction l with
  | nil => exact Rat.le_refl
  | cons q l ih =>
    rw [sumQ_cons]
    have h1 := ih fun x hx => h x (List.mem_cons_of_mem _ hx)
    have h2 := h q (List.mem_cons_self ..)
    grind
theorem redu_cons (s : RS) (i : Nat) (idx : List Nat) : redu s (i :: idx) = redu (rstp s i) idx := rfl
/-- What a reduction does: nothing falls below 0 or rises; what is taken off in all is the amount, or all that there is. -/
theorem redu_facts {idx : List Nat} (hnd : idx.Nodup) {s : RS} (h0 : ∀ i ∈ idx, 0 ≤ s.rest i) (ha : 0 ≤ s.amt) :
    (∀ i ∈ idx, 0 ≤ (redu s idx).rest i ∧ (redu s idx).rest i ≤ s.rest i) ∧ 0 ≤ (redu s idx).amt ∧ totS s.rest idx - totS (redu s idx).rest idx = s.amt - (redu s idx).amt ∧ (0 < (redu s idx).amt → ∀ i ∈ idx, (redu s idx).rest i = 0) := by
  induction idx generalizing s with
  | nil => refine ⟨fun i hi => (by cases hi), ha, ?_, fun _ i hi => (by cases hi)⟩
           show (0 : Rat) - 0 = s.amt - s.amt
           grind
  | cons k idx ih =>
    obtain ⟨hk, hnd'⟩ := List.nodup_cons.1 hnd
    have hk0 := h0 k (List.mem_cons_self ..)
    have e1 : ∀ i ∈ idx, (rstp s k).rest i = s.rest i := fun i hi => by
      show (if i = k then _ else _) = _
      rw [if_neg (fun g => hk (by rw [← g]; exact hi))]
    have ek : (rstp s k).rest k = s.rest k - minQ (s.rest k) s.amt := by
      show (if k = k then _ else _) = _
      rw [if_pos rfl]
    have ea : (rstp s k).amt = s.amt - minQ (s.rest k) s.amt := rfl
    have hm : minQ (s.rest k) s.amt ≤ s.rest k ∧ minQ (s.rest k) s.amt ≤ s.amt ∧ 0 ≤ minQ (s.rest k) s.amt ∧ (minQ (s.rest k) s.amt = s.rest k ∨ minQ (s.rest k) s.amt = s.amt) := by
      unfold minQ; split <;> grind
    obtain ⟨g1, g2, g3, g4⟩ := ih hnd' (s := rstp s k) (fun i hi => by rw [e1 i hi]; exact h0 i (List.mem_cons_of_mem _ hi)) (by rw [ea]; grind)
    rw [redu_cons]
    have ek2 : (redu (rstp s k) idx).rest k = s.rest k - minQ (s.rest k) s.amt := by rw [redu_off hk, ek]
    have et : totS (rstp s k).rest idx = totS s.rest idx := by
      unfold totS
      rw [List.map_congr_left e1]
    refine ⟨fun i hi => ?_, g2, ?_, fun hpos i hi => ?_⟩
    · rcases List.mem_cons.1 hi with rfl | hi
      · rw [ek2]; grind
      · have := g1 i hi
        rw [e1 i hi] at this
        exact this
    · unfold totS at g3 et ⊢
      rw [List.map_cons, List.map_cons, sumQ_cons, sumQ_cons, ek2]
      rw [et, ea] at g3
      grind
    · rcases List.mem_cons.1 hi with rfl | hi
      · rw [ek2]
        rcases hm.2.2.2 with e | e
        · rw [e]; grind
        · exfalso
          rw [ea, e] at g3
          have h1 := g3
          have h5 : totS (redu (rstp s i) idx).rest idx ≤ totS (rstp s i).rest idx := by
            unfold totS
            clear ih g2 g3 g4 h1
            have : ∀ (J : List Nat), (∀ j ∈ J, (redu (rstp s i) idx).rest j ≤ (rstp s i).rest j) → sumQ (J.map (redu (rstp s i) idx).rest) ≤ sumQ (J.map (rstp s i).rest) := by
              intro J
              induction J with
              | nil => intro _; exact Rat.le_refl
              | cons j J ih =>
                intro h
                rw [List.map_cons, List.map_cons, sumQ_cons, sumQ_cons]
                have h1 := ih fun x hx => h x (List.mem_cons_of_mem _ hx)
                have h2 := h j (List.mem_cons_self ..)
                grind
            exact this idx fun j hj => (g1 j hj).2
          grind
      · exact g4 hpos i hi
/-- Ones that come later are touched only if all ahead of them are gone. -/
theorem redu_order {A B : List Nat} (hnd : (A ++ B).Nodup) {s : RS} (h0 : ∀ i ∈ A ++ B, 0 ≤ s.rest i) (ha : 0 ≤ s.amt) {k : Nat} (hk : k ∈ B) (h : (redu s (A ++ B)).rest k ≠ s.rest k) : ∀ i ∈ A, (redu s (A ++ B)).rest i = 0 := by
  have e : redu s (A ++ B) = redu (redu s A) B := by unfold redu; rw [List.foldl_append]
  rw [List.nodup_append] at hnd
  obtain ⟨n1, n2, n3⟩ := hnd
  obtain ⟨g1, g2, g3, g4⟩ := redu_facts n1 (s := s) (fun i hi => h0 i (List.mem_append_left _ hi)) ha
  have hoff : ∀ i ∈ B, (redu s A).rest i = s.rest i := fun i hi => redu_off (fun g => n3 i g i hi rfl) s
  rw [e] at h ⊢
  have hpos : 0 < (redu s A).amt := by
    refine Rat.not_le.1 fun hle => h ?_
    have hz : (redu s A).amt = 0 := Rat.le_antisymm hle g2
    have : ∀ (B : List Nat) (t : RS), t.amt = 0 → (∀ i ∈ B, 0 ≤ t.rest i) → ∀ i, (redu t B).rest i = t.rest i := by
      intro B
      induction B with
      | nil => intro t _ _ i; rfl
      | cons b B ih =>
        intro t ht hb i
        rw [redu_cons]
        have hb0 := hb b (List.mem_cons_self ..)
        have hm : minQ (t.rest b) t.amt = 0 := by rw [ht]; unfold minQ; split <;> grind
        have hr : ∀ i, (rstp t b).rest i = t.rest i := fun i => by
          show (if i = b then t.rest b - minQ (t.rest b) t.amt else t.rest i) = t.rest i
          rw [hm]
          split
          · next g => rw [g]; grind
          · rfl
        rw [ih (rstp t b) (by show t.amt - minQ (t.rest b) t.amt = 0; rw [hm, ht]; grind) (fun j hj => by rw [hr]; exact hb j (List.mem_cons_of_mem _ hj)), hr]
    rw [this B _ hz (fun i hi => by rw [hoff i hi]; exact h0 i (List.mem_append_right _ hi)) k]
    exact hoff k hk
  intro i hi
  rw [redu_off (fun g => n3 i hi i g rfl)]
  exact g4 hpos i hi
theorem L_sumQ' {l : List Rat} {K : Nat} (h : ∀ q ∈ l, L q ≤ K) (k : Nat) : L (sumQ (l.take k)) ≤ k * (K + 1) + 1 := by
  induction k with
  | zero => rw [List.take_zero]; show L 0 ≤ _; rw [L_zero]; omega
  | succ k ih =>
    by_cases hk : k < l.length
    · rw [take_succ' l k 0 hk, sumQ_snoc]
      have h1 := L_add (sumQ (l.take k)) (l.getD k 0)
      have h2 := h _ (getD_mem l k 0 hk)
      rw [Nat.add_mul]; omega
    · rw [List.take_of_length_le (by omega)]
      rw [List.take_of_length_le (by omega)] at ih
      rw [Nat.add_mul]; omega
end Go.Proofs.YtdafaibhiobpaaaDoor
namespace Go.Proofs.YtdafaibhiobpaaaDoor
open Go Go.RowKit Go.Sx

theorem isDay_ok (d : Int) (w : World) : Ret Tryd.prog 30 #[.int .i64 d] w fun v w' => v = .bool (isDay d) ∧ w' = w := by
  refine enter Tryd.func30 rfl Tryd.ntmps30 rfl ?_
  repeat (with_reducible first | refine c_seq ?_ | refine c_block ?_ | refine c_skip ?_ | refine x_then ?_ | refine x_block ?_)
  refine c_reg ?_
  refine l_pure rfl (s_asg  rfl ?_)
  refine l_nil ?_
  repeat (with_reducible first | refine c_seq ?_ | refine c_block ?_ | refine c_skip ?_ | refine x_then ?_ | refine x_block ?_)
  by_cases h : 0 ≤ d
  · repeat (with_reducible first | refine c_seq ?_ | refine c_block ?_ | refine c_skip ?_ | refine x_then ?_ | refine x_block ?_)
    refine c_reg ?_
    refine l_pure rfl (s_move  rfl ?_)
    refine l_pure rfl (s_geq  rfl rfl ?_)
    refine l_pure rfl (s_move  rfl ?_)
    refine l_pure (gd_yes 5 (by kernel_rfl) rfl (decide_eq_true h)) (s_move  rfl ?_)
    refine l_pure (gd_yes 5 (by kernel_rfl) rfl (decide_eq_true h)) (s_leq  rfl rfl ?_)
    refine l_pure rfl (s_pick (vb rfl (decide_eq_true h)) rfl ?_)
    refine l_pure rfl (s_asg  rfl ?_)
    refine l_nil ?_
    repeat (with_reducible first | refine c_seq ?_ | refine c_block ?_ | refine c_skip ?_ | refine x_then ?_ | refine x_block ?_)
    refine c_ret ?_
    repeat (with_reducible first | refine x_then_ret ?_ | refine x_block_ret ?_)
    refine r_one rfl rfl ?_
    exact ⟨vb rfl (by unfold isDay; simp [h]), rfl⟩
  · repeat (with_reducible first | refine c_seq ?_ | refine c_block ?_ | refine c_skip ?_ | refine x_then ?_ | refine x_block ?_)
    refine c_reg ?_
    refine l_pure rfl (s_move  rfl ?_)
    refine l_pure rfl (s_geq  rfl rfl ?_)
    refine l_pure rfl (s_move  rfl ?_)
    refine l_no (gno_yes 5 (by kernel_rfl) rfl (decide_eq_false h)) ?_
    refine l_no (gno_yes 5 (by kernel_rfl) rfl (decide_eq_false h)) ?_
    refine l_pure rfl (s_pick (vb rfl (decide_eq_false h)) rfl ?_)
    refine l_pure rfl (s_asg  rfl ?_)
    refine l_nil ?_
    repeat (with_reducible first | refine c_seq ?_ | refine c_block ?_ | refine c_skip ?_ | refine x_then ?_ | refine x_block ?_)
    refine c_ret ?_
    repeat (with_reducible first | refine x_then_ret ?_ | refine x_block_ret ?_)
    refine r_one rfl rfl ?_
    exact ⟨vb rfl (by unfold isDay; simp [h]), rfl⟩
theorem pair_ok (n a b : Int) (w : World) : Ret Tryd.prog 32 #[.int .i64 n, .int .i64 a, .int .i64 b] w fun v w' => v = .bool (pairB n a b) ∧ w' = w := by
  refine enter Tryd.func32 rfl Tryd.ntmps32 rfl ?_
  repeat (with_reducible first | refine c_seq ?_ | refine c_block ?_ | refine c_skip ?_ | refine x_then ?_ | refine x_block ?_)
  refine c_reg ?_
  refine l_pure rfl (s_asg  rfl ?_)
  refine l_nil ?_
  repeat (with_reducible first | refine c_seq ?_ | refine c_block ?_ | refine c_skip ?_ | refine x_then ?_ | refine x_block ?_)
  by_cases h1 : 0 ≤ a
  case neg =>
    repeat (with_reducible first | refine c_seq ?_ | refine c_block ?_ | refine c_skip ?_ | refine x_then ?_ | refine x_block ?_)
    refine c_reg ?_
    refine l_pure rfl (s_move  rfl ?_)
    refine l_pure rfl (s_geq  rfl rfl ?_)
    refine l_pure rfl (s_move  rfl ?_)
    refine l_no (gno_yes 9 (by kernel_rfl) rfl (decide_eq_false h1)) ?_
    refine l_no (gno_yes 9 (by kernel_rfl) rfl (decide_eq_false h1)) ?_
    refine l_no (gno_yes 9 (by kernel_rfl) rfl (decide_eq_false h1)) ?_
    refine l_pure rfl (s_pick (vb rfl (decide_eq_false h1)) rfl ?_)
    refine l_pure rfl (s_move  rfl ?_)
    refine l_no (gno_yes 14 (by kernel_rfl) rfl rfl) ?_
    refine l_no (gno_yes 14 (by kernel_rfl) rfl rfl) ?_
    refine l_pure rfl (s_pick (vb rfl rfl) rfl ?_)
    refine l_pure rfl (s_move  rfl ?_)
    refine l_no (gno_yes 18 (by kernel_rfl) rfl rfl) ?_
    refine l_no (gno_yes 18 (by kernel_rfl) rfl rfl) ?_
    refine l_no (gno_yes 18 (by kernel_rfl) rfl rfl) ?_
    refine l_pure rfl (s_pick (vb rfl rfl) rfl ?_)
    refine l_pure rfl (s_move  rfl ?_)
    refine l_no (gno_yes 23 (by kernel_rfl) rfl rfl) ?_
    refine l_no (gno_yes 23 (by kernel_rfl) rfl rfl) ?_
    refine l_no (gno_yes 23 (by kernel_rfl) rfl rfl) ?_
    refine l_pure rfl (s_pick (vb rfl rfl) rfl ?_)
    refine l_pure rfl (s_asg  rfl ?_)
    refine l_nil ?_
    repeat (with_reducible first | refine c_seq ?_ | refine c_block ?_ | refine c_skip ?_ | refine x_then ?_ | refine x_block ?_)
    refine c_ret ?_
    repeat (with_reducible first | refine x_then_ret ?_ | refine x_block_ret ?_)
    refine r_one rfl rfl ?_
    exact ⟨vb rfl (by unfold pairB; simp [h1]), rfl⟩
  by_cases h2 : a < n
  case neg =>
    repeat (with_reducible first | refine c_seq ?_ | refine c_block ?_ | refine c_skip ?_ | refine x_then ?_ | refine x_block ?_)
    refine c_reg ?_
    refine l_pure rfl (s_move  rfl ?_)
    refine l_pure rfl (s_geq  rfl rfl ?_)
    refine l_pure rfl (s_move  rfl ?_)
    refine l_pure (gd_yes 9 (by kernel_rfl) rfl (decide_eq_true h1)) (s_move  rfl ?_)
    refine l_pure (gd_yes 9 (by kernel_rfl) rfl (decide_eq_true h1)) (s_move  rfl ?_)
    refine l_pure (gd_yes 9 (by kernel_rfl) rfl (decide_eq_true h1)) (s_lss  rfl rfl ?_)
    refine l_pure rfl (s_pick (vb rfl (decide_eq_true h1)) rfl ?_)
    refine l_pure rfl (s_move  rfl ?_)
    refine l_no (gno_yes 14 (by kernel_rfl) rfl (decide_eq_false h2)) ?_
    refine l_no (gno_yes 14 (by kernel_rfl) rfl (decide_eq_false h2)) ?_
    refine l_pure rfl (s_pick (vb rfl (decide_eq_false h2)) rfl ?_)
    refine l_pure rfl (s_move  rfl ?_)
    refine l_no (gno_yes 18 (by kernel_rfl) rfl rfl) ?_
    refine l_no (gno_yes 18 (by kernel_rfl) rfl rfl) ?_
    refine l_no (gno_yes 18 (by kernel_rfl) rfl rfl) ?_
    refine l_pure rfl (s_pick (vb rfl rfl) rfl ?_)
    refine l_pure rfl (s_move  rfl ?_)
    refine l_no (gno_yes 23 (by kernel_rfl) rfl rfl) ?_
    refine l_no (gno_yes 23 (by kernel_rfl) rfl rfl) ?_
    refine l_no (gno_yes 23 (by kernel_rfl) rfl rfl) ?_
    refine l_pure rfl (s_pick (vb rfl rfl) rfl ?_)
    refine l_pure rfl (s_asg  rfl ?_)
    refine l_nil ?_
    repeat (with_reducible first | refine c_seq ?_ | refine c_block ?_ | refine c_skip ?_ | refine x_then ?_ | refine x_block ?_)
    refine c_ret ?_
    repeat (with_reducible first | refine x_then_ret ?_ | refine x_block_ret ?_)
    refine r_one rfl rfl ?_
    exact ⟨vb rfl (by unfold pairB; simp [h2]), rfl⟩
  by_cases h3 : 0 ≤ b
  case neg =>
    repeat (with_reducible first | refine c_seq ?_ | refine c_block ?_ | refine c_skip ?_ | refine x_then ?_ | refine x_block ?_)
    refine c_reg ?_
    refine l_pure rfl (s_move  rfl ?_)
    refine l_pure rfl (s_geq  rfl rfl ?_)
    refine l_pure rfl (s_move  rfl ?_)
    refine l_pure (gd_yes 9 (by kernel_rfl) rfl (decide_eq_true h1)) (s_move  rfl ?_)
    refine l_pure (gd_yes 9 (by kernel_rfl) rfl (decide_eq_true h1)) (s_move  rfl ?_)
    refine l_pure (gd_yes 9 (by kernel_rfl) rfl (decide_eq_true h1)) (s_lss  rfl rfl ?_)
    refine l_pure rfl (s_pick (vb rfl (decide_eq_true h1)) rfl ?_)
    refine l_pure rfl (s_move  rfl ?_)
    refine l_pure (gd_yes 14 (by kernel_rfl) rfl (decide_eq_true h2)) (s_move  rfl ?_)
    refine l_pure (gd_yes 14 (by kernel_rfl) rfl (decide_eq_true h2)) (s_geq  rfl rfl ?_)
    refine l_pure rfl (s_pick (vb rfl (decide_eq_true h2)) rfl ?_)
    refine l_pure rfl (s_move  rfl ?_)
    refine l_no (gno_yes 18 (by kernel_rfl) rfl (decide_eq_false h3)) ?_
    refine l_no (gno_yes 18 (by kernel_rfl) rfl (decide_eq_false h3)) ?_
    refine l_no (gno_yes 18 (by kernel_rfl) rfl (decide_eq_false h3)) ?_
    refine l_pure rfl (s_pick (vb rfl (decide_eq_false h3)) rfl ?_)
    refine l_pure rfl (s_move  rfl ?_)
    refine l_no (gno_yes 23 (by kernel_rfl) rfl rfl) ?_
    refine l_no (gno_yes 23 (by kernel_rfl) rfl rfl) ?_
    refine l_no (gno_yes 23 (by kernel_rfl) rfl rfl) ?_
    refine l_pure rfl (s_pick (vb rfl rfl) rfl ?_)
    refine l_pure rfl (s_asg  rfl ?_)
    refine l_nil ?_
    repeat (with_reducible first | refine c_seq ?_ | refine c_block ?_ | refine c_skip ?_ | refine x_then ?_ | refine x_block ?_)
    refine c_ret ?_
    repeat (with_reducible first | refine x_then_ret ?_ | refine x_block_ret ?_)
    refine r_one rfl rfl ?_
    exact ⟨vb rfl (by unfold pairB; simp [h3]), rfl⟩
  by_cases h4 : b < n
  case neg =>
    repeat (with_reducible first | refine c_seq ?_ | refine c_block ?_ | refine c_skip ?_ | refine x_then ?_ | refine x_block ?_)
    refine c_reg ?_
    refine l_pure rfl (s_move  rfl ?_)
    refine l_pure rfl (s_geq  rfl rfl ?_)
    refine l_pure rfl (s_move  rfl ?_)
    refine l_pure (gd_yes 9 (by kernel_rfl) rfl (decide_eq_true h1)) (s_move  rfl ?_)
    refine l_pure (gd_yes 9 (by kernel_rfl) rfl (decide_eq_true h1)) (s_move  rfl ?_)
    refine l_pure (gd_yes 9 (by kernel_rfl) rfl (decide_eq_true h1)) (s_lss  rfl rfl ?_)
    refine l_pure rfl (s_pick (vb rfl (decide_eq_true h1)) rfl ?_)
    refine l_pure rfl (s_move  rfl ?_)
    refine l_pure (gd_yes 14 (by kernel_rfl) rfl (decide_eq_true h2)) (s_move  rfl ?_)
    refine l_pure (gd_yes 14 (by kernel_rfl) rfl (decide_eq_true h2)) (s_geq  rfl rfl ?_)
    refine l_pure rfl (s_pick (vb rfl (decide_eq_true h2)) rfl ?_)
    refine l_pure rfl (s_move  rfl ?_)
    refine l_pure (gd_yes 18 (by kernel_rfl) rfl (decide_eq_true h3)) (s_move  rfl ?_)
    refine l_pure (gd_yes 18 (by kernel_rfl) rfl (decide_eq_true h3)) (s_move  rfl ?_)
    refine l_pure (gd_yes 18 (by kernel_rfl) rfl (decide_eq_true h3)) (s_lss  rfl rfl ?_)
    refine l_pure rfl (s_pick (vb rfl (decide_eq_true h3)) rfl ?_)
    refine l_pure rfl (s_move  rfl ?_)
    refine l_no (gno_yes 23 (by kernel_rfl) rfl (decide_eq_false h4)) ?_
    refine l_no (gno_yes 23 (by kernel_rfl) rfl (decide_eq_false h4)) ?_
    refine l_no (gno_yes 23 (by kernel_rfl) rfl (decide_eq_false h4)) ?_
    refine l_pure rfl (s_pick (vb rfl (decide_eq_false h4)) rfl ?_)
    refine l_pure rfl (s_asg  rfl ?_)
    refine l_nil ?_
    repeat (with_reducible first | refine c_seq ?_ | refine c_block ?_ | refine c_skip ?_ | refine x_then ?_ | refine x_block ?_)
    refine c_ret ?_
    repeat (with_reducible first | refine x_then_ret ?_ | refine x_block_ret ?_)
    refine r_one rfl rfl ?_
    exact ⟨vb rfl (by unfold pairB; simp [h4]), rfl⟩
  repeat (with_reducible first | refine c_seq ?_ | refine c_block ?_ | refine c_skip ?_ | refine x_then ?_ | refine x_block ?_)
  refine c_reg ?_
  refine l_pure rfl (s_move  rfl ?_)
  refine l_pure rfl (s_geq  rfl rfl ?_)
  refine l_pure rfl (s_move  rfl ?_)
  refine l_pure (gd_yes 9 (by kernel_rfl) rfl (decide_eq_true h1)) (s_move  rfl ?_)
  refine l_pure (gd_yes 9 (by kernel_rfl) rfl (decide_eq_true h1)) (s_move  rfl ?_)
  refine l_pure (gd_yes 9 (by kernel_rfl) rfl (decide_eq_true h1)) (s_lss  rfl rfl ?_)
  refine l_pure rfl (s_pick (vb rfl (decide_eq_true h1)) rfl ?_)
  refine l_pure rfl (s_move  rfl ?_)
  refine l_pure (gd_yes 14 (by kernel_rfl) rfl (decide_eq_true h2)) (s_move  rfl ?_)
  refine l_pure (gd_yes 14 (by kernel_rfl) rfl (decide_eq_true h2)) (s_geq  rfl rfl ?_)
  refine l_pure rfl (s_pick (vb rfl (decide_eq_true h2)) rfl ?_)
  refine l_pure rfl (s_move  rfl ?_)
  refine l_pure (gd_yes 18 (by kernel_rfl) rfl (decide_eq_true h3)) (s_move  rfl ?_)
  refine l_pure (gd_yes 18 (by kernel_rfl) rfl (decide_eq_true h3)) (s_move  rfl ?_)
  refine l_pure (gd_yes 18 (by kernel_rfl) rfl (decide_eq_true h3)) (s_lss  rfl rfl ?_)
  refine l_pure rfl (s_pick (vb rfl (decide_eq_true h3)) rfl ?_)
  refine l_pure rfl (s_move  rfl ?_)
  refine l_pure (gd_yes 23 (by kernel_rfl) rfl (decide_eq_true h4)) (s_move  rfl ?_)
  refine l_pure (gd_yes 23 (by kernel_rfl) rfl (decide_eq_true h4)) (s_move  rfl ?_)
  refine l_pure (gd_yes 23 (by kernel_rfl) rfl (decide_eq_true h4)) (s_neq  rfl rfl ?_)
  refine l_pure rfl (s_pick (vb rfl (decide_eq_true h4)) rfl ?_)
  refine l_pure rfl (s_asg  rfl ?_)
  refine l_nil ?_
  repeat (with_reducible first | refine c_seq ?_ | refine c_block ?_ | refine c_skip ?_ | refine x_then ?_ | refine x_block ?_)
  refine c_ret ?_
  repeat (with_reducible first | refine x_then_ret ?_ | refine x_block_ret ?_)
  refine r_one rfl rfl ?_
  exact ⟨vb rfl (by unfold pairB; simp [h1, h2, h3, h4]), rfl⟩
theorem isDay_b {d : Int} (h : isDay d = true) : 0 ≤ d ∧ d ≤ 1048576 := of_decide_eq_true h
set_option maxHeartbeats 1000000 in
theorem Eligible_ok (o : Ob) (c s : Int) (w : World) : Ret Tryd.prog 13 #[aggOb o, .int .i64 c, .int .i64 s] w fun v w' => v = .bool (eligB o c s) ∧ Below w.heap.size w w' := by
  have hS := St.init w
  refine enter Tryd.func13 rfl Tryd.ntmps13 rfl ?_
  repeat (with_reducible first | refine c_seq ?_ | refine c_block ?_ | refine c_skip ?_ | refine x_then ?_ | refine x_block ?_)
  refine c_reg ?_
  refine l_heavy rfl (s_box  rfl rfl hS ?_)
  intro b3 wz1 hS hBz1
  refine l_pure rfl (s_asg  rfl ?_)
  refine l_nil ?_
  repeat (with_reducible first | refine c_seq ?_ | refine c_block ?_ | refine c_skip ?_ | refine x_then ?_ | refine x_block ?_)
  replace hS : St w _ [(b3, 28, encOb o)] := hS
  cases h1 : isDay c with
  | false =>
    repeat (with_reducible first | refine c_seq ?_ | refine c_block ?_ | refine c_skip ?_ | refine x_then ?_ | refine x_block ?_)
    refine c_reg ?_
    refine l_pure rfl (s_move  rfl ?_)
    refine l_heavy rfl (s_call Tryd.call30 rfl (isDay_ok c _) ?_)
    rintro _ wq2 ⟨rfl, hq2⟩
    replace hq2 := hq2.symm
    subst hq2
    refine l_pure rfl (s_move  rfl ?_)
    refine l_no (gno_yes 9 (by kernel_rfl) rfl h1) ?_
    refine l_no (gno_yes 9 (by kernel_rfl) rfl h1) ?_
    refine l_pure rfl (s_pick (vb rfl h1) rfl ?_)
    refine l_pure rfl (s_move  rfl ?_)
    refine l_no (gno_yes 13 (by kernel_rfl) rfl rfl) ?_
    refine l_no (gno_yes 13 (by kernel_rfl) rfl rfl) ?_
    refine l_no (gno_yes 13 (by kernel_rfl) rfl rfl) ?_
    refine l_pure rfl (s_pick (vb rfl rfl) rfl ?_)
    refine l_pure rfl (s_move  rfl ?_)
    refine l_no (gno_yes 18 (by kernel_rfl) rfl rfl) ?_
    refine l_no (gno_yes 18 (by kernel_rfl) rfl rfl) ?_
    refine l_no (gno_yes 18 (by kernel_rfl) rfl rfl) ?_
    refine l_no (gno_yes 18 (by kernel_rfl) rfl rfl) ?_
    refine l_pure rfl (s_pick (vb rfl rfl) rfl ?_)
    refine l_pure rfl (s_move  rfl ?_)
    refine l_no (gno_yes 24 (by kernel_rfl) rfl rfl) ?_
    refine l_no (gno_yes 24 (by kernel_rfl) rfl rfl) ?_
    refine l_no (gno_yes 24 (by kernel_rfl) rfl rfl) ?_
    refine l_no (gno_yes 24 (by kernel_rfl) rfl rfl) ?_
    refine l_no (gno_yes 24 (by kernel_rfl) rfl rfl) ?_
    refine l_no (gno_yes 24 (by kernel_rfl) rfl rfl) ?_
    refine l_no (gno_un 30 (by kernel_rfl) rfl) ?_
    refine l_no (gno_un 30 (by kernel_rfl) rfl) ?_
    refine l_no (gno_un 30 (by kernel_rfl) rfl) ?_
    refine l_no (gno_un 30 (by kernel_rfl) rfl) ?_
    refine l_no (gno_un 30 (by kernel_rfl) rfl) ?_
    refine l_no (gno_un 30 (by kernel_rfl) rfl) ?_
    refine l_no (gno_yes 24 (by kernel_rfl) rfl rfl) ?_
    refine l_pure rfl (s_pick (vb rfl rfl) rfl ?_)
    refine l_pure rfl (s_asg  rfl ?_)
    refine l_nil ?_
    repeat (with_reducible first | refine c_seq ?_ | refine c_block ?_ | refine c_skip ?_ | refine x_then ?_ | refine x_block ?_)
    refine c_ret ?_
    repeat (with_reducible first | refine x_then_ret ?_ | refine x_block_ret ?_)
    refine r_one rfl rfl ?_
    exact ⟨vb rfl (by unfold eligB; simp [h1]), hS.below⟩
  | true =>
  cases h2 : isDay s with
  | false =>
    repeat (with_reducible first | refine c_seq ?_ | refine c_block ?_ | refine c_skip ?_ | refine x_then ?_ | refine x_block ?_)
    refine c_reg ?_
    refine l_pure rfl (s_move  rfl ?_)
    refine l_heavy rfl (s_call Tryd.call30 rfl (isDay_ok c _) ?_)
    rintro _ wq3 ⟨rfl, hq3⟩
    replace hq3 := hq3.symm
    subst hq3
    refine l_pure rfl (s_move  rfl ?_)
    refine l_pure (gd_yes 9 (by kernel_rfl) rfl h1) (s_move  rfl ?_)
    refine l_heavy (gd_yes 9 (by kernel_rfl) rfl h1) (s_call Tryd.call30 rfl (isDay_ok s _) ?_)
    rintro _ wq4 ⟨rfl, hq4⟩
    replace hq4 := hq4.symm
    subst hq4
    refine l_pure rfl (s_pick (vb rfl h1) rfl ?_)
    refine l_pure rfl (s_move  rfl ?_)
    refine l_no (gno_yes 13 (by kernel_rfl) rfl h2) ?_
    refine l_no (gno_yes 13 (by kernel_rfl) rfl h2) ?_
    refine l_no (gno_yes 13 (by kernel_rfl) rfl h2) ?_
    refine l_pure rfl (s_pick (vb rfl h2) rfl ?_)
    refine l_pure rfl (s_move  rfl ?_)
    refine l_no (gno_yes 18 (by kernel_rfl) rfl rfl) ?_
    refine l_no (gno_yes 18 (by kernel_rfl) rfl rfl) ?_
    refine l_no (gno_yes 18 (by kernel_rfl) rfl rfl) ?_
    refine l_no (gno_yes 18 (by kernel_rfl) rfl rfl) ?_
    refine l_pure rfl (s_pick (vb rfl rfl) rfl ?_)
    refine l_pure rfl (s_move  rfl ?_)
    refine l_no (gno_yes 24 (by kernel_rfl) rfl rfl) ?_
    refine l_no (gno_yes 24 (by kernel_rfl) rfl rfl) ?_
    refine l_no (gno_yes 24 (by kernel_rfl) rfl rfl) ?_
    refine l_no (gno_yes 24 (by kernel_rfl) rfl rfl) ?_
    refine l_no (gno_yes 24 (by kernel_rfl) rfl rfl) ?_
    refine l_no (gno_yes 24 (by kernel_rfl) rfl rfl) ?_
    refine l_no (gno_un 30 (by kernel_rfl) rfl) ?_
    refine l_no (gno_un 30 (by kernel_rfl) rfl) ?_
    refine l_no (gno_un 30 (by kernel_rfl) rfl) ?_
    refine l_no (gno_un 30 (by kernel_rfl) rfl) ?_
    refine l_no (gno_un 30 (by kernel_rfl) rfl) ?_
    refine l_no (gno_un 30 (by kernel_rfl) rfl) ?_
    refine l_no (gno_yes 24 (by kernel_rfl) rfl rfl) ?_
    refine l_pure rfl (s_pick (vb rfl rfl) rfl ?_)
    refine l_pure rfl (s_asg  rfl ?_)
    refine l_nil ?_
    repeat (with_reducible first | refine c_seq ?_ | refine c_block ?_ | refine c_skip ?_ | refine x_then ?_ | refine x_block ?_)
    refine c_ret ?_
    repeat (with_reducible first | refine x_then_ret ?_ | refine x_block_ret ?_)
    refine r_one rfl rfl ?_
    exact ⟨vb rfl (by unfold eligB; simp [h2]), hS.below⟩
  | true =>
  have c1 := isDay_b h1
  have s1 := isDay_b h2
  cases h3 : o.cont with
  | true =>
    have h3n : (!o.cont) = false := by rw [h3]; rfl
    repeat (with_reducible first | refine c_seq ?_ | refine c_block ?_ | refine c_skip ?_ | refine x_then ?_ | refine x_block ?_)
    refine c_reg ?_
    refine l_pure rfl (s_move  rfl ?_)
    refine l_heavy rfl (s_call Tryd.call30 rfl (isDay_ok c _) ?_)
    rintro _ wq5 ⟨rfl, hq5⟩
    replace hq5 := hq5.symm
    subst hq5
    refine l_pure rfl (s_move  rfl ?_)
    refine l_pure (gd_yes 9 (by kernel_rfl) rfl h1) (s_move  rfl ?_)
    refine l_heavy (gd_yes 9 (by kernel_rfl) rfl h1) (s_call Tryd.call30 rfl (isDay_ok s _) ?_)
    rintro _ wq6 ⟨rfl, hq6⟩
    replace hq6 := hq6.symm
    subst hq6
    refine l_pure rfl (s_pick (vb rfl h1) rfl ?_)
    refine l_pure rfl (s_move  rfl ?_)
    refine l_pure (gd_yes 13 (by kernel_rfl) rfl h2) (s_fld  rfl fo_28_5 ?_)
    refine l_read (gd_yes 13 (by kernel_rfl) rfl h2) (s_ldo (k := 0)  rfl vi_4 hS rfl rfl rfl (.inr rfl) ?_)
    refine l_pure (gd_yes 13 (by kernel_rfl) rfl h2) (s_not  rfl ?_)
    refine l_pure rfl (s_pick (vb rfl h2) rfl ?_)
    refine l_pure rfl (s_move  rfl ?_)
    refine l_no (gno_yes 18 (by kernel_rfl) rfl h3n) ?_
    refine l_no (gno_yes 18 (by kernel_rfl) rfl h3n) ?_
    refine l_no (gno_yes 18 (by kernel_rfl) rfl h3n) ?_
    refine l_no (gno_yes 18 (by kernel_rfl) rfl h3n) ?_
    refine l_pure rfl (s_pick (vb rfl h3n) rfl ?_)
    refine l_pure rfl (s_move  rfl ?_)
    refine l_no (gno_yes 24 (by kernel_rfl) rfl rfl) ?_
    refine l_no (gno_yes 24 (by kernel_rfl) rfl rfl) ?_
    refine l_no (gno_yes 24 (by kernel_rfl) rfl rfl) ?_
    refine l_no (gno_yes 24 (by kernel_rfl) rfl rfl) ?_
    refine l_no (gno_yes 24 (by kernel_rfl) rfl rfl) ?_
    refine l_no (gno_yes 24 (by kernel_rfl) rfl rfl) ?_
    refine l_no (gno_un 30 (by kernel_rfl) rfl) ?_
    refine l_no (gno_un 30 (by kernel_rfl) rfl) ?_
    refine l_no (gno_un 30 (by kernel_rfl) rfl) ?_
    refine l_no (gno_un 30 (by kernel_rfl) rfl) ?_
    refine l_no (gno_un 30 (by kernel_rfl) rfl) ?_
    refine l_no (gno_un 30 (by kernel_rfl) rfl) ?_
    refine l_no (gno_yes 24 (by kernel_rfl) rfl rfl) ?_
    refine l_pure rfl (s_pick (vb rfl rfl) rfl ?_)
    refine l_pure rfl (s_asg  rfl ?_)
    refine l_nil ?_
    repeat (with_reducible first | refine c_seq ?_ | refine c_block ?_ | refine c_skip ?_ | refine x_then ?_ | refine x_block ?_)
    refine c_ret ?_
    repeat (with_reducible first | refine x_then_ret ?_ | refine x_block_ret ?_)
    refine r_one rfl rfl ?_
    exact ⟨vb rfl (by unfold eligB; simp [h3]), hS.below⟩
  | false =>
  have h3y : (!o.cont) = true := by rw [h3]; rfl
  by_cases h4 : o.inc ≤ c
  case neg =>
    repeat (with_reducible first | refine c_seq ?_ | refine c_block ?_ | refine c_skip ?_ | refine x_then ?_ | refine x_block ?_)
    refine c_reg ?_
    refine l_pure rfl (s_move  rfl ?_)
    refine l_heavy rfl (s_call Tryd.call30 rfl (isDay_ok c _) ?_)
    rintro _ wq7 ⟨rfl, hq7⟩
    replace hq7 := hq7.symm
    subst hq7
    refine l_pure rfl (s_move  rfl ?_)
    refine l_pure (gd_yes 9 (by kernel_rfl) rfl h1) (s_move  rfl ?_)
    refine l_heavy (gd_yes 9 (by kernel_rfl) rfl h1) (s_call Tryd.call30 rfl (isDay_ok s _) ?_)
    rintro _ wq8 ⟨rfl, hq8⟩
    replace hq8 := hq8.symm
    subst hq8
    refine l_pure rfl (s_pick (vb rfl h1) rfl ?_)
    refine l_pure rfl (s_move  rfl ?_)
    refine l_pure (gd_yes 13 (by kernel_rfl) rfl h2) (s_fld  rfl fo_28_5 ?_)
    refine l_read (gd_yes 13 (by kernel_rfl) rfl h2) (s_ldo (k := 0)  rfl vi_4 hS rfl rfl rfl (.inr rfl) ?_)
    refine l_pure (gd_yes 13 (by kernel_rfl) rfl h2) (s_not  rfl ?_)
    refine l_pure rfl (s_pick (vb rfl h2) rfl ?_)
    refine l_pure rfl (s_move  rfl ?_)
    refine l_pure (gd_yes 18 (by kernel_rfl) rfl h3y) (s_fld  rfl fo_28_3 ?_)
    refine l_read (gd_yes 18 (by kernel_rfl) rfl h3y) (s_ldo (k := 0)  rfl vi_3 hS rfl rfl rfl (.inr rfl) ?_)
    refine l_pure (gd_yes 18 (by kernel_rfl) rfl h3y) (s_move  rfl ?_)
    refine l_pure (gd_yes 18 (by kernel_rfl) rfl h3y) (s_leq  rfl rfl ?_)
    refine l_pure rfl (s_pick (vb rfl h3y) rfl ?_)
    refine l_pure rfl (s_move  rfl ?_)
    refine l_no (gno_yes 24 (by kernel_rfl) rfl (decide_eq_false h4)) ?_
    refine l_no (gno_yes 24 (by kernel_rfl) rfl (decide_eq_false h4)) ?_
    refine l_no (gno_yes 24 (by kernel_rfl) rfl (decide_eq_false h4)) ?_
    refine l_no (gno_yes 24 (by kernel_rfl) rfl (decide_eq_false h4)) ?_
    refine l_no (gno_yes 24 (by kernel_rfl) rfl (decide_eq_false h4)) ?_
    refine l_no (gno_yes 24 (by kernel_rfl) rfl (decide_eq_false h4)) ?_
    refine l_no (gno_un 30 (by kernel_rfl) rfl) ?_
    refine l_no (gno_un 30 (by kernel_rfl) rfl) ?_
    refine l_no (gno_un 30 (by kernel_rfl) rfl) ?_
    refine l_no (gno_un 30 (by kernel_rfl) rfl) ?_
    refine l_no (gno_un 30 (by kernel_rfl) rfl) ?_
    refine l_no (gno_un 30 (by kernel_rfl) rfl) ?_
    refine l_no (gno_yes 24 (by kernel_rfl) rfl (decide_eq_false h4)) ?_
    refine l_pure rfl (s_pick (vb rfl (decide_eq_false h4)) rfl ?_)
    refine l_pure rfl (s_asg  rfl ?_)
    refine l_nil ?_
    repeat (with_reducible first | refine c_seq ?_ | refine c_block ?_ | refine c_skip ?_ | refine x_then ?_ | refine x_block ?_)
    refine c_ret ?_
    repeat (with_reducible first | refine x_then_ret ?_ | refine x_block_ret ?_)
    refine r_one rfl rfl ?_
    exact ⟨vb rfl (by unfold eligB; simp [h4]), hS.below⟩
  by_cases h5 : o.acq = o.inc
  · repeat (with_reducible first | refine c_seq ?_ | refine c_block ?_ | refine c_skip ?_ | refine x_then ?_ | refine x_block ?_)
    refine c_reg ?_
    refine l_pure rfl (s_move  rfl ?_)
    refine l_heavy rfl (s_call Tryd.call30 rfl (isDay_ok c _) ?_)
    rintro _ wq9 ⟨rfl, hq9⟩
    replace hq9 := hq9.symm
    subst hq9
    refine l_pure rfl (s_move  rfl ?_)
    refine l_pure (gd_yes 9 (by kernel_rfl) rfl h1) (s_move  rfl ?_)
    refine l_heavy (gd_yes 9 (by kernel_rfl) rfl h1) (s_call Tryd.call30 rfl (isDay_ok s _) ?_)
    rintro _ wq10 ⟨rfl, hq10⟩
    replace hq10 := hq10.symm
    subst hq10
    refine l_pure rfl (s_pick (vb rfl h1) rfl ?_)
    refine l_pure rfl (s_move  rfl ?_)
    refine l_pure (gd_yes 13 (by kernel_rfl) rfl h2) (s_fld  rfl fo_28_5 ?_)
    refine l_read (gd_yes 13 (by kernel_rfl) rfl h2) (s_ldo (k := 0)  rfl vi_4 hS rfl rfl rfl (.inr rfl) ?_)
    refine l_pure (gd_yes 13 (by kernel_rfl) rfl h2) (s_not  rfl ?_)
    refine l_pure rfl (s_pick (vb rfl h2) rfl ?_)
    refine l_pure rfl (s_move  rfl ?_)
    refine l_pure (gd_yes 18 (by kernel_rfl) rfl h3y) (s_fld  rfl fo_28_3 ?_)
    refine l_read (gd_yes 18 (by kernel_rfl) rfl h3y) (s_ldo (k := 0)  rfl vi_3 hS rfl rfl rfl (.inr rfl) ?_)
    refine l_pure (gd_yes 18 (by kernel_rfl) rfl h3y) (s_move  rfl ?_)
    refine l_pure (gd_yes 18 (by kernel_rfl) rfl h3y) (s_leq  rfl rfl ?_)
    refine l_pure rfl (s_pick (vb rfl h3y) rfl ?_)
    refine l_pure rfl (s_move  rfl ?_)
    refine l_pure (gd_yes 24 (by kernel_rfl) rfl (decide_eq_true h4)) (s_fld  rfl fo_28_4 ?_)
    refine l_read (gd_yes 24 (by kernel_rfl) rfl (decide_eq_true h4)) (s_ldo (k := 0)  rfl vi_3 hS rfl rfl rfl (.inr rfl) ?_)
    refine l_pure (gd_yes 24 (by kernel_rfl) rfl (decide_eq_true h4)) (s_fld  rfl fo_28_3 ?_)
    refine l_read (gd_yes 24 (by kernel_rfl) rfl (decide_eq_true h4)) (s_ldo (k := 0)  rfl vi_3 hS rfl rfl rfl (.inr rfl) ?_)
    refine l_pure (gd_yes 24 (by kernel_rfl) rfl (decide_eq_true h4)) (s_eql  rfl rfl ?_)
    refine l_pure (gd_yes 24 (by kernel_rfl) rfl (decide_eq_true h4)) (s_move  rfl ?_)
    refine l_no (gno_yes 30 (by kernel_rfl) rfl (decide_eq_true h5)) ?_
    refine l_no (gno_yes 30 (by kernel_rfl) rfl (decide_eq_true h5)) ?_
    refine l_no (gno_yes 30 (by kernel_rfl) rfl (decide_eq_true h5)) ?_
    refine l_no (gno_yes 30 (by kernel_rfl) rfl (decide_eq_true h5)) ?_
    refine l_no (gno_yes 30 (by kernel_rfl) rfl (decide_eq_true h5)) ?_
    refine l_no (gno_yes 30 (by kernel_rfl) rfl (decide_eq_true h5)) ?_
    refine l_pure (gd_yes 24 (by kernel_rfl) rfl (decide_eq_true h4)) (s_pick (vb rfl (decide_eq_true h5)) rfl ?_)
    refine l_pure rfl (s_pick (vb rfl (decide_eq_true h4)) rfl ?_)
    refine l_pure rfl (s_asg  rfl ?_)
    refine l_nil ?_
    repeat (with_reducible first | refine c_seq ?_ | refine c_block ?_ | refine c_skip ?_ | refine x_then ?_ | refine x_block ?_)
    refine c_ret ?_
    repeat (with_reducible first | refine x_then_ret ?_ | refine x_block_ret ?_)
    refine r_one rfl rfl ?_
    exact ⟨vb rfl (by unfold eligB; simp [h1, h2, h3, h4, h5]), hS.below⟩
  · repeat (with_reducible first | refine c_seq ?_ | refine c_block ?_ | refine c_skip ?_ | refine x_then ?_ | refine x_block ?_)
    refine c_reg ?_
    refine l_pure rfl (s_move  rfl ?_)
    refine l_heavy rfl (s_call Tryd.call30 rfl (isDay_ok c _) ?_)
    rintro _ wq11 ⟨rfl, hq11⟩
    replace hq11 := hq11.symm
    subst hq11
    refine l_pure rfl (s_move  rfl ?_)
    refine l_pure (gd_yes 9 (by kernel_rfl) rfl h1) (s_move  rfl ?_)
    refine l_heavy (gd_yes 9 (by kernel_rfl) rfl h1) (s_call Tryd.call30 rfl (isDay_ok s _) ?_)
    rintro _ wq12 ⟨rfl, hq12⟩
    replace hq12 := hq12.symm
    subst hq12
    refine l_pure rfl (s_pick (vb rfl h1) rfl ?_)
    refine l_pure rfl (s_move  rfl ?_)
    refine l_pure (gd_yes 13 (by kernel_rfl) rfl h2) (s_fld  rfl fo_28_5 ?_)
    refine l_read (gd_yes 13 (by kernel_rfl) rfl h2) (s_ldo (k := 0)  rfl vi_4 hS rfl rfl rfl (.inr rfl) ?_)
    refine l_pure (gd_yes 13 (by kernel_rfl) rfl h2) (s_not  rfl ?_)
    refine l_pure rfl (s_pick (vb rfl h2) rfl ?_)
    refine l_pure rfl (s_move  rfl ?_)
    refine l_pure (gd_yes 18 (by kernel_rfl) rfl h3y) (s_fld  rfl fo_28_3 ?_)
    refine l_read (gd_yes 18 (by kernel_rfl) rfl h3y) (s_ldo (k := 0)  rfl vi_3 hS rfl rfl rfl (.inr rfl) ?_)
    refine l_pure (gd_yes 18 (by kernel_rfl) rfl h3y) (s_move  rfl ?_)
    refine l_pure (gd_yes 18 (by kernel_rfl) rfl h3y) (s_leq  rfl rfl ?_)
    refine l_pure rfl (s_pick (vb rfl h3y) rfl ?_)
    refine l_pure rfl (s_move  rfl ?_)
    refine l_pure (gd_yes 24 (by kernel_rfl) rfl (decide_eq_true h4)) (s_fld  rfl fo_28_4 ?_)
    refine l_read (gd_yes 24 (by kernel_rfl) rfl (decide_eq_true h4)) (s_ldo (k := 0)  rfl vi_3 hS rfl rfl rfl (.inr rfl) ?_)
    refine l_pure (gd_yes 24 (by kernel_rfl) rfl (decide_eq_true h4)) (s_fld  rfl fo_28_3 ?_)
    refine l_read (gd_yes 24 (by kernel_rfl) rfl (decide_eq_true h4)) (s_ldo (k := 0)  rfl vi_3 hS rfl rfl rfl (.inr rfl) ?_)
    refine l_pure (gd_yes 24 (by kernel_rfl) rfl (decide_eq_true h4)) (s_eql  rfl rfl ?_)
    refine l_pure (gd_yes 24 (by kernel_rfl) rfl (decide_eq_true h4)) (s_move  rfl ?_)
    refine l_pure (gd_yes 30 (by kernel_rfl) rfl (decide_eq_false h5)) (s_fld  rfl fo_28_4 ?_)
    refine l_read (gd_yes 30 (by kernel_rfl) rfl (decide_eq_false h5)) (s_ldo (k := 0)  rfl vi_3 hS rfl rfl rfl (.inr rfl) ?_)
    refine l_pure (gd_yes 30 (by kernel_rfl) rfl (decide_eq_false h5)) (s_move  rfl ?_)
    refine l_pure (gd_yes 30 (by kernel_rfl) rfl (decide_eq_false h5)) (s_move  rfl ?_)
    refine l_pure (gd_yes 30 (by kernel_rfl) rfl (decide_eq_false h5)) (s_sub  rfl rfl (IntWalk.i64_in _ (by omega)) ?_)
    refine l_pure (gd_yes 30 (by kernel_rfl) rfl (decide_eq_false h5)) (s_lss  rfl rfl ?_)
    refine l_pure (gd_yes 24 (by kernel_rfl) rfl (decide_eq_true h4)) (s_pick (vb rfl (decide_eq_false h5)) rfl ?_)
    refine l_pure rfl (s_pick (vb rfl (decide_eq_true h4)) rfl ?_)
    refine l_pure rfl (s_asg  rfl ?_)
    refine l_nil ?_
    repeat (with_reducible first | refine c_seq ?_ | refine c_block ?_ | refine c_skip ?_ | refine x_then ?_ | refine x_block ?_)
    refine c_ret ?_
    repeat (with_reducible first | refine x_then_ret ?_ | refine x_block_ret ?_)
    refine r_one rfl rfl ?_
    exact ⟨vb rfl (by unfold eligB; simp [h1, h2, h3, h4, h5]), hS.below⟩
set_option maxHeartbeats 1000000 in
theorem OCheck_ok (n : Int) (vl : Value) (l : List Ob) (w : World) (hl : Sl encOb 8 w vl l) (hB : ObB MX l) :
    Ret Tryd.prog 15 #[.int .i64 n, vl] w fun v w' => v = .int .i64 (obsE n l) ∧ Below w.heap.size w w' := by
  have hmax := hl.maxLen
  have hS := St.init w
  refine enter Tryd.func15 rfl Tryd.ntmps15 rfl ?_
  repeat (with_reducible first | refine c_seq ?_ | refine c_block ?_ | refine c_skip ?_ | refine x_then ?_ | refine x_block ?_)
  refine c_reg ?_
  refine l_pure rfl (s_asg  rfl ?_)
  refine l_nil ?_
  repeat (with_reducible first | refine c_seq ?_ | refine c_skip ?_ | refine x_then ?_ | refine x_block ?_)
  refine c_cut1 (fun ρ w' => ρ 0 = .int .i64 n ∧ ρ 1 = vl ∧ w' = w ∧ ¬ (n < 0 ∨ 32 < n) ∧ ¬ 64 < l.length) ?_ ?_
  · repeat (with_reducible first | refine c_seq ?_ | refine c_block ?_ | refine c_skip ?_ | refine x_then ?_ | refine x_block ?_)
    refine c_cut1 (fun ρ w' => ρ 0 = .int .i64 n ∧ ρ 1 = vl ∧ ρ 7 = .bool (decide (n < 0 ∨ 32 < n)) ∧ w' = w) ?_ ?_
    · by_cases h1 : n < 0
      · repeat (with_reducible first | refine c_seq ?_ | refine c_block ?_ | refine c_skip ?_ | refine x_then ?_ | refine x_block ?_)
        refine c_reg ?_
        refine l_pure rfl (s_move  rfl ?_)
        refine l_pure rfl (s_lss  rfl rfl ?_)
        refine l_pure rfl (s_move  rfl ?_)
        refine l_no (gno_yes 10 (by kernel_rfl) rfl (decide_eq_true h1)) ?_
        refine l_no (gno_yes 10 (by kernel_rfl) rfl (decide_eq_true h1)) ?_
        refine l_pure rfl (s_pick (vb rfl (decide_eq_true h1)) rfl ?_)
        refine l_pure rfl (s_asg  rfl ?_)
        refine l_nil ?_
        repeat (with_reducible first | refine c_seq ?_ | refine c_block ?_ | refine c_skip ?_ | refine x_then ?_ | refine x_block ?_)
        exact ⟨_, rfl, rfl, rfl, vb rfl (by simp [h1]), rfl⟩
      · repeat (with_reducible first | refine c_seq ?_ | refine c_block ?_ | refine c_skip ?_ | refine x_then ?_ | refine x_block ?_)
        refine c_reg ?_
        refine l_pure rfl (s_move  rfl ?_)
        refine l_pure rfl (s_lss  rfl rfl ?_)
        refine l_pure rfl (s_move  rfl ?_)
        refine l_pure (gd_yes 10 (by kernel_rfl) rfl (decide_eq_false h1)) (s_move  rfl ?_)
        refine l_pure (gd_yes 10 (by kernel_rfl) rfl (decide_eq_false h1)) (s_gtr  rfl rfl ?_)
        refine l_pure rfl (s_pick (vb rfl (decide_eq_false h1)) rfl ?_)
        refine l_pure rfl (s_asg  rfl ?_)
        refine l_nil ?_
        repeat (with_reducible first | refine c_seq ?_ | refine c_block ?_ | refine c_skip ?_ | refine x_then ?_ | refine x_block ?_)
        exact ⟨_, rfl, rfl, rfl, vb rfl (by simp [h1]), rfl⟩
    rintro ρ w2 ⟨h0, h1, h7, rfl⟩
    repeat (with_reducible first | refine c_seq ?_ | refine c_block ?_ | refine c_skip ?_ | refine x_then ?_ | refine x_block ?_)
    by_cases hr : n < 0 ∨ 32 < n
    · refine c_yes h7 (decide_eq_true hr) ?_
      repeat (with_reducible first | refine c_seq ?_ | refine c_block ?_ | refine c_skip ?_ | refine x_then ?_ | refine x_block ?_)
      refine c_reg ?_
      refine l_pure rfl (s_asg  rfl ?_)
      refine l_nil ?_
      repeat (with_reducible first | refine c_seq ?_ | refine c_block ?_ | refine c_skip ?_ | refine x_then ?_ | refine x_block ?_)
      refine c_ret ?_
      repeat (with_reducible first | refine x_then_ret ?_ | refine x_block_ret ?_)
      refine r_one rfl rfl ?_
      exact ⟨vi rfl (by unfold obsE; rw [if_pos hr]), hS.below⟩
    · refine c_no h7 (decide_eq_false hr) ?_
      repeat (with_reducible first | refine c_seq ?_ | refine c_block ?_ | refine c_skip ?_ | refine x_then ?_ | refine x_block ?_)
      refine c_reg ?_
      refine l_pure rfl (s_move  h1 ?_)
      refine l_pure rfl (s_lenr  rfl (hl.below hS.below) ⟨_, Tryd.underlying22⟩ ?_)
      refine l_pure rfl (s_gtr  rfl rfl ?_)
      refine l_pure rfl (s_asg  rfl ?_)
      refine l_nil ?_
      repeat (with_reducible first | refine c_seq ?_ | refine c_block ?_ | refine c_skip ?_ | refine x_then ?_ | refine x_block ?_)
      by_cases h64 : 64 < l.length
      · refine c_yes rfl (decide_eq_true (by omega)) ?_
        repeat (with_reducible first | refine c_seq ?_ | refine c_block ?_ | refine c_skip ?_ | refine x_then ?_ | refine x_block ?_)
        refine c_reg ?_
        refine l_pure rfl (s_asg  rfl ?_)
        refine l_nil ?_
        repeat (with_reducible first | refine c_seq ?_ | refine c_block ?_ | refine c_skip ?_ | refine x_then ?_ | refine x_block ?_)
        refine c_ret ?_
        repeat (with_reducible first | refine x_then_ret ?_ | refine x_block_ret ?_)
        refine r_one rfl rfl ?_
        exact ⟨vi rfl (by unfold obsE; rw [if_neg hr, if_pos h64]), hS.below⟩
      · refine c_no rfl (decide_eq_false (by omega)) ?_
        repeat (with_reducible first | refine c_seq ?_ | refine c_block ?_ | refine c_skip ?_ | refine x_then ?_ | refine x_block ?_)
        exact ⟨_, rfl, by assumption, by assumption, rfl, hr, h64⟩
  rintro ρ w2 ⟨h0, h1, rfl, hr, h64⟩
  have hfin : obsE n l = firstE (obErr n) l := by unfold obsE; rw [if_neg hr, if_neg h64]
  rw [hfin]
  repeat (with_reducible first | refine c_seq ?_ | refine c_block ?_ | refine c_skip ?_ | refine x_then ?_ | refine x_block ?_)
  refine c_reg ?_
  refine l_pure rfl (s_move  h1 ?_)
  refine l_pure rfl (s_lenr  rfl (hl.below hS.below) ⟨_, Tryd.underlying22⟩ ?_)
  refine l_pure rfl (s_move  rfl ?_)
  refine l_nil ?_
  repeat (with_reducible first | refine c_seq ?_ | refine c_block ?_ | refine c_skip ?_ | refine x_then ?_ | refine x_block ?_)
  refine c_loop (σ := Nat) (fun i ρ w' => i ≤ l.length ∧ firstE (obErr n) (l.take i) = 0 ∧ ρ 0 = .int .i64 n ∧ ρ 18 = vl ∧ ρ 19 = .int .i64 l.length ∧ ρ 20 = .int .i64 i ∧ St w2 w' []) (fun i => l.length - i) 0
    ⟨Nat.zero_le _, rfl, h0, rfl, rfl, rfl, hS⟩ ?_
  clear hS h0 h1
  rintro i ρ w3 ⟨hi, hok, h0, h18, h19, h20, hS⟩
  repeat (with_reducible first | refine c_seq ?_ | refine c_block ?_ | refine c_skip ?_ | refine x_then ?_ | refine x_block ?_)
  refine c_reg ?_
  refine l_pure rfl (s_lss  h20 h19 ?_)
  refine l_nil ?_
  repeat (with_reducible first | refine c_seq ?_ | refine c_block ?_ | refine c_skip ?_ | refine x_then ?_ | refine x_block ?_)
  by_cases hlt : i < l.length
  · refine c_yes rfl (decide_eq_true (by omega)) ?_
    repeat (with_reducible first | refine c_seq ?_ | refine c_block ?_ | refine c_skip ?_ | refine x_then ?_ | refine x_block ?_)
    obtain ⟨o, ho⟩ : ∃ o, o = l.getD i zOb := ⟨_, rfl⟩
    obtain ⟨f1, f2⟩ := firstE_step (obErr n) l zOb hlt hok
    have hoB : Lr o.amt ≤ MX := by rw [ho]; exact hB _ (getD_mem l i zOb hlt)
    rw [← ho] at f1 f2
    repeat (with_reducible first | refine c_seq ?_ | refine c_block ?_ | refine c_skip ?_ | refine x_then ?_ | refine x_block ?_)
    refine c_reg ?_
    refine l_pure rfl (s_ixr (i := i)  h18 h20 (hl.below hS.below) (by omega) (by first | omega | (simp; done) | (simp; omega)) si_22 ?_)
    refine l_read rfl (s_lde (i := i) zOb  rfl vi_28 (hl.below hS.below) (by first | omega | (simp; done) | (simp; omega)) rfl rfl (.inl rfl) ?_)
    refine l_heavy rfl (s_alloc  vi_28 hS ?_)
    intro b6 wz1 hS hBz1
    refine l_heavy rfl (s_sta (k := 0)  rfl rfl vi_28 hS rfl rfl rfl (Nat.le_of_ble_eq_true rfl) rfl ?_)
    intro wz2 hS
    refine l_nil ?_
    repeat (with_reducible first | refine c_seq ?_ | refine c_block ?_ | refine c_skip ?_ | refine x_then ?_ | refine x_block ?_)
    replace hS : St w2 _ [(b6, 28, encOb (l.getD i zOb))] := hS
    rw [← ho] at hS
    repeat (with_reducible first | refine c_seq ?_ | refine c_block ?_ | refine c_skip ?_ | refine x_then ?_ | refine x_block ?_)
    refine c_forget (fun ρ' => ρ' 0 = .int .i64 n ∧ ρ' 6 = .pointer (some ⟨b6, 0, none⟩) ∧ ρ' 18 = vl ∧ ρ' 19 = .int .i64 l.length ∧ ρ' 20 = .int .i64 i ∧ True) ⟨h0, rfl, h18, h19, h20, trivial⟩ ?_
    rintro ρk3 ⟨hk3_0, hk3_6, hk3_18, hk3_19, hk3_20, -⟩
    repeat (with_reducible first | refine c_seq ?_ | refine c_block ?_ | refine c_skip ?_ | refine x_then ?_ | refine x_block ?_)
    refine c_reg ?_
    refine l_pure rfl (s_move  hk3_0 ?_)
    refine l_pure rfl (s_fld  hk3_6 fo_28_0 ?_)
    refine l_read rfl (s_ldo (k := 0)  rfl vi_3 hS rfl rfl rfl (.inr rfl) ?_)
    refine l_pure rfl (s_fld  hk3_6 fo_28_1 ?_)
    refine l_read rfl (s_ldo (k := 0)  rfl vi_3 hS rfl rfl rfl (.inr rfl) ?_)
    refine l_heavy rfl (s_call Tryd.call32 rfl (pair_ok n o.deb o.cre _) ?_)
    rintro _ wq4 ⟨rfl, hq4⟩
    replace hq4 := hq4.symm
    subst hq4
    refine l_pure rfl (s_not  rfl ?_)
    refine l_pure rfl (s_asg  rfl ?_)
    refine l_nil ?_
    repeat (with_reducible first | refine c_seq ?_ | refine c_block ?_ | refine c_skip ?_ | refine x_then ?_ | refine x_block ?_)
    cases hp : pairB n o.deb o.cre with
    | false =>
      refine c_yes rfl (rfl) ?_
      repeat (with_reducible first | refine c_seq ?_ | refine c_block ?_ | refine c_skip ?_ | refine x_then ?_ | refine x_block ?_)
      have he : obErr n o = 14 := by unfold obErr; rw [if_pos hp]
      repeat (with_reducible first | refine c_seq ?_ | refine c_block ?_ | refine c_skip ?_ | refine x_then ?_ | refine x_block ?_)
      refine c_reg ?_
      refine l_pure rfl (s_asg  rfl ?_)
      refine l_nil ?_
      repeat (with_reducible first | refine c_seq ?_ | refine c_block ?_ | refine c_skip ?_ | refine x_then ?_ | refine x_block ?_)
      refine c_ret ?_
      repeat (with_reducible first | refine x_then_ret ?_ | refine x_block_ret ?_)
      refine r_one rfl rfl ?_
      exact ⟨vi rfl (by rw [f2 (by rw [he]; decide), he]), hS.below⟩
    | true =>
    have hp' : ¬ pairB n o.deb o.cre = false := by simp [hp]
    refine c_no rfl (rfl) ?_
    repeat (with_reducible first | refine c_seq ?_ | refine c_block ?_ | refine c_skip ?_ | refine x_then ?_ | refine x_block ?_)
    refine c_reg ?_
    refine l_pure rfl (s_fld  hk3_6 fo_28_2 ?_)
    refine l_read rfl (s_ldo (k := 0)  rfl vi_26 hS rfl rfl rfl (.inl rfl) ?_)
    refine l_heavy rfl (s_call Tryd.call19 rfl (Sign_ok o.amt _ hoB) ?_)
    rintro _ wc5 ⟨rfl, hBc5⟩
    replace hS := hS.grow hBc5
    refine l_pure rfl (s_lss  rfl rfl ?_)
    refine l_pure rfl (s_asg  rfl ?_)
    refine l_nil ?_
    repeat (with_reducible first | refine c_seq ?_ | refine c_block ?_ | refine c_skip ?_ | refine x_then ?_ | refine x_block ?_)
    by_cases hneg : toQ o.amt < 0
    · refine c_yes rfl (decide_eq_true (sgnQ_neg.2 hneg)) ?_
      repeat (with_reducible first | refine c_seq ?_ | refine c_block ?_ | refine c_skip ?_ | refine x_then ?_ | refine x_block ?_)
      have he : obErr n o = 7 := by unfold obErr; rw [if_neg hp', if_pos hneg]
      repeat (with_reducible first | refine c_seq ?_ | refine c_block ?_ | refine c_skip ?_ | refine x_then ?_ | refine x_block ?_)
      refine c_reg ?_
      refine l_pure rfl (s_asg  rfl ?_)
      refine l_nil ?_
      repeat (with_reducible first | refine c_seq ?_ | refine c_block ?_ | refine c_skip ?_ | refine x_then ?_ | refine x_block ?_)
      refine c_ret ?_
      repeat (with_reducible first | refine x_then_ret ?_ | refine x_block_ret ?_)
      refine r_one rfl rfl ?_
      exact ⟨vi rfl (by rw [f2 (by rw [he]; decide), he]), hS.below⟩
    refine c_no rfl (decide_eq_false (fun g => hneg (sgnQ_neg.1 g))) ?_
    repeat (with_reducible first | refine c_seq ?_ | refine c_block ?_ | refine c_skip ?_ | refine x_then ?_ | refine x_block ?_)
    refine c_cut1 (fun ρ w' => ρ 0 = .int .i64 n ∧ ρ 6 = .pointer (some ⟨b6, 0, none⟩) ∧ ρ 18 = vl ∧ ρ 19 = .int .i64 l.length ∧ ρ 20 = .int .i64 i ∧ ρ 37 = .bool (decide (isDay o.inc = false ∨ isDay o.acq = false)) ∧ St w2 w' [(b6, 28, encOb o)]) ?_ ?_
    · repeat (with_reducible first | refine c_seq ?_ | refine c_block ?_ | refine c_skip ?_ | refine x_then ?_ | refine x_block ?_)
      cases hd : isDay o.inc with
      | false =>
        have hdn : (!isDay o.inc) = true := by rw [hd]; rfl
        repeat (with_reducible first | refine c_seq ?_ | refine c_block ?_ | refine c_skip ?_ | refine x_then ?_ | refine x_block ?_)
        refine c_reg ?_
        refine l_pure rfl (s_fld  hk3_6 fo_28_3 ?_)
        refine l_read rfl (s_ldo (k := 0)  rfl vi_3 hS rfl rfl rfl (.inr rfl) ?_)
        refine l_heavy rfl (s_call Tryd.call30 rfl (isDay_ok o.inc _) ?_)
        rintro _ wq6 ⟨rfl, hq6⟩
        replace hq6 := hq6.symm
        subst hq6
        refine l_pure rfl (s_not  rfl ?_)
        refine l_pure rfl (s_move  rfl ?_)
        refine l_no (gno_yes 42 (by kernel_rfl) rfl hdn) ?_
        refine l_no (gno_yes 42 (by kernel_rfl) rfl hdn) ?_
        refine l_no (gno_yes 42 (by kernel_rfl) rfl hdn) ?_
        refine l_no (gno_yes 42 (by kernel_rfl) rfl hdn) ?_
        refine l_pure rfl (s_pick (vb rfl hdn) rfl ?_)
        refine l_pure rfl (s_asg  rfl ?_)
        refine l_nil ?_
        repeat (with_reducible first | refine c_seq ?_ | refine c_block ?_ | refine c_skip ?_ | refine x_then ?_ | refine x_block ?_)
        exact ⟨_, rfl, by assumption, by assumption, by assumption, by assumption, by assumption, vb rfl (by simp), hS⟩
      | true =>
        have hdy : (!isDay o.inc) = false := by rw [hd]; rfl
        repeat (with_reducible first | refine c_seq ?_ | refine c_block ?_ | refine c_skip ?_ | refine x_then ?_ | refine x_block ?_)
        refine c_reg ?_
        refine l_pure rfl (s_fld  hk3_6 fo_28_3 ?_)
        refine l_read rfl (s_ldo (k := 0)  rfl vi_3 hS rfl rfl rfl (.inr rfl) ?_)
        refine l_heavy rfl (s_call Tryd.call30 rfl (isDay_ok o.inc _) ?_)
        rintro _ wq7 ⟨rfl, hq7⟩
        replace hq7 := hq7.symm
        subst hq7
        refine l_pure rfl (s_not  rfl ?_)
        refine l_pure rfl (s_move  rfl ?_)
        refine l_pure (gd_yes 42 (by kernel_rfl) rfl hdy) (s_fld  hk3_6 fo_28_4 ?_)
        refine l_read (gd_yes 42 (by kernel_rfl) rfl hdy) (s_ldo (k := 0)  rfl vi_3 hS rfl rfl rfl (.inr rfl) ?_)
        refine l_heavy (gd_yes 42 (by kernel_rfl) rfl hdy) (s_call Tryd.call30 rfl (isDay_ok o.acq _) ?_)
        rintro _ wq8 ⟨rfl, hq8⟩
        replace hq8 := hq8.symm
        subst hq8
        refine l_pure (gd_yes 42 (by kernel_rfl) rfl hdy) (s_not  rfl ?_)
        refine l_pure rfl (s_pick (vb rfl hdy) rfl ?_)
        refine l_pure rfl (s_asg  rfl ?_)
        refine l_nil ?_
        repeat (with_reducible first | refine c_seq ?_ | refine c_block ?_ | refine c_skip ?_ | refine x_then ?_ | refine x_block ?_)
        exact ⟨_, rfl, by assumption, by assumption, by assumption, by assumption, by assumption, vb rfl (by cases isDay o.acq <;> simp), hS⟩
    clear hS
    rintro ρ w4 ⟨h0, h6, h18, h19, h20, h37, hS⟩
    repeat (with_reducible first | refine c_seq ?_ | refine c_block ?_ | refine c_skip ?_ | refine x_then ?_ | refine x_block ?_)
    by_cases hday : isDay o.inc = false ∨ isDay o.acq = false
    · refine c_yes h37 (decide_eq_true hday) ?_
      repeat (with_reducible first | refine c_seq ?_ | refine c_block ?_ | refine c_skip ?_ | refine x_then ?_ | refine x_block ?_)
      have he : obErr n o = 1 := by unfold obErr; rw [if_neg hp', if_neg hneg, if_pos hday]
      repeat (with_reducible first | refine c_seq ?_ | refine c_block ?_ | refine c_skip ?_ | refine x_then ?_ | refine x_block ?_)
      refine c_reg ?_
      refine l_pure rfl (s_asg  rfl ?_)
      refine l_nil ?_
      repeat (with_reducible first | refine c_seq ?_ | refine c_block ?_ | refine c_skip ?_ | refine x_then ?_ | refine x_block ?_)
      refine c_ret ?_
      repeat (with_reducible first | refine x_then_ret ?_ | refine x_block_ret ?_)
      refine r_one rfl rfl ?_
      exact ⟨vi rfl (by rw [f2 (by rw [he]; decide), he]), hS.below⟩
    refine c_no h37 (decide_eq_false hday) ?_
    repeat (with_reducible first | refine c_seq ?_ | refine c_block ?_ | refine c_skip ?_ | refine x_then ?_ | refine x_block ?_)
    refine c_reg ?_
    refine l_pure rfl (s_fld  h6 fo_28_4 ?_)
    refine l_read rfl (s_ldo (k := 0)  rfl vi_3 hS rfl rfl rfl (.inr rfl) ?_)
    refine l_pure rfl (s_fld  h6 fo_28_3 ?_)
    refine l_read rfl (s_ldo (k := 0)  rfl vi_3 hS rfl rfl rfl (.inr rfl) ?_)
    refine l_pure rfl (s_lss  rfl rfl ?_)
    refine l_pure rfl (s_asg  rfl ?_)
    refine l_nil ?_
    repeat (with_reducible first | refine c_seq ?_ | refine c_block ?_ | refine c_skip ?_ | refine x_then ?_ | refine x_block ?_)
    by_cases hord : o.acq < o.inc
    · refine c_yes rfl (decide_eq_true hord) ?_
      repeat (with_reducible first | refine c_seq ?_ | refine c_block ?_ | refine c_skip ?_ | refine x_then ?_ | refine x_block ?_)
      have he : obErr n o = 15 := by unfold obErr; rw [if_neg hp', if_neg hneg, if_neg hday, if_pos hord]
      repeat (with_reducible first | refine c_seq ?_ | refine c_block ?_ | refine c_skip ?_ | refine x_then ?_ | refine x_block ?_)
      refine c_reg ?_
      refine l_pure rfl (s_asg  rfl ?_)
      refine l_nil ?_
      repeat (with_reducible first | refine c_seq ?_ | refine c_block ?_ | refine c_skip ?_ | refine x_then ?_ | refine x_block ?_)
      refine c_ret ?_
      repeat (with_reducible first | refine x_then_ret ?_ | refine x_block_ret ?_)
      refine r_one rfl rfl ?_
      exact ⟨vi rfl (by rw [f2 (by rw [he]; decide), he]), hS.below⟩
    · refine c_no rfl (decide_eq_false hord) ?_
      repeat (with_reducible first | refine c_seq ?_ | refine c_block ?_ | refine c_skip ?_ | refine x_then ?_ | refine x_block ?_)
      have he : obErr n o = 0 := by unfold obErr; rw [if_neg hp', if_neg hneg, if_neg hday, if_neg hord]
      repeat (with_reducible first | refine c_seq ?_ | refine c_block ?_ | refine c_skip ?_ | refine x_then ?_ | refine x_block ?_)
      refine c_reg ?_
      refine l_pure rfl (s_add  h20 rfl (IntWalk.i64_in _ (by omega)) ?_)
      refine l_pure rfl (s_move  rfl ?_)
      refine l_nil ?_
      repeat (with_reducible first | refine c_seq ?_ | refine c_block ?_ | refine c_skip ?_ | refine x_then ?_ | refine x_block ?_)
      exact ⟨i + 1, _, rfl, ⟨hlt, f1 he, by assumption, by assumption, by assumption, vi rfl (by omega), hS.drop (List.sublist_cons_self _ _)⟩, by omega⟩
  · refine c_no rfl (decide_eq_false (by omega)) ?_
    repeat (with_reducible first | refine c_seq ?_ | refine c_block ?_ | refine c_skip ?_ | refine x_then ?_ | refine x_block ?_)
    refine c_exit ?_
    repeat (with_reducible first | refine x_then_exit ?_ | refine x_block_exit ?_ | refine x_block_pass rfl ?_)
    repeat (with_reducible first | refine c_seq ?_ | refine c_block ?_ | refine c_skip ?_ | refine x_then ?_ | refine x_block ?_)
    have e : l.take i = l := List.take_of_length_le (by omega)
    rw [e] at hok
    repeat (with_reducible first | refine c_seq ?_ | refine c_block ?_ | refine c_skip ?_ | refine x_then ?_ | refine x_block ?_)
    refine c_reg ?_
    refine l_pure rfl (s_asg  rfl ?_)
    refine l_nil ?_
    repeat (with_reducible first | refine c_seq ?_ | refine c_block ?_ | refine c_skip ?_ | refine x_then ?_ | refine x_block ?_)
    refine c_ret ?_
    repeat (with_reducible first | refine x_then_ret ?_ | refine x_block_ret ?_)
    refine r_one rfl rfl ?_
    exact ⟨vi rfl hok.symm, hS.below⟩
theorem ochk_ok (n c s : Int) (vl : Value) (l : List Ob) (w : World) (hl : Sl encOb 8 w vl l) (hB : ObB MX l) :
    Ret Tryd.prog 36 #[.int .i64 n, vl, .int .i64 c, .int .i64 s] w fun v w' => v = .int .i64 (chkE n l c s) ∧ Below w.heap.size w w' := by
  have hS := St.init w
  refine enter Tryd.func36 rfl Tryd.ntmps36 rfl ?_
  repeat (with_reducible first | refine c_seq ?_ | refine c_block ?_ | refine c_skip ?_ | refine x_then ?_ | refine x_block ?_)
  refine c_reg ?_
  refine l_pure rfl (s_asg  rfl ?_)
  refine l_nil ?_
  repeat (with_reducible first | refine c_seq ?_ | refine c_block ?_ | refine c_skip ?_ | refine x_then ?_ | refine x_block ?_)
  refine c_reg ?_
  refine l_pure rfl (s_move  rfl ?_)
  refine l_pure rfl (s_move  rfl ?_)
  refine l_heavy rfl (s_call Tryd.call15 rfl (OCheck_ok n vl l _ hl hB) ?_)
  rintro _ wc1 ⟨rfl, hBc1⟩
  replace hS := hS.grow hBc1
  refine l_pure rfl (s_asg  rfl ?_)
  refine l_nil ?_
  repeat (with_reducible first | refine c_seq ?_ | refine c_block ?_ | refine c_skip ?_ | refine x_then ?_ | refine x_block ?_)
  refine c_reg ?_
  refine l_pure rfl (s_move  rfl ?_)
  refine l_pure rfl (s_neq  rfl rfl ?_)
  refine l_nil ?_
  repeat (with_reducible first | refine c_seq ?_ | refine c_block ?_ | refine c_skip ?_ | refine x_then ?_ | refine x_block ?_)
  by_cases he : obsE n l = 0
  case neg =>
    refine c_yes rfl (decide_eq_true he) ?_
    repeat (with_reducible first | refine c_seq ?_ | refine c_block ?_ | refine c_skip ?_ | refine x_then ?_ | refine x_block ?_)
    refine c_reg ?_
    refine l_pure rfl (s_move  rfl ?_)
    refine l_pure rfl (s_asg  rfl ?_)
    refine l_nil ?_
    repeat (with_reducible first | refine c_seq ?_ | refine c_block ?_ | refine c_skip ?_ | refine x_then ?_ | refine x_block ?_)
    refine c_ret ?_
    repeat (with_reducible first | refine x_then_ret ?_ | refine x_block_ret ?_)
    refine r_one rfl rfl ?_
    exact ⟨vi rfl (by unfold chkE; rw [if_pos he]), hS.below⟩
  refine c_no rfl (decide_eq_false (fun g => g he)) ?_
  repeat (with_reducible first | refine c_seq ?_ | refine c_block ?_ | refine c_skip ?_ | refine x_then ?_ | refine x_block ?_)
  refine c_cut1 (fun ρ w' => ρ 23 = .bool (decide (isDay c = false ∨ isDay s = false)) ∧ St w w' []) ?_ ?_
  · repeat (with_reducible first | refine c_seq ?_ | refine c_block ?_ | refine c_skip ?_ | refine x_then ?_ | refine x_block ?_)
    cases hd : isDay c with
    | false =>
      have hdn : (!isDay c) = true := by rw [hd]; rfl
      repeat (with_reducible first | refine c_seq ?_ | refine c_block ?_ | refine c_skip ?_ | refine x_then ?_ | refine x_block ?_)
      refine c_reg ?_
      refine l_pure rfl (s_move  rfl ?_)
      refine l_heavy rfl (s_call Tryd.call30 rfl (isDay_ok c _) ?_)
      rintro _ wq2 ⟨rfl, hq2⟩
      replace hq2 := hq2.symm
      subst hq2
      refine l_pure rfl (s_not  rfl ?_)
      refine l_pure rfl (s_move  rfl ?_)
      refine l_no (gno_yes 19 (by kernel_rfl) rfl hdn) ?_
      refine l_no (gno_yes 19 (by kernel_rfl) rfl hdn) ?_
      refine l_no (gno_yes 19 (by kernel_rfl) rfl hdn) ?_
      refine l_pure rfl (s_pick (vb rfl hdn) rfl ?_)
      refine l_nil ?_
      repeat (with_reducible first | refine c_seq ?_ | refine c_block ?_ | refine c_skip ?_ | refine x_then ?_ | refine x_block ?_)
      exact ⟨_, rfl, vb rfl (by simp), hS⟩
    | true =>
      have hdy : (!isDay c) = false := by rw [hd]; rfl
      repeat (with_reducible first | refine c_seq ?_ | refine c_block ?_ | refine c_skip ?_ | refine x_then ?_ | refine x_block ?_)
      refine c_reg ?_
      refine l_pure rfl (s_move  rfl ?_)
      refine l_heavy rfl (s_call Tryd.call30 rfl (isDay_ok c _) ?_)
      rintro _ wq3 ⟨rfl, hq3⟩
      replace hq3 := hq3.symm
      subst hq3
      refine l_pure rfl (s_not  rfl ?_)
      refine l_pure rfl (s_move  rfl ?_)
      refine l_pure (gd_yes 19 (by kernel_rfl) rfl hdy) (s_move  rfl ?_)
      refine l_heavy (gd_yes 19 (by kernel_rfl) rfl hdy) (s_call Tryd.call30 rfl (isDay_ok s _) ?_)
      rintro _ wq4 ⟨rfl, hq4⟩
      replace hq4 := hq4.symm
      subst hq4
      refine l_pure (gd_yes 19 (by kernel_rfl) rfl hdy) (s_not  rfl ?_)
      refine l_pure rfl (s_pick (vb rfl hdy) rfl ?_)
      refine l_nil ?_
      repeat (with_reducible first | refine c_seq ?_ | refine c_block ?_ | refine c_skip ?_ | refine x_then ?_ | refine x_block ?_)
      exact ⟨_, rfl, vb rfl (by cases isDay s <;> simp), hS⟩
  clear hS
  rintro ρ w4 ⟨h23, hS⟩
  repeat (with_reducible first | refine c_seq ?_ | refine c_block ?_ | refine c_skip ?_ | refine x_then ?_ | refine x_block ?_)
  by_cases hday : isDay c = false ∨ isDay s = false
  · refine c_yes h23 (decide_eq_true hday) ?_
    repeat (with_reducible first | refine c_seq ?_ | refine c_block ?_ | refine c_skip ?_ | refine x_then ?_ | refine x_block ?_)
    refine c_reg ?_
    refine l_pure rfl (s_asg  rfl ?_)
    refine l_nil ?_
    repeat (with_reducible first | refine c_seq ?_ | refine c_block ?_ | refine c_skip ?_ | refine x_then ?_ | refine x_block ?_)
    refine c_ret ?_
    repeat (with_reducible first | refine x_then_ret ?_ | refine x_block_ret ?_)
    refine r_one rfl rfl ?_
    exact ⟨vi rfl (by unfold chkE; rw [if_neg (fun g => g he), if_pos hday]), hS.below⟩
  refine c_no h23 (decide_eq_false hday) ?_
  repeat (with_reducible first | refine c_seq ?_ | refine c_block ?_ | refine c_skip ?_ | refine x_then ?_ | refine x_block ?_)
  refine c_reg ?_
  refine l_pure rfl (s_asg  rfl ?_)
  refine l_nil ?_
  repeat (with_reducible first | refine c_seq ?_ | refine c_block ?_ | refine c_skip ?_ | refine x_then ?_ | refine x_block ?_)
  refine c_ret ?_
  repeat (with_reducible first | refine x_then_ret ?_ | refine x_block_ret ?_)
  refine r_one rfl rfl ?_
  exact ⟨vi rfl (by unfold chkE; rw [if_neg (fun g => g he), if_neg hday]), hS.below⟩
end Go.Proofs.YtdafaibhiobpaaaDoor
