/-
  Plain facts: what rounding with an exact sum gives.
-/
import Derived.Test.YtblfipdfklpmmabDoorLawSd
namespace Go.Proofs.YtblfipdfklpmmabDoor
open Go Go.RowKit Go.Sx

structure Ob where
  deb : Int
  cre : Int
  amt : RR
  inc : Int
  acq : Int
  cont : Bool
def encOb (o : Ob) : List Value := [.int .i64 o.deb, .int .i64 o.cre, .bool o.amt.neg, .string o.amt.num, .string o.amt.den, .int .i64 o.inc, .int .i64 o.acq, .bool o.cont]
def aggOb (o : Ob) : Value := .agg #[.int .i64 o.deb, .int .i64 o.cre, .bool o.amt.neg, .string o.amt.num, .string o.amt.den, .int .i64 o.inc, .int .i64 o.acq, .bool o.cont]
theorem encOb_len : ∀ o, (encOb o).length = 8 := fun _ => rfl
def zOb : Ob := ⟨0, 0, zRR, 0, 0, false⟩
def isDay (d : Int) : Bool := decide (0 ≤ d ∧ d ≤ 1048576)
def pairB (n a b : Int) : Bool := decide (0 ≤ a ∧ a < n ∧ 0 ≤ b ∧ b < n ∧ a ≠ b)
def obErr (n : Int) (o : Ob) : Int := if pairB n o.deb o.cre = false then 14 else if toQ o.amt < 0 then 7 else if isDay o.inc = false ∨ isDay o.acq = false then 1 else if o.acq < o.inc then 15 else 0
def obsE (n : Int) (l : List Ob) : Int := if n < 0 ∨ 32 < n then 1 else if 64 < l.length then 2 else firstE (obErr n) l
def chkE (n : Int) (l : List Ob) (c s : Int) : Int := if obsE n l ≠ 0 then obsE n l else if isDay c = false ∨ isDay s = false then 1 else 0
def eligB (o : Ob) (c s : Int) : Bool := isDay c && isDay s && !o.cont && decide (o.inc ≤ c) && (decide (o.acq = o.inc) || decide (o.acq < c - s))
def ObB (k : Nat) (l : List Ob) : Prop := ∀ o ∈ l, Lr o.amt ≤ k

/-! ### Who is set off -/
def gO (l : List Ob) (i : Nat) : Ob := l.getD i zOb
def goes (l : List Ob) (c s a b : Int) (i : Nat) : Bool := decide ((gO l i).deb = a) && decide ((gO l i).cre = b) && eligB (gO l i) c s
def selL (l : List Ob) (c s a b : Int) (n : Nat) : List Nat := (List.range n).filter (goes l c s a b)
theorem selL_succ (l : List Ob) (c s a b : Int) (n : Nat) : selL l c s a b (n + 1) = if goes l c s a b n = true then selL l c s a b n ++ [n] else selL l c s a b n := by
  unfold selL
  rw [List.range_succ, List.filter_append]
  cases h : goes l c s a b n with
  | true => simp [h]
  | false => simp [h]
theorem selL_len (l : List Ob) (c s a b : Int) (n : Nat) : (selL l c s a b n).length ≤ n := by
  unfold selL
  have h := List.length_filter_le (goes l c s a b) (List.range n)
  rwa [List.length_range] at h
theorem selL_mem {l : List Ob} {c s a b : Int} {n i : Nat} : i ∈ selL l c s a b n ↔ i < n ∧ goes l c s a b i = true := by
  unfold selL
  rw [List.mem_filter, List.mem_range]
def older (l : List Ob) (i k : Nat) : Bool := decide ((gO l i).inc < (gO l k).inc)
/-- The eligible obligations of a to b in the order in which they are set off. -/
def ordL (l : List Ob) (c s a b : Int) : List Nat := isort (older l) (selL l c s a b l.length)
theorem ordL_mem {l : List Ob} {c s a b : Int} {i : Nat} : i ∈ ordL l c s a b ↔ i < l.length ∧ goes l c s a b i = true := by
  unfold ordL
  rw [(isort_perm _ _).mem_iff, selL_mem]
theorem ordL_nodup (l : List Ob) (c s a b : Int) : (ordL l c s a b).Nodup := by
  unfold ordL
  rw [(isort_perm _ _).nodup_iff]
  exact List.Nodup.sublist List.filter_sublist List.nodup_range
/-- i goes ahead of k. -/
def ahead (l : List Ob) (i k : Nat) : Prop := (gO l i).inc < (gO l k).inc ∨ ((gO l i).inc = (gO l k).inc ∧ i < k)
theorem ordL_sorted (l : List Ob) (c s a b : Int) : (ordL l c s a b).Pairwise (ahead l) := by
  have h := isort_sorted (lt := older l) (L := selL l c s a b l.length) (R := fun i k => i < k)
    (fun i k h => by unfold older at h ⊢; have := of_decide_eq_true h; exact decide_eq_false (by omega))
    (fun i k m h1 h2 => by unfold older at h1 h2 ⊢; have := of_decide_eq_false h1; have := of_decide_eq_false h2; exact decide_eq_false (by omega))
    (List.Pairwise.sublist List.filter_sublist List.pairwise_lt_range)
  refine h.imp ?_
  rintro i k ⟨h1, h2⟩
  unfold older at h1 h2
  have h1' := of_decide_eq_false h1
  by_cases g : (gO l i).inc < (gO l k).inc
  · exact .inl g
  · exact .inr ⟨by omega, h2 (decide_eq_false g)⟩

/-! ### Reducing -/
structure RS where
  rest : Nat → Rat
  amt : Rat
def rstp (s : RS) (i : Nat) : RS := ⟨fun k => if k = i then s.rest i - minQ (s.rest i) s.amt else s.rest k, s.amt - minQ (s.rest i) s.amt⟩
def redu (s : RS) (idx : List Nat) : RS := idx.foldl rstp s
theorem redu_snoc (s : RS) (idx : List Nat) (i : Nat) : redu s (idx ++ [i]) = rstp (redu s idx) i := by unfold redu; rw [List.foldl_append]; rfl
theorem redu_off {idx : List Nat} {i : Nat} (h : i ∉ idx) (s : RS) : (redu s idx).rest i = s.rest i := by
  unfold redu
  induction idx generalizing s with
  | nil => rfl
  | cons k idx ih =>
    rw [List.foldl_cons, ih (fun g => h (List.mem_cons_of_mem _ g))]
    show (if i = k then _ else _) = _
    rw [if_neg (fun g => h (by rw [g]; exact List.mem_cons_self ..))]
theorem redu_congr {idx : List Nat} {s t : RS} (h : ∀ i ∈ idx, s.rest i = t.rest i) (ha : s.amt = t.amt) : (∀ i ∈ idx, (redu s idx).rest i = (redu t idx).rest i) ∧ (redu s idx).amt = (redu t idx).amt := by
  unfold redu
  have key : ∀ (idx : List Nat) (s t : RS) (A : Nat → Prop), (∀ i ∈ idx, A i) → (∀ i, A i → s.rest i = t.rest i) → s.amt = t.amt → (∀ i, A i → (idx.foldl rstp s).rest i = (idx.foldl rstp t).rest i) ∧ (idx.foldl rstp s).amt = (idx.foldl rstp t).amt := by
    intro idx
    induction idx with
    | nil => intro s t A _ h1 h2; exact ⟨h1, h2⟩
    | cons k idx ih =>
      intro s t A hA h1 h2
      rw [List.foldl_cons, List.foldl_cons]
      have hk := h1 k (hA k (List.mem_cons_self ..))
      refine ih _ _ A (fun i hi => hA i (List.mem_cons_of_mem _ hi)) (fun i hi => ?_) ?_
      · show (if i = k then s.rest k - minQ (s.rest k) s.amt else s.rest i) = (if i = k then t.rest k - minQ (t.rest k) t.amt else t.rest i)
        rw [hk, h2, h1 i hi]
      · show s.amt - minQ (s.rest k) s.amt = t.amt - minQ (t.rest k) t.amt
        rw [hk, h2]
  have := key idx s t (fun i => i ∈ idx) (fun _ h => h) h ha
  exact this
def oQ (l : List Ob) (i : Nat) : Rat := toQ (gO l i).amt
def totS (f : Nat → Rat) (idx : List Nat) : Rat := sumQ (idx.map f)
/-- What is set off between a and b. -/
def mQ (l : List Ob) (c s a b : Int) : Rat := minQ (totS (oQ l) (ordL l c s a b)) (totS (oQ l) (ordL l c s b a))
/-- What is left of an obligation. -/
def finQ (l : List Ob) (c s : Int) (i : Nat) : Rat := (redu ⟨oQ l, mQ l c s (gO l i).deb (gO l i).cre⟩ (ordL l c s (gO l i).deb (gO l i).cre)).rest i
theorem minQ_comm' (p q : Rat) : minQ p q = minQ q p := by unfold minQ; split <;> split <;> grind
theorem mQ_comm (l : List Ob) (c s a b : Int) : mQ l c s a b = mQ l c s b a := minQ_comm' _ _
theorem finQ_off {l : List Ob} {c s : Int} {i : Nat} (h : eligB (gO l i) c s = false) : finQ l c s i = oQ l i := by
  unfold finQ
  rw [redu_off]
  intro g
  have := (ordL_mem.1 g).2
  unfold goes at this
  rw [h] at this
  simp at this

/-! ### Facts on reducing -/
theorem sumQ_cons (q : Rat) (l : List Rat) : sumQ (q :: l) = q + sumQ l := by
  have key : ∀ (l : List Rat) (a : Rat), l.foldl (· + ·) a = a + sumQ l := by
    intro l
    induction l with
    | nil => intro a; show a = a + 0; grind
    | cons x l ih =>
      intro a
      rw [List.foldl_cons, ih]
      unfold sumQ
      rw [List.foldl_cons, ih]
      grind
  show l.foldl (· + ·) (0 + q) = _
  rw [key]; grind
theorem sumQ_perm {l m : List Rat} (h : l.Perm m) : sumQ l = sumQ m := by
  induction h with
  | nil => rfl
  | cons x _ ih => rw [sumQ_cons, sumQ_cons, ih]
  | swap x y l => rw [sumQ_cons, sumQ_cons, sumQ_cons, sumQ_cons]; grind
  | trans _ _ ih1 ih2 => rw [ih1, ih2]
theorem sumQ_nonneg {l : List Rat} (h : ∀ q ∈ l, 0 ≤ q) : 0 ≤ sumQ l := by
  induction l with
  | nil => exact Rat.le_refl
  | cons q l ih =>
    rw [sumQ_cons]
    have h1 := ih fun x hx => h x (List.mem_cons_of_mem _ hx)
    have h2 := h q (List.mem_cons_self ..)
    grind
theorem redu_cons (s : RS) (i : Nat) (idx : List Nat) : redu s (i :: idx) = redu (rstp s i) idx := rfl
/-- What a reduction does: nothing falls below 0 or rises; what is taken off in all is the amount, or all that there is. -/
theorem redu_facts {idx : List Nat} (hnd : idx.Nodup) {s : RS} (h0 : ∀ i ∈ idx, 0 ≤ s.rest i) (ha : 0 ≤ s.amt) :
    (∀ i ∈ idx, 0 ≤ (redu s idx).rest i ∧ (redu s idx).rest i ≤ s.rest i) ∧ 0 ≤ (redu s idx).amt ∧ totS s.rest idx - totS (redu s idx).rest idx = s.amt - (redu s idx).amt ∧ (0 < (redu s idx).amt → ∀ i ∈ idx, (redu s idx).rest i = 0) := by
  induction idx generalizing s with
  | nil => refine ⟨fun i hi => (by cases hi), ha, ?_, fun _ i hi => (by cases hi)⟩
           show (0 : Rat) - 0 = s.amt - s.amt
           grind
  | cons k idx ih =>
    obtain ⟨hk, hnd'⟩ := List.nodup_cons.1 hnd
    have hk0 := h0 k (List.mem_cons_self ..)
    have e1 : ∀ i ∈ idx, (rstp s k).rest i = s.rest i := fun i hi => by
      show (if i = k then _ else _) = _
      rw [if_neg (fun g => hk (by rw [← g]; exact hi))]
    have ek : (rstp s k).rest k = s.rest k - minQ (s.rest k) s.amt := by
      show (if k = k then _ else _) = _
      rw [if_pos rfl]
    have ea : (rstp s k).amt = s.amt - minQ (s.rest k) s.amt := rfl
    have hm : minQ (s.rest k) s.amt ≤ s.rest k ∧ minQ (s.rest k) s.amt ≤ s.amt ∧ 0 ≤ minQ (s.rest k) s.amt ∧ (minQ (s.rest k) s.amt = s.rest k ∨ minQ (s.rest k) s.amt = s.amt) := by
      unfold minQ; split <;> grind
    obtain ⟨g1, g2, g3, g4⟩ := ih hnd' (s := rstp s k) (fun i hi => by rw [e1 i hi]; exact h0 i (List.mem_cons_of_mem _ hi)) (by rw [ea]; grind)
    rw [redu_cons]
    have ek2 : (redu (rstp s k) idx).rest k = s.rest k - minQ (s.rest k) s.amt := by rw [redu_off hk, ek]
    have et : totS (rstp s k).rest idx = totS s.rest idx := by
      unfold totS
      rw [List.map_congr_left e1]
    refine ⟨fun i hi => ?_, g2, ?_, fun hpos i hi => ?_⟩
    · rcases List.mem_cons.1 hi with rfl | hi
      · rw [ek2]; grind
      · have := g1 i hi
        rw [e1 i hi] at this
        exact this
    · unfold totS at g3 et ⊢
      rw [List.map_cons, List.map_cons, sumQ_cons, sumQ_cons, ek2]
      rw [et, ea] at g3
      grind
    · rcases List.mem_cons.1 hi with rfl | hi
      · rw [ek2]
        rcases hm.2.2.2 with e | e
        · rw [e]; grind
        · exfalso
          rw [ea, e] at g3
          have h1 := g3
          have h5 : totS (redu (rstp s i) idx).rest idx ≤ totS (rstp s i).rest idx := by
            unfold totS
            clear ih g2 g3 g4 h1
            have : ∀ (J : List Nat), (∀ j ∈ J, (redu (rstp s i) idx).rest j ≤ (rstp s i).rest j) → sumQ (J.map (redu (rstp s i) idx).rest) ≤ sumQ (J.map (rstp s i).rest) := by
              intro J
              induction J with
              | nil => intro _; exact Rat.le_refl
              | cons j J ih =>
                intro h
                rw [List.map_cons, List.map_cons, sumQ_cons, sumQ_cons]
                have h1 := ih fun x hx => h x (List.mem_cons_of_mem _ hx)
                have h2 := h j (List.mem_cons_self ..)
                grind
            exact this idx fun j hj => (g1 j hj).2
          grind
      · exact g4 hpos i hi
/-- Ones that come later are touched only if all ahead of them are gone. -/
theorem redu_order {A B : List Nat} (hnd : (A ++ B).Nodup) {s : RS} (h0 : ∀ i ∈ A ++ B, 0 ≤ s.rest i) (ha : 0 ≤ s.amt) {k : Nat} (hk : k ∈ B) (h : (redu s (A ++ B)).rest k ≠ s.rest k) : ∀ i ∈ A, (redu s (A ++ B)).rest i = 0 := by
  have e : redu s (A ++ B) = redu (redu s A) B := by unfold redu; rw [List.foldl_append]
  rw [List.nodup_append] at hnd
  obtain ⟨n1, n2, n3⟩ := hnd
  obtain ⟨g1, g2, g3, g4⟩ := redu_facts n1 (s := s) (fun i hi => h0 i (List.mem_append_left _ hi)) ha
  have hoff : ∀ i ∈ B, (redu s A).rest i = s.rest i := fun i hi => redu_off (fun g => n3 i g i hi rfl) s
  rw [e] at h ⊢
  have hpos : 0 < (redu s A).amt := by
    refine Rat.not_le.1 fun hle => h ?_
    have hz : (redu s A).amt = 0 := Rat.le_antisymm hle g2
    have : ∀ (B : List Nat) (t : RS), t.amt = 0 → (∀ i ∈ B, 0 ≤ t.rest i) → ∀ i, (redu t B).rest i = t.rest i := by
      intro B
      induction B with
      | nil => intro t _ _ i; rfl
      | cons b B ih =>
        intro t ht hb i
        rw [redu_cons]
        have hb0 := hb b (List.mem_cons_self ..)
        have hm : minQ (t.rest b) t.amt = 0 := by rw [ht]; unfold minQ; split <;> grind
        have hr : ∀ i, (rstp t b).rest i = t.rest i := fun i => by
          show (if i = b then t.rest b - minQ (t.rest b) t.amt else t.rest i) = t.rest i
          rw [hm]
          split
          · next g => rw [g]; grind
          · rfl
        rw [ih (rstp t b) (by show t.amt - minQ (t.rest b) t.amt = 0; rw [hm, ht]; grind) (fun j hj => by rw [hr]; exact hb j (List.mem_cons_of_mem _ hj)), hr]
    rw [this B _ hz (fun i hi => by rw [hoff i hi]; exact h0 i (List.mem_append_right _ hi)) k]
    exact hoff k hk
  intro i hi
  rw [redu_off (fun g => n3 i hi i g rfl)]
  exact g4 hpos i hi
theorem L_sumQ' {l : List Rat} {K : Nat} (h : ∀ q ∈ l, L q ≤ K) (k : Nat) : L (sumQ (l.take k)) ≤ k * (K + 1) + 1 := by
  induction k with
  | zero => rw [List.take_zero]; show L 0 ≤ _; rw [L_zero]; omega
  | succ k ih =>
    by_cases hk : k < l.length
    · rw [take_succ' l k 0 hk, sumQ_snoc]
      have h1 := L_add (sumQ (l.take k)) (l.getD k 0)
      have h2 := h _ (getD_mem l k 0 hk)
      rw [Nat.add_mul]; omega
    · rw [List.take_of_length_le (by omega)]
      rw [List.take_of_length_le (by omega)] at ih
      rw [Nat.add_mul]; omega
end Go.Proofs.YtblfipdfklpmmabDoor
namespace Go.Proofs.YtblfipdfklpmmabDoor
open Go Go.RowKit Go.Sx

def zI (L : List Nat) : List Int := L.map fun i : Nat => (i : Int)
theorem zI_len (L : List Nat) : (zI L).length = L.length := List.length_map _
theorem zI_get (L : List Nat) {k : Nat} (h : k < L.length) : (zI L).getD k 0 = ((L.getD k 0 : Nat) : Int) := by
  unfold zI
  rw [List.getD_eq_getElem?_getD, List.getD_eq_getElem?_getD, List.getElem?_map, List.getElem?_eq_getElem h]; rfl
theorem zI_take (L : List Nat) (t : Nat) : (zI L).take t = zI (L.take t) := by unfold zI; rw [List.map_take]

/-! ### An order by fractions, the greatest one first -/
structure Ord (fr : Nat → Rat) (n : Nat) (l : List Nat) : Prop where
  perm : l.Perm (List.range n)
  srt : l.Pairwise fun a b => fr b < fr a ∨ (fr a = fr b ∧ a < b)
theorem Ord.len {fr : Nat → Rat} {n : Nat} {l : List Nat} (h : Ord fr n l) : l.length = n := by rw [h.perm.length_eq, List.length_range]
theorem Ord.nodup {fr : Nat → Rat} {n : Nat} {l : List Nat} (h : Ord fr n l) : l.Nodup := h.perm.nodup_iff.2 List.nodup_range
theorem Ord.mem {fr : Nat → Rat} {n : Nat} {l : List Nat} (h : Ord fr n l) {i : Nat} : i ∈ l ↔ i < n := by rw [h.perm.mem_iff, List.mem_range]
theorem Ord.lt {fr : Nat → Rat} {n : Nat} {l : List Nat} (h : Ord fr n l) {k : Nat} (hk : k < n) : l.getD k 0 < n := h.mem.1 (getD_mem l k 0 (by rw [h.len]; exact hk))
def ltA (fr : Nat → Rat) (a b : Nat) : Bool := decide (fr b < fr a)
def ordA (fr : Nat → Rat) (n : Nat) : List Nat := isort (ltA fr) (List.range n)
theorem ordA_ord (fr : Nat → Rat) (n : Nat) : Ord fr n (ordA fr n) := ⟨isort_perm _ _, by
  have h := isort_sorted (lt := ltA fr) (L := List.range n) (R := fun i k => i < k)
    (fun a b h => by unfold ltA at h ⊢; have := of_decide_eq_true h; exact decide_eq_false (by grind))
    (fun a b c h1 h2 => by unfold ltA at h1 h2 ⊢; have := of_decide_eq_false h1; have := of_decide_eq_false h2; exact decide_eq_false (by grind))
    List.pairwise_lt_range
  refine h.imp ?_
  rintro a b ⟨h1, h2⟩
  unfold ltA at h1 h2
  have h1 := of_decide_eq_false h1
  by_cases g : fr b < fr a
  · exact .inl g
  · exact .inr ⟨by grind, h2 (decide_eq_false g)⟩⟩
def ltB (fr : Nat → Rat) (a b : Nat) : Bool := decide (fr b < fr a ∨ (fr a = fr b ∧ a < b))
def ordB (fr : Nat → Rat) (n : Nat) : List Nat := isort (ltB fr) (List.range n)
theorem ordB_ord (fr : Nat → Rat) (n : Nat) : Ord fr n (ordB fr n) := ⟨isort_perm _ _, by
  have h := isort_sorted (lt := ltB fr) (L := List.range n) (R := fun i k => i < k)
    (fun a b h => by
      unfold ltB at h ⊢
      have h := of_decide_eq_true h
      refine decide_eq_false ?_
      rintro (g | ⟨g1, g2⟩)
      · rcases h with h | ⟨h, _⟩ <;> grind
      · rcases h with h | ⟨_, h⟩
        · grind
        · omega)
    (fun a b c h1 h2 => by
      unfold ltB at h1 h2 ⊢
      have h1 := of_decide_eq_false h1
      have h2 := of_decide_eq_false h2
      refine decide_eq_false ?_
      have e1 : ¬ fr b < fr a := fun g => h1 (.inl g)
      have e2 : ¬ fr c < fr b := fun g => h2 (.inl g)
      have e3 : fr a = fr b → ¬ a < b := fun g q => h1 (.inr ⟨g, q⟩)
      have e4 : fr b = fr c → ¬ b < c := fun g q => h2 (.inr ⟨g, q⟩)
      rintro (g | ⟨g1, g2⟩)
      · grind
      · have g3 : fr a = fr b := by grind
        have g4 : fr b = fr c := by grind
        have := e3 g3
        have := e4 g4
        omega)
    List.pairwise_lt_range
  refine h.imp ?_
  rintro a b ⟨h1, h2⟩
  by_cases g : ltB fr a b = true
  · exact of_decide_eq_true g
  · have g' := Bool.eq_false_iff.2 g
    have hab := h2 g'
    unfold ltB at h1 g'
    have h1 := of_decide_eq_false h1
    have g' := of_decide_eq_false g'
    exfalso
    refine g' (.inr ⟨?_, hab⟩)
    have e1 : ¬ fr b < fr a := fun q => g' (.inl q)
    have e2 : ¬ fr a < fr b := fun q => h1 (.inl q)
    grind⟩

/-! ### The best one of those that are left -/
def best (cd : Nat → Bool) (fr : Nat → Rat) : Nat → Option Nat
  | 0 => none
  | i + 1 => match best cd fr i with
    | none => if cd i = true then some i else none
    | some b => if cd i = true ∧ fr b < fr i then some i else some b
theorem best_lt {cd : Nat → Bool} {fr : Nat → Rat} : ∀ {n b : Nat}, best cd fr n = some b → b < n ∧ cd b = true := by
  intro n
  induction n with
  | zero => intro b h; cases h
  | succ n ih =>
    intro b h
    rw [best] at h
    cases hb : best cd fr n with
    | none =>
      rw [hb] at h
      simp only at h
      split at h
      · next hc => obtain rfl := Option.some.inj h; exact ⟨by omega, hc⟩
      · cases h
    | some x =>
      rw [hb] at h
      have hx := ih hb
      simp only at h
      split at h
      · next hc => obtain rfl := Option.some.inj h; exact ⟨by omega, hc.1⟩
      · obtain rfl := Option.some.inj h; exact ⟨by omega, hx.2⟩
theorem best_pick {cd : Nat → Bool} {fr : Nat → Rat} {n p : Nat} (hp : p < n) (hc : cd p = true) (h : ∀ i, i < n → cd i = true → i ≠ p → fr i < fr p ∨ (fr i = fr p ∧ p < i)) : best cd fr n = some p := by
  have key : ∀ j, j ≤ n → p < j → best cd fr j = some p := by
    intro j
    induction j with
    | zero => intro _ hj; omega
    | succ j ih =>
      intro hj hpj
      rw [best]
      by_cases e : p < j
      · rw [ih (by omega) e]
        show (if cd j = true ∧ fr p < fr j then some j else some p) = some p
        rw [if_neg]
        rintro ⟨h1, h2⟩
        rcases h j (by omega) h1 (by omega) with g | ⟨g, _⟩ <;> grind
      · obtain rfl : p = j := by omega
        cases hb : best cd fr p with
        | none =>
          show (if cd p = true then some p else none) = some p
          rw [if_pos hc]
        | some b =>
          obtain ⟨h1, h2⟩ := best_lt hb
          show (if cd p = true ∧ fr b < fr p then some p else some b) = some p
          rw [if_pos]
          refine ⟨hc, ?_⟩
          rcases h b (by omega) h2 (by omega) with g | ⟨_, g⟩
          · exact g
          · omega
  exact key n (Nat.le_refl _) hp
theorem split_at {α : Type} (l : List α) (d : α) {k : Nat} (hk : k < l.length) : l = l.take k ++ l.getD k d :: l.drop (k + 1) := by
  have h := List.drop_eq_getElem_cons hk
  have e : l.getD k d = l[k] := by rw [List.getD_eq_getElem?_getD, List.getElem?_eq_getElem hk]; rfl
  rw [e, ← h, List.take_append_drop]
theorem Ord.pick {fr : Nat → Rat} {n k : Nat} {l : List Nat} (h : Ord fr n l) (hk : k < n) {cd : Nat → Bool} (hcd : ∀ i, cd i = true → i ∉ l.take k) (hc : cd (l.getD k 0) = true) : best cd fr n = some (l.getD k 0) := by
  have hkl : k < l.length := by rw [h.len]; exact hk
  refine best_pick (h.lt hk) hc fun i hi hci hip => ?_
  have hm := h.mem.2 hi
  have hs := h.srt
  have e := split_at l 0 hkl
  rw [e] at hm hs
  rcases List.mem_append.1 hm with g | g
  · exact absurd g (hcd i hci)
  · rcases List.mem_cons.1 g with g | g
    · exact absurd g hip
    · have := (List.pairwise_cons.1 (List.pairwise_append.1 hs).2.1).1 i g
      rcases this with q | ⟨q, r⟩
      · exact .inl q
      · exact .inr ⟨q.symm, r⟩

/-! ### Sums -/
def sumR (f : Nat → Rat) (n : Nat) : Rat := sumQ ((List.range n).map f)
theorem sumR_succ (f : Nat → Rat) (n : Nat) : sumR f (n + 1) = sumR f n + f n := by
  unfold sumR
  rw [List.range_succ, List.map_append, List.map_cons, List.map_nil, sumQ_snoc]
theorem sumR_list (l : List RR) : sumQ (l.map toQ) = sumR (fun i => toQ (l.getD i zRR)) l.length := by
  unfold sumR
  congr 1
  refine List.ext_getElem (by simp) fun i h1 h2 => ?_
  rw [List.length_map] at h1
  rw [List.getElem_map, List.getElem_map, List.getElem_range, List.getD_eq_getElem?_getD, List.getElem?_eq_getElem h1]; rfl
theorem sumR_mul (f : Nat → Rat) (c : Rat) (n : Nat) : sumR (fun i => f i * c) n = sumR f n * c := by
  induction n with
  | zero => show (0 : Rat) = 0 * c; grind
  | succ n ih => rw [sumR_succ, sumR_succ, ih]; grind
theorem sumR_congr {f g : Nat → Rat} {n : Nat} (h : ∀ i, i < n → f i = g i) : sumR f n = sumR g n := by
  unfold sumR
  rw [List.map_congr_left fun i hi => h i (List.mem_range.1 hi)]
def sumZ (f : Nat → Int) : Nat → Int
  | 0 => 0
  | n + 1 => sumZ f n + f n
theorem sumZ_congr {f g : Nat → Int} {n : Nat} (h : ∀ i, i < n → f i = g i) : sumZ f n = sumZ g n := by
  induction n with
  | zero => rfl
  | succ n ih => rw [sumZ, sumZ, ih fun i hi => h i (by omega), h n (by omega)]
theorem sumZ_one {f g : Nat → Int} {n j : Nat} (hj : j < n) (h1 : g j = f j + 1) (h : ∀ i, i < n → i ≠ j → g i = f i) : sumZ g n = sumZ f n + 1 := by
  induction n with
  | zero => omega
  | succ n ih =>
    rw [sumZ, sumZ]
    by_cases e : j = n
    · subst e
      rw [h1, sumZ_congr (n := j) fun i hi => h i (by omega) (by omega)]; omega
    · rw [ih (by omega) (fun i hi hij => h i (by omega) hij), h n (by omega) (fun q => e q.symm)]; omega
theorem sumZ_nonneg {f : Nat → Int} {n : Nat} (h : ∀ i, i < n → 0 ≤ f i) : 0 ≤ sumZ f n := by
  induction n with
  | zero => exact Int.le_refl _
  | succ n ih => rw [sumZ]; have := ih fun i hi => h i (by omega); have := h n (by omega); omega
theorem sumZ_mono {f : Nat → Int} {n k : Nat} (h : ∀ i, i < n → 0 ≤ f i) (hk : k ≤ n) : sumZ f k ≤ sumZ f n := by
  induction n with
  | zero => obtain rfl : k = 0 := by omega
            exact Int.le_refl _
  | succ n ih =>
    by_cases e : k = n + 1
    · subst e; exact Int.le_refl _
    · rw [sumZ]; have := ih (fun i hi => h i (by omega)) (by omega); have := h n (by omega); omega
theorem le_sumZ {f : Nat → Int} {n j : Nat} (h : ∀ i, i < n → 0 ≤ f i) (hj : j < n) : f j ≤ sumZ f n := by
  have h1 := sumZ_mono h (show j + 1 ≤ n from hj)
  have h2 := sumZ_nonneg (n := j) fun i hi => h i (by omega)
  rw [sumZ] at h1; omega

/-! ### Rounding -/
def baQ (q : Nat → Rat) (i : Nat) : Int := (q i).floor
def frQ (q : Nat → Rat) (i : Nat) : Rat := q i - ((q i).floor : Int)
theorem frQ_range (q : Nat → Rat) (i : Nat) : 0 ≤ frQ q i ∧ frQ q i < 1 := by
  have h1 := Rat.floor_le (q i)
  have h2 := Rat.lt_floor_add_one (q i)
  rw [Rat.intCast_add] at h2
  unfold frQ
  constructor
  · grind
  · have : ((1 : Int) : Rat) = 1 := rfl
    grind
theorem baQ_nonneg {q : Nat → Rat} {i : Nat} (h : 0 ≤ q i) : 0 ≤ baQ q i := Rat.le_floor_iff.2 h
theorem le_sumR {f : Nat → Rat} {n i : Nat} (h : ∀ i, i < n → 0 ≤ f i) (hi : i < n) : 0 ≤ sumR f i ∧ f i ≤ sumR f n := by
  have nn : ∀ k, k ≤ n → 0 ≤ sumR f k := by
    intro k
    induction k with
    | zero => intro _; exact Rat.le_refl
    | succ k ih =>
      intro hk
      rw [sumR_succ]
      have := ih (by omega)
      have := h k (by omega)
      grind
  have key : ∀ k, i < k → k ≤ n → f i ≤ sumR f k := by
    intro k
    induction k with
    | zero => intro hk; omega
    | succ k ih =>
      intro hik hk
      rw [sumR_succ]
      by_cases e : i = k
      · subst e
        have := nn i (by omega)
        grind
      · have := ih (by omega) (by omega)
        have := h k (by omega)
        grind
  exact ⟨nn i (by omega), key n hi (Nat.le_refl _)⟩
theorem baQ_le {q : Nat → Rat} {n i : Nat} (h : ∀ i, i < n → 0 ≤ q i) (hi : i < n) : baQ q i ≤ (sumR q n).floor := Rat.floor_monotone (le_sumR h hi).2
theorem sumR_split (q : Nat → Rat) (n : Nat) : sumR q n = ((sumZ (baQ q) n : Int) : Rat) + sumR (frQ q) n := by
  induction n with
  | zero => show (0 : Rat) = ((0 : Int) : Rat) + 0; rw [Rat.add_zero]; rfl
  | succ n ih =>
    rw [sumR_succ, sumR_succ, sumZ, ih, Rat.intCast_add]
    show _ + q n = _ + ((q n).floor : Int) + (_ + (q n - ((q n).floor : Int)))
    grind
/-- How many are rounded up. -/
def lfQ (q : Nat → Rat) (n : Nat) : Int := (sumR q n).floor - sumZ (baQ q) n
theorem sumR_nonneg {f : Nat → Rat} {n : Nat} (h : ∀ i, i < n → 0 ≤ f i) : 0 ≤ sumR f n := sumQ_nonneg fun x hx => by
  obtain ⟨i, hi, rfl⟩ := List.mem_map.1 hx
  exact h i (List.mem_range.1 hi)
theorem lfQ_nonneg (q : Nat → Rat) (n : Nat) : 0 ≤ lfQ q n := by
  have h : sumZ (baQ q) n ≤ (sumR q n).floor := by
    rw [Rat.le_floor_iff, sumR_split q n]
    have := sumR_nonneg (f := frQ q) (n := n) fun i _ => (frQ_range q i).1
    grind
  unfold lfQ
  omega
theorem lfQ_le (q : Nat → Rat) (n : Nat) : ((lfQ q n : Int) : Rat) ≤ sumR (frQ q) n := by
  have h1 := Rat.floor_le (sumR q n)
  have h2 := sumR_split q n
  unfold lfQ
  rw [Rat.intCast_sub]
  grind
theorem sum_ones {fr : Nat → Rat} (h : ∀ i, 0 ≤ fr i ∧ fr i < 1) (J : List Nat) : 0 ≤ sumQ (J.map fr) ∧ sumQ (J.map fr) ≤ ((J.length : Int) : Rat) := by
  induction J with
  | nil => exact ⟨Rat.le_refl, Rat.le_refl⟩
  | cons x J ih =>
    rw [List.map_cons, sumQ_cons, List.length_cons]
    have e : (((J.length + 1 : Nat) : Int) : Rat) = ((J.length : Int) : Rat) + 1 := by
      rw [Int.natCast_add, Rat.intCast_add]; rfl
    rw [e]
    have := h x
    grind
theorem sumQ_append (l m : List Rat) : sumQ (l ++ m) = sumQ l + sumQ m := by
  induction l with
  | nil => show sumQ m = 0 + sumQ m; grind
  | cons x l ih => rw [List.cons_append, sumQ_cons, sumQ_cons, ih]; grind
theorem sum_zeros {fr : Nat → Rat} {J : List Nat} (h : ∀ i ∈ J, fr i = 0) : sumQ (J.map fr) = 0 := by
  induction J with
  | nil => rfl
  | cons x J ih => rw [List.map_cons, sumQ_cons, h x (List.mem_cons_self ..), ih fun i hi => h i (List.mem_cons_of_mem _ hi)]; grind
theorem Ord.room {fr : Nat → Rat} {n : Nat} {l : List Nat} (h : Ord fr n l) (h0 : ∀ i, 0 ≤ fr i ∧ fr i < 1) {m : Nat} (hm : ((m : Int) : Rat) ≤ sumR fr n) : m ≤ n ∧ ∀ k, k < m → fr (l.getD k 0) ≠ 0 := by
  have e : sumR fr n = sumQ (l.map fr) := sumQ_perm ((h.perm.map fr).symm)
  rw [e] at hm
  have h1 := (sum_ones h0 l).2
  rw [h.len] at h1
  have hmn : m ≤ n := by
    have := Rat.le_trans hm h1
    have := Rat.intCast_le_intCast.1 this
    omega
  refine ⟨hmn, fun k hk hz => ?_⟩
  have hkl : k < l.length := by rw [h.len]; omega
  have hs := h.srt
  have e2 := split_at l 0 hkl
  have h2 : sumQ (l.map fr) ≤ ((k : Int) : Rat) := by
    rw [e2] at hs ⊢
    rw [List.map_append, sumQ_append]
    have hz2 : ∀ i ∈ l.getD k 0 :: l.drop (k + 1), fr i = 0 := by
      intro i hi
      rcases List.mem_cons.1 hi with g | g
      · rw [g]; exact hz
      · have := (List.pairwise_cons.1 (List.pairwise_append.1 hs).2.1).1 i g
        have h3 := (h0 i).1
        rcases this with q | ⟨q, _⟩ <;> grind
    rw [sum_zeros hz2]
    have h3 := (sum_ones h0 (l.take k)).2
    rw [List.length_take, Nat.min_eq_left (by omega)] at h3
    grind
  have := Rat.intCast_le_intCast.1 (Rat.le_trans hm h2)
  omega
/-- Rounded: the first m of an order are raised. -/
def rnd (ba : Nat → Int) (l : List Nat) (m : Nat) (i : Nat) : Int := if i ∈ l.take m then ba i + 1 else ba i
theorem rnd_zero (ba : Nat → Int) (l : List Nat) : rnd ba l 0 = ba := by
  funext i
  unfold rnd
  rw [List.take_zero, if_neg (fun h => nomatch h)]
theorem nodup_at {l : List Nat} (h : l.Nodup) {k : Nat} (hk : k < l.length) : l.getD k 0 ∉ l.take k := by
  have e := split_at l 0 hk
  rw [e] at h
  intro g
  exact (List.nodup_append.1 h).2.2 _ g _ (List.mem_cons_self ..) rfl
theorem rnd_at {ba : Nat → Int} {l : List Nat} (h : l.Nodup) {k : Nat} (hk : k < l.length) : rnd ba l k (l.getD k 0) = ba (l.getD k 0) := by
  unfold rnd
  rw [if_neg (nodup_at h hk)]
theorem rnd_set {ba : Nat → Int} {l : List Nat} {n k : Nat} (hk : k < l.length) : (tab n (rnd ba l k)).set (l.getD k 0) (ba (l.getD k 0) + 1) = tab n (rnd ba l (k + 1)) := by
  rw [tab_set]
  refine tab_congr fun j _ => ?_
  unfold rnd
  rw [take_succ' l k 0 hk]
  by_cases e : j = l.getD k 0
  · rw [if_pos e, e, if_pos (List.mem_append_right _ (List.mem_singleton.2 rfl))]
  · rw [if_neg e]
    by_cases g : j ∈ l.take k
    · rw [if_pos g, if_pos (List.mem_append_left _ g)]
    · rw [if_neg g, if_neg]
      intro q
      rcases List.mem_append.1 q with q | q
      · exact g q
      · exact e (List.mem_singleton.1 q)
theorem rnd_sum {ba : Nat → Int} {l : List Nat} {n : Nat} (h : l.Nodup) (hl : l.length = n) (hm : ∀ i ∈ l, i < n) : ∀ k, k ≤ n → sumZ (rnd ba l k) n = sumZ ba n + k := by
  intro k
  induction k with
  | zero => intro _; rw [rnd_zero]; omega
  | succ k ih =>
    intro hk
    have hkl : k < l.length := by omega
    have hj := hm _ (getD_mem l k 0 hkl)
    have hset : ∀ i, rnd ba l (k + 1) i = if i = l.getD k 0 then ba i + 1 else rnd ba l k i := by
      intro i
      unfold rnd
      rw [take_succ' l k 0 hkl]
      by_cases e : i = l.getD k 0
      · rw [if_pos e, if_pos (List.mem_append_right _ (List.mem_singleton.2 e))]
      · rw [if_neg e]
        by_cases g : i ∈ l.take k
        · rw [if_pos g, if_pos (List.mem_append_left _ g)]
        · rw [if_neg g, if_neg]
          intro q
          rcases List.mem_append.1 q with q | q
          · exact g q
          · exact e (List.mem_singleton.1 q)
    rw [sumZ_one (f := rnd ba l k) (g := rnd ba l (k + 1)) hj (by rw [hset, if_pos rfl, rnd_at h hkl]) (fun i _ hi => by rw [hset, if_neg hi]), ih (by omega)]
    omega
end Go.Proofs.YtblfipdfklpmmabDoor
namespace Go.Proofs.YtblfipdfklpmmabDoor
open Go Go.RowKit Go.Sx

/-- One that goes ahead of another one is raised if that one is. -/
theorem Ord.before {fr : Nat → Rat} {n : Nat} {l : List Nat} (h : Ord fr n l) {i k m : Nat} (hi : i < n) (hik : fr k < fr i ∨ (fr i = fr k ∧ i < k)) (hk : k ∈ l.take m) : i ∈ l.take m := by
  have hm := h.mem.2 hi
  have hs := h.srt
  rw [← List.take_append_drop m l] at hm hs
  rcases List.mem_append.1 hm with g | g
  · exact g
  · exfalso
    have := (List.pairwise_append.1 hs).2.2 k hk i g
    rcases hik with q | ⟨q, r⟩ <;> rcases this with t | ⟨t, u⟩
    · grind
    · grind
    · grind
    · omega
/-- Rounding of q by an order. -/
def resQ (q : Nat → Rat) (l : List Nat) (n : Nat) : Nat → Int := rnd (baQ q) l (lfQ q n).toNat
theorem lf_room {q : Nat → Rat} {n : Nat} {l : List Nat} (h : Ord (frQ q) n l) : (lfQ q n).toNat ≤ n ∧ ∀ k, k < (lfQ q n).toNat → frQ q (l.getD k 0) ≠ 0 :=
  h.room (frQ_range q) (by rw [Int.toNat_of_nonneg (lfQ_nonneg q n)]; exact lfQ_le q n)
theorem raised {q : Nat → Rat} {n : Nat} {l : List Nat} (h : Ord (frQ q) n l) {i : Nat} (hi : i ∈ l.take (lfQ q n).toNat) : frQ q i ≠ 0 := by
  obtain ⟨k, hk, e⟩ := List.getElem_of_mem hi
  rw [List.length_take] at hk
  rw [List.getElem_take] at e
  have := (lf_room h).2 k (by omega)
  rwa [List.getD_eq_getElem?_getD, List.getElem?_eq_getElem (by omega), Option.getD_some, e] at this
theorem res_or {q : Nat → Rat} {n : Nat} {l : List Nat} (h : Ord (frQ q) n l) (i : Nat) : (i ∉ l.take (lfQ q n).toNat ∧ resQ q l n i = baQ q i) ∨ (i ∈ l.take (lfQ q n).toNat ∧ resQ q l n i = baQ q i + 1 ∧ frQ q i ≠ 0) := by
  unfold resQ rnd
  by_cases e : i ∈ l.take (lfQ q n).toNat
  · rw [if_pos e]; exact .inr ⟨e, rfl, raised h e⟩
  · rw [if_neg e]; exact .inl ⟨e, rfl⟩
theorem res_sum {q : Nat → Rat} {n : Nat} {l : List Nat} (h : Ord (frQ q) n l) : sumZ (resQ q l n) n = (sumR q n).floor := by
  unfold resQ
  rw [rnd_sum h.nodup h.len (fun i hi => h.mem.1 hi) _ (lf_room h).1, Int.toNat_of_nonneg (lfQ_nonneg q n)]
  unfold lfQ
  omega
theorem res_mono {q : Nat → Rat} {n : Nat} {l : List Nat} (h : Ord (frQ q) n l) {i k : Nat} (hi : i < n) (hq : q k < q i ∨ (q i = q k ∧ i < k)) : resQ q l n k ≤ resQ q l n i := by
  have hf : baQ q k ≤ baQ q i := Rat.floor_monotone (by rcases hq with g | ⟨g, _⟩ <;> grind)
  rcases res_or h k with ⟨_, e1⟩ | ⟨k1, e1, _⟩ <;> rcases res_or h i with ⟨i1, e2⟩ | ⟨_, e2, _⟩
  · omega
  · omega
  · by_cases g : baQ q k = baQ q i
    · exfalso
      refine i1 (h.before hi ?_ k1)
      unfold frQ
      unfold baQ at g
      rw [g]
      rcases hq with q1 | ⟨q1, q2⟩
      · left; grind
      · exact .inr ⟨by grind, q2⟩
    · omega
  · omega
theorem res_near {q : Nat → Rat} {n : Nat} {l : List Nat} (h : Ord (frQ q) n l) {i k : Nat} (hq : q i = q k) : resQ q l n i ≤ resQ q l n k + 1 := by
  have hf : baQ q i = baQ q k := by unfold baQ; rw [hq]
  rcases res_or h k with ⟨_, e1⟩ | ⟨_, e1, _⟩ <;> rcases res_or h i with ⟨_, e2⟩ | ⟨_, e2, _⟩ <;> omega
theorem res_nonneg {q : Nat → Rat} {n : Nat} {l : List Nat} (h : Ord (frQ q) n l) {i : Nat} (h0 : 0 ≤ q i) : 0 ≤ resQ q l n i := by
  have := baQ_nonneg h0
  rcases res_or h i with ⟨_, e⟩ | ⟨_, e, _⟩ <;> omega
/-- By less than 1, and not at all at an integer. -/
theorem res_close {q : Nat → Rat} {n : Nat} {l : List Nat} (h : Ord (frQ q) n l) (i : Nat) : ((resQ q l n i : Int) : Rat) - q i < 1 ∧ -1 < ((resQ q l n i : Int) : Rat) - q i ∧ (frQ q i = 0 → ((resQ q l n i : Int) : Rat) = q i) := by
  have hr := frQ_range q i
  have e : q i = ((baQ q i : Int) : Rat) + frQ q i := by unfold frQ baQ; grind
  rcases res_or h i with ⟨_, e1⟩ | ⟨_, e1, hne⟩
  · rw [e1]
    refine ⟨by grind, by grind, fun g => by grind⟩
  · rw [e1, Rat.intCast_add]
    have : ((1 : Int) : Rat) = 1 := rfl
    refine ⟨by grind, by grind, fun g => absurd g hne⟩
theorem res_up {q : Nat → Rat} {n : Nat} {l : List Nat} (h : Ord (frQ q) n l) (i : Nat) : q i < ((resQ q l n i : Int) : Rat) → i ∈ l.take (lfQ q n).toNat := by
  intro g
  have hr := frQ_range q i
  have e : q i = ((baQ q i : Int) : Rat) + frQ q i := by unfold frQ baQ; grind
  rcases res_or h i with ⟨_, e1⟩ | ⟨h1, _, _⟩
  · rw [e1] at g; exfalso; grind
  · exact h1
theorem res_down {q : Nat → Rat} {n : Nat} {l : List Nat} (h : Ord (frQ q) n l) (i : Nat) : ((resQ q l n i : Int) : Rat) < q i → i ∉ l.take (lfQ q n).toNat := by
  intro g h1
  have hr := frQ_range q i
  have e : q i = ((baQ q i : Int) : Rat) + frQ q i := by unfold frQ baQ; grind
  rcases res_or h i with ⟨h2, _⟩ | ⟨_, e1, _⟩
  · exact h2 h1
  · rw [e1, Rat.intCast_add] at g
    have : ((1 : Int) : Rat) = 1 := rfl
    grind
/-- If the sum is an integer. -/
theorem lf_int {q : Nat → Rat} {n : Nat} {T : Int} (h : sumR q n = (T : Rat)) : ((lfQ q n : Int) : Rat) = sumR (frQ q) n ∧ lfQ q n = T - sumZ (baQ q) n ∧ (sumR q n).floor = T := by
  have e : (sumR q n).floor = T := by rw [h, Rat.floor_intCast]
  have h2 := sumR_split q n
  unfold lfQ
  rw [e]
  refine ⟨?_, rfl, rfl⟩
  rw [Rat.intCast_sub]
  grind
theorem res_le {q : Nat → Rat} {n : Nat} {l : List Nat} (h : Ord (frQ q) n l) {T : Int} (hs : sumR q n = (T : Rat)) (h0 : ∀ i, i < n → 0 ≤ q i) {i : Nat} (hi : i < n) : resQ q l n i ≤ T := by
  have h1 := (le_sumR h0 hi).2
  rw [hs] at h1
  have hr := frQ_range q i
  have e : q i = ((baQ q i : Int) : Rat) + frQ q i := by unfold frQ baQ; grind
  rcases res_or h i with ⟨_, e1⟩ | ⟨_, e1, hne⟩
  · rw [e1]
    exact Rat.intCast_le_intCast.1 (by grind)
  · rw [e1]
    have : baQ q i < T := Rat.intCast_lt_intCast.1 (by grind)
    omega
end Go.Proofs.YtblfipdfklpmmabDoor
