/-
  Collateral: the order of charges, capacities and shares; plain definitions and facts.
-/
import Derived.Test.YtdafaibhiobpaabGreatDoorLawRm
namespace Go.Proofs.YtdafaibhiobpaabGreatDoor
open Go Go.RowKit Go.Sx

structure Ob where
  deb : Int
  cre : Int
  amt : RR
  inc : Int
  acq : Int
  cont : Bool
def encOb (o : Ob) : List Value := [.int .i64 o.deb, .int .i64 o.cre, .bool o.amt.neg, .string o.amt.num, .string o.amt.den, .int .i64 o.inc, .int .i64 o.acq, .bool o.cont]
def aggOb (o : Ob) : Value := .agg #[.int .i64 o.deb, .int .i64 o.cre, .bool o.amt.neg, .string o.amt.num, .string o.amt.den, .int .i64 o.inc, .int .i64 o.acq, .bool o.cont]
theorem encOb_len : ∀ o, (encOb o).length = 8 := fun _ => rfl
def zOb : Ob := ⟨0, 0, zRR, 0, 0, false⟩
def isDay (d : Int) : Bool := decide (0 ≤ d ∧ d ≤ 1048576)
def pairB (n a b : Int) : Bool := decide (0 ≤ a ∧ a < n ∧ 0 ≤ b ∧ b < n ∧ a ≠ b)
def obErr (n : Int) (o : Ob) : Int := if pairB n o.deb o.cre = false then 14 else if toQ o.amt < 0 then 7 else if isDay o.inc = false ∨ isDay o.acq = false then 1 else if o.acq < o.inc then 15 else 0
def obsE (n : Int) (l : List Ob) : Int := if n < 0 ∨ 32 < n then 1 else if 64 < l.length then 2 else firstE (obErr n) l
def chkE (n : Int) (l : List Ob) (c s : Int) : Int := if obsE n l ≠ 0 then obsE n l else if isDay c = false ∨ isDay s = false then 1 else 0
def eligB (o : Ob) (c s : Int) : Bool := isDay c && isDay s && !o.cont && decide (o.inc ≤ c) && (decide (o.acq = o.inc) || decide (o.acq < c - s))
def ObB (k : Nat) (l : List Ob) : Prop := ∀ o ∈ l, Lr o.amt ≤ k

/-! ### Who is set off -/
def gO (l : List Ob) (i : Nat) : Ob := l.getD i zOb
def goes (l : List Ob) (c s a b : Int) (i : Nat) : Bool := decide ((gO l i).deb = a) && decide ((gO l i).cre = b) && eligB (gO l i) c s
def selL (l : List Ob) (c s a b : Int) (n : Nat) : List Nat := (List.range n).filter (goes l c s a b)
theorem selL_succ (l : List Ob) (c s a b : Int) (n : Nat) : selL l c s a b (n + 1) = if goes l c s a b n = true then selL l c s a b n ++ [n] else selL l c s a b n := by
  unfold selL
  rw [List.range_succ, List.filter_append]
  cases h : goes l c s a b n with
  | true => simp [h]
  | false => simp [h]
theorem selL_len (l : List Ob) (c s a b : Int) (n : Nat) : (selL l c s a b n).length ≤ n := by
  unfold selL
  have h := List.length_filter_le (goes l c s a b) (List.range n)
  rwa [List.length_range] at h
theorem selL_mem {l : List Ob} {c s a b : Int} {n i : Nat} : i ∈ selL l c s a b n ↔ i < n ∧ goes l c s a b i = true := by
  unfold selL
  rw [List.mem_filter, List.mem_range]
def older (l : List Ob) (i k : Nat) : Bool := decide ((gO l i).inc < (gO l k).inc)
/-- The eligible obligations of a to b in the order in which they are set off. -/
def ordL (l : List Ob) (c s a b : Int) : List Nat := isort (older l) (selL l c s a b l.length)
theorem ordL_mem {l : List Ob} {c s a b : Int} {i : Nat} : i ∈ ordL l c s a b ↔ i < l.length ∧ goes l c s a b i = true := by
  unfold ordL
  rw [(isort_perm _ _).mem_iff, selL_mem]
theorem ordL_nodup (l : List Ob) (c s a b : Int) : (ordL l c s a b).Nodup := by
  unfold ordL
  rw [(isort_perm _ _).nodup_iff]
  exact List.Nodup.sublist List.filter_sublist List.nodup_range
/-- i goes ahead of k. -/
def ahead (l : List Ob) (i k : Nat) : Prop := (gO l i).inc < (gO l k).inc ∨ ((gO l i).inc = (gO l k).inc ∧ i < k)
theorem ordL_sorted (l : List Ob) (c s a b : Int) : (ordL l c s a b).Pairwise (ahead l) := by
  have h := isort_sorted (lt := older l) (L := selL l c s a b l.length) (R := fun i k => i < k)
    (fun i k h => by unfold older at h ⊢; have := of_decide_eq_true h; exact decide_eq_false (by omega))
    (fun i k m h1 h2 => by unfold older at h1 h2 ⊢; have := of_decide_eq_false h1; have := of_decide_eq_false h2; exact decide_eq_false (by omega))
    (List.Pairwise.sublist List.filter_sublist List.pairwise_lt_range)
  refine h.imp ?_
  rintro i k ⟨h1, h2⟩
  unfold older at h1 h2
  have h1' := of_decide_eq_false h1
  by_cases g : (gO l i).inc < (gO l k).inc
  · exact .inl g
  · exact .inr ⟨by omega, h2 (decide_eq_false g)⟩

/-! ### Reducing -/
structure RS where
  rest : Nat → Rat
  amt : Rat
def rstp (s : RS) (i : Nat) : RS := ⟨fun k => if k = i then s.rest i - minQ (s.rest i) s.amt else s.rest k, s.amt - minQ (s.rest i) s.amt⟩
def redu (s : RS) (idx : List Nat) : RS := idx.foldl rstp s
theorem redu_snoc (s : RS) (idx : List Nat) (i : Nat) : redu s (idx ++ [i]) = rstp (redu s idx) i := by unfold redu; rw [List.foldl_append]; rfl
theorem redu_off {idx : List Nat} {i : Nat} (h : i ∉ idx) (s : RS) : (redu s idx).rest i = s.rest i := by
  unfold redu
  induction idx generalizing s with
  | nil => rfl
  | cons k idx ih =>
    rw [List.foldl_cons, ih (fun g => h (List.mem_cons_of_mem _ g))]
    show (if i = k then _ else _) = _
    rw [if_neg (fun g => h (by rw [g]; exact List.mem_cons_self ..))]
theorem redu_congr {idx : List Nat} {s t : RS} (h : ∀ i ∈ idx, s.rest i = t.rest i) (ha : s.amt = t.amt) : (∀ i ∈ idx, (redu s idx).rest i = (redu t idx).rest i) ∧ (redu s idx).amt = (redu t idx).amt := by
  unfold redu
  have key : ∀ (idx : List Nat) (s t : RS) (A : Nat → Prop), (∀ i ∈ idx, A i) → (∀ i, A i → s.rest i = t.rest i) → s.amt = t.amt → (∀ i, A i → (idx.foldl rstp s).rest i = (idx.foldl rstp t).rest i) ∧ (idx.foldl rstp s).amt = (idx.foldl rstp t).amt := by
    intro idx
    induction idx with
    | nil => intro s t A _ h1 h2; exact ⟨h1, h2⟩
    | cons k idx ih =>
      intro s t A hA h1 h2
      rw [List.foldl_cons, List.foldl_cons]
      have hk := h1 k (hA k (List.mem_cons_self ..))
      refine ih _ _ A (fun i hi => hA i (List.mem_cons_of_mem _ hi)) (fun i hi => ?_) ?_
      · show (if i = k then s.rest k - minQ (s.rest k) s.amt else s.rest i) = (if i = k then t.rest k - minQ (t.rest k) t.amt else t.rest i)
        rw [hk, h2, h1 i hi]
      · show s.amt - minQ (s.rest k) s.amt = t.amt - minQ (t.rest k) t.amt
        rw [hk, h2]
  have := key idx s t (fun i => i ∈ idx) (fun _ h => h) h ha
  exact this
def oQ (l : List Ob) (i : Nat) : Rat := toQ (gO l i).amt
def totS (f : Nat → Rat) (idx : List Nat) : Rat := sumQ (idx.map f)
/-- What is set off between a and b. -/
def mQ (l : List Ob) (c s a b : Int) : Rat := minQ (totS (oQ l) (ordL l c s a b)) (totS (oQ l) (ordL l c s b a))
/-- What is left of an obligation. -/
def finQ (l : List Ob) (c s : Int) (i : Nat) : Rat := (redu ⟨oQ l, mQ l c s (gO l i).deb (gO l i).cre⟩ (ordL l c s (gO l i).deb (gO l i).cre)).rest i
theorem minQ_comm' (p q : Rat) : minQ p q = minQ q p := by unfold minQ; split <;> split <;> grind
theorem mQ_comm (l : List Ob) (c s a b : Int) : mQ l c s a b = mQ l c s b a := minQ_comm' _ _
theorem finQ_off {l : List Ob} {c s : Int} {i : Nat} (h : eligB (gO l i) c s = false) : finQ l c s i = oQ l i := by
  unfold finQ
  rw [redu_off]
  intro g
  have := (ordL_mem.1 g).2
  unfold goes at this
  rw [h] at this
  simp at this

/-! ### Facts on reducing -/
theorem sumQ_cons (q : Rat) (l : List Rat) : sumQ (q :: l) = q + sumQ l := by
  have key : ∀ (l : List Rat) (a : Rat), l.foldl (· + ·) a = a + sumQ l := by
    intro l
    induction l with
    | nil => intro a; show a = a + 0; grind
    | cons x l ih =>
      intro a
      rw [List.foldl_cons, ih]
      unfold sumQ
      rw [List.foldl_cons, ih]
      grind
  show l.foldl (· + ·) (0 + q) = _
  rw [key]; grind
theorem sumQ_perm {l m : List Rat} (h : l.Perm m) : sumQ l = sumQ m := by
  induction h with
  | nil => rfl
  | cons x _ ih => rw [sumQ_cons, sumQ_cons, ih]
  | swap x y l => rw [sumQ_cons, sumQ_cons, sumQ_cons, sumQ_cons]; grind
  | trans _ _ ih1 ih2 => rw [ih1, ih2]
theorem sumQ_nonneg {l : List Rat} (h : ∀ q ∈ l, 0 ≤ q) : 0 ≤ sumQ l := by
  induction l with
  | nil => exact Rat.le_refl
  | cons q l ih =>
    rw [sumQ_cons]
    have h1 := ih fun x hx => h x (List.mem_cons_of_mem _ hx)
    have h2 := h q (List.mem_cons_self ..)
    grind
theorem redu_cons (s : RS) (i : Nat) (idx : List Nat) : redu s (i :: idx) = redu (rstp s i) idx := rfl
/-- What a reduction does: nothing falls below 0 or rises; what is taken off in all is the amount, or all that there is. -/
theorem redu_facts {idx : List Nat} (hnd : idx.Nodup) {s : RS} (h0 : ∀ i ∈ idx, 0 ≤ s.rest i) (ha : 0 ≤ s.amt) :
    (∀ i ∈ idx, 0 ≤ (redu s idx).rest i ∧ (redu s idx).rest i ≤ s.rest i) ∧ 0 ≤ (redu s idx).amt ∧ totS s.rest idx - totS (redu s idx).rest idx = s.amt - (redu s idx).amt ∧ (0 < (redu s idx).amt → ∀ i ∈ idx, (redu s idx).rest i = 0) := by
  induction idx generalizing s with
  | nil => refine ⟨fun i hi => (by cases hi), ha, ?_, fun _ i hi => (by cases hi)⟩
           show (0 : Rat) - 0 = s.amt - s.amt
           grind
  | cons k idx ih =>
    obtain ⟨hk, hnd'⟩ := List.nodup_cons.1 hnd
    have hk0 := h0 k (List.mem_cons_self ..)
    have e1 : ∀ i ∈ idx, (rstp s k).rest i = s.rest i := fun i hi => by
      show (if i = k then _ else _) = _
      rw [if_neg (fun g => hk (by rw [← g]; exact hi))]
    have ek : (rstp s k).rest k = s.rest k - minQ (s.rest k) s.amt := by
      show (if k = k then _ else _) = _
      rw [if_pos rfl]
    have ea : (rstp s k).amt = s.amt - minQ (s.rest k) s.amt := rfl
    have hm : minQ (s.rest k) s.amt ≤ s.rest k ∧ minQ (s.rest k) s.amt ≤ s.amt ∧ 0 ≤ minQ (s.rest k) s.amt ∧ (minQ (s.rest k) s.amt = s.rest k ∨ minQ (s.rest k) s.amt = s.amt) := by
      unfold minQ; split <;> grind
    obtain ⟨g1, g2, g3, g4⟩ := ih hnd' (s := rstp s k) (fun i hi => by rw [e1 i hi]; exact h0 i (List.mem_cons_of_mem _ hi)) (by rw [ea]; grind)
    rw [redu_cons]
    have ek2 : (redu (rstp s k) idx).rest k = s.rest k - minQ (s.rest k) s.amt := by rw [redu_off hk, ek]
    have et : totS (rstp s k).rest idx = totS s.rest idx := by
      unfold totS
      rw [List.map_congr_left e1]
    refine ⟨fun i hi => ?_, g2, ?_, fun hpos i hi => ?_⟩
    · rcases List.mem_cons.1 hi with rfl | hi
      · rw [ek2]; grind
      · have := g1 i hi
        rw [e1 i hi] at this
        exact this
    · unfold totS at g3 et ⊢
      rw [List.map_cons, List.map_cons, sumQ_cons, sumQ_cons, ek2]
      rw [et, ea] at g3
      grind
    · rcases List.mem_cons.1 hi with rfl | hi
      · rw [ek2]
        rcases hm.2.2.2 with e | e
        · rw [e]; grind
        · exfalso
          rw [ea, e] at g3
          have h1 := g3
          have h5 : totS (redu (rstp s i) idx).rest idx ≤ totS (rstp s i).rest idx := by
            unfold totS
            clear ih g2 g3 g4 h1
            have : ∀ (J : List Nat), (∀ j ∈ J, (redu (rstp s i) idx).rest j ≤ (rstp s i).rest j) → sumQ (J.map (redu (rstp s i) idx).rest) ≤ sumQ (J.map (rstp s i).rest) := by
              intro J
              induction J with
              | nil => intro _; exact Rat.le_refl
              | cons j J ih =>
                intro h
                rw [List.map_cons, List.map_cons, sumQ_cons, sumQ_cons]
                have h1 := ih fun x hx => h x (List.mem_cons_of_mem _ hx)
                have h2 := h j (List.mem_cons_self ..)
                grind
            exact this idx fun j hj => (g1 j hj).2
          grind
      · exact g4 hpos i hi
/-- Ones that come later are touched only if all ahead of them are gone. -/
theorem redu_order {A B : List Nat} (hnd : (A ++ B).Nodup) {s : RS} (h0 : ∀ i ∈ A ++ B, 0 ≤ s.rest i) (ha : 0 ≤ s.amt) {k : Nat} (hk : k ∈ B) (h : (redu s (A ++ B)).rest k ≠ s.rest k) : ∀ i ∈ A, (redu s (A ++ B)).rest i = 0 := by
  have e : redu s (A ++ B) = redu (redu s A) B := by unfold redu; rw [List.foldl_append]
  rw [List.nodup_append] at hnd
  obtain ⟨n1, n2, n3⟩ := hnd
  obtain ⟨g1, g2, g3, g4⟩ := redu_facts n1 (s := s) (fun i hi => h0 i (List.mem_append_left _ hi)) ha
  have hoff : ∀ i ∈ B, (redu s A).rest i = s.rest i := fun i hi => redu_off (fun g => n3 i g i hi rfl) s
  rw [e] at h ⊢
  have hpos : 0 < (redu s A).amt := by
    refine Rat.not_le.1 fun hle => h ?_
    have hz : (redu s A).amt = 0 := Rat.le_antisymm hle g2
    have : ∀ (B : List Nat) (t : RS), t.amt = 0 → (∀ i ∈ B, 0 ≤ t.rest i) → ∀ i, (redu t B).rest i = t.rest i := by
      intro B
      induction B with
      | nil => intro t _ _ i; rfl
      | cons b B ih =>
        intro t ht hb i
        rw [redu_cons]
        have hb0 := hb b (List.mem_cons_self ..)
        have hm : minQ (t.rest b) t.amt = 0 := by rw [ht]; unfold minQ; split <;> grind
        have hr : ∀ i, (rstp t b).rest i = t.rest i := fun i => by
          show (if i = b then t.rest b - minQ (t.rest b) t.amt else t.rest i) = t.rest i
          rw [hm]
          split
          · next g => rw [g]; grind
          · rfl
        rw [ih (rstp t b) (by show t.amt - minQ (t.rest b) t.amt = 0; rw [hm, ht]; grind) (fun j hj => by rw [hr]; exact hb j (List.mem_cons_of_mem _ hj)), hr]
    rw [this B _ hz (fun i hi => by rw [hoff i hi]; exact h0 i (List.mem_append_right _ hi)) k]
    exact hoff k hk
  intro i hi
  rw [redu_off (fun g => n3 i hi i g rfl)]
  exact g4 hpos i hi
theorem L_sumQ' {l : List Rat} {K : Nat} (h : ∀ q ∈ l, L q ≤ K) (k : Nat) : L (sumQ (l.take k)) ≤ k * (K + 1) + 1 := by
  induction k with
  | zero => rw [List.take_zero]; show L 0 ≤ _; rw [L_zero]; omega
  | succ k ih =>
    by_cases hk : k < l.length
    · rw [take_succ' l k 0 hk, sumQ_snoc]
      have h1 := L_add (sumQ (l.take k)) (l.getD k 0)
      have h2 := h _ (getD_mem l k 0 hk)
      rw [Nat.add_mul]; omega
    · rw [List.take_of_length_le (by omega)]
      rw [List.take_of_length_le (by omega)] at ih
      rw [Nat.add_mul]; omega
end Go.Proofs.YtdafaibhiobpaabGreatDoor
namespace Go.Proofs.YtdafaibhiobpaabGreatDoor
open Go Go.RowKit Go.Sx

def zI (L : List Nat) : List Int := L.map fun i : Nat => (i : Int)
theorem zI_len (L : List Nat) : (zI L).length = L.length := List.length_map _
theorem zI_get (L : List Nat) {k : Nat} (h : k < L.length) : (zI L).getD k 0 = ((L.getD k 0 : Nat) : Int) := by
  unfold zI
  rw [List.getD_eq_getElem?_getD, List.getElem?_map, List.getD_eq_getElem?_getD, List.getElem?_eq_getElem h]; rfl
theorem zI_drop (L : List Nat) (t : Nat) : (zI L).drop t = zI (L.drop t) := by unfold zI; rw [List.map_drop]
theorem zI_take (L : List Nat) (t : Nat) : (zI L).take t = zI (L.take t) := by unfold zI; rw [List.map_take]
/-- Of a block that holds a table of numbers: it reads as a slice. -/
theorem sl_tab {w0 w : World} {b n : Nat} {t : TypeId} {q : Nat → Rat} {X : List Blk} (hn : n ≤ 1000000) (h : St w0 w ((b, t, (tab n fun i => ofQ (q i)).flatMap encR) :: X)) : Sl encR 3 w (.slice (some ⟨b, 0, none⟩) n n) (tab n fun i => ofQ (q i)) := by
  have h1 := h.sle (k := 0) (L := tab n fun i => ofQ (q i)) (n := n) (cap := n) rfl encR_len (by rw [tab_len]; exact Nat.le_refl _) (Nat.le_refl _) (by omega)
  rwa [List.take_of_length_le (by rw [tab_len]; exact Nat.le_refl _)] at h1
theorem L_totS {q : Nat → Rat} {J : List Nat} {K : Nat} (h : ∀ i ∈ J, L (q i) ≤ K) : L (totS q J) ≤ J.length * (K + 1) + 1 := by
  have h1 := L_sumQ' (l := J.map q) (K := K) (fun x hx => by obtain ⟨j, hj, rfl⟩ := List.mem_map.1 hx; exact h j hj) J.length
  rw [List.take_of_length_le (by simp)] at h1
  exact h1
theorem totS_snoc (f : Nat → Rat) (J : List Nat) (i : Nat) : totS f (J ++ [i]) = totS f J + f i := by
  unfold totS; rw [List.map_append, List.map_cons, List.map_nil, sumQ_snoc]
theorem totS_cons (f : Nat → Rat) (J : List Nat) (i : Nat) : totS f (i :: J) = f i + totS f J := by
  unfold totS; rw [List.map_cons, sumQ_cons]
theorem totS_nil (f : Nat → Rat) : totS f [] = 0 := rfl
theorem totS_append (f : Nat → Rat) (A B : List Nat) : totS f (A ++ B) = totS f A + totS f B := by
  induction A with
  | nil => rw [List.nil_append, totS_nil]; grind
  | cons a A ih => rw [List.cons_append, totS_cons, totS_cons, ih]; grind
theorem totS_congr {f g : Nat → Rat} {J : List Nat} (h : ∀ i ∈ J, f i = g i) : totS f J = totS g J := by
  unfold totS; rw [List.map_congr_left h]
theorem totS_nonneg {f : Nat → Rat} {J : List Nat} (h : ∀ i ∈ J, 0 ≤ f i) : 0 ≤ totS f J := sumQ_nonneg fun q hq => by
  obtain ⟨i, hi, rfl⟩ := List.mem_map.1 hq; exact h i hi
theorem totS_mul (f : Nat → Rat) (J : List Nat) (c : Rat) : totS (fun i => f i * c) J = totS f J * c := by
  induction J with
  | nil => show (0 : Rat) = 0 * c; grind
  | cons a J ih => rw [totS_cons, totS_cons, ih]; grind
theorem totS_perm {f : Nat → Rat} {J M : List Nat} (h : J.Perm M) : totS f J = totS f M := sumQ_perm (h.map f)

/-! ### The order of the charges -/
def gC (cs : List Ch) (i : Nat) : Ch := cs.getD i zCh
def pr (cs : List Ch) (i : Nat) : Int := (gC cs i).prio
def lower (cs : List Ch) (i k : Nat) : Bool := decide (pr cs i < pr cs k)
def ordC (cs : List Ch) : List Nat := isort (lower cs) (List.range cs.length)
theorem ordC_perm (cs : List Ch) : (ordC cs).Perm (List.range cs.length) := isort_perm _ _
theorem ordC_len (cs : List Ch) : (ordC cs).length = cs.length := by rw [(ordC_perm cs).length_eq, List.length_range]
theorem ordC_mem {cs : List Ch} {i : Nat} : i ∈ ordC cs ↔ i < cs.length := by rw [(ordC_perm cs).mem_iff, List.mem_range]
theorem ordC_nodup (cs : List Ch) : (ordC cs).Nodup := (ordC_perm cs).nodup_iff.2 List.nodup_range
/-- i stands ahead of k. -/
def aheadC (cs : List Ch) (i k : Nat) : Prop := pr cs i < pr cs k ∨ (pr cs i = pr cs k ∧ i < k)
theorem ordC_sorted (cs : List Ch) : (ordC cs).Pairwise (aheadC cs) := by
  have := isort_sorted (lt := lower cs) (fun a b h => by unfold lower at *; simp at *; omega) (fun a b c h1 h2 => by unfold lower at *; simp at *; omega) (L := List.range cs.length) (R := (· < ·)) List.pairwise_lt_range
  refine this.imp ?_
  intro a b h
  unfold aheadC
  unfold lower at h
  simp only [decide_eq_false_iff_not] at h
  omega
def cmpC (cs : List Ch) (x y : Int) : Int := if pr cs x.toNat < pr cs y.toNat then -1 else if pr cs y.toNat < pr cs x.toNat then 1 else 0
theorem ltC_cmpC (cs : List Ch) (i k : Nat) : ltC (cmpC cs) (i : Int) (k : Int) = lower cs i k := by
  unfold ltC cmpC lower
  rw [decide_eq_decide, Int.toNat_natCast, Int.toNat_natCast]
  split
  · simp_all
  · split <;> simp_all
theorem sort_zC (cs : List Ch) (L : List Nat) : isort (ltC (cmpC cs)) (zI L) = zI (isort (lower cs) L) := isort_map (f := fun i : Nat => (i : Int)) (fun i k => ltC_cmpC cs i k) L

/-! ### Capacities -/
structure CS where
  op : Nat → Rat
  cap : Nat → Rat
def roomQ (c : Ch) (q : Rat) : Rat := if c.lim = true then minQ (maxQ q 0) (toQ c.limit) else maxQ q 0
def clm (cs : List Ch) (i : Nat) : Nat := (gC cs i).claim.toNat
def cstp (cs : List Ch) (s : CS) (i : Nat) : CS :=
  ⟨fun k => if k = clm cs i then s.op k - roomQ (gC cs i) (s.op (clm cs i)) else s.op k, fun j => if j = i then roomQ (gC cs i) (s.op (clm cs i)) else s.cap j⟩
def kapS (cs : List Ch) (ow : Nat → Rat) (J : List Nat) : CS := J.foldl (cstp cs) ⟨ow, fun _ => 0⟩
theorem kapS_snoc (cs : List Ch) (ow : Nat → Rat) (J : List Nat) (i : Nat) : kapS cs ow (J ++ [i]) = cstp cs (kapS cs ow J) i := by unfold kapS; rw [List.foldl_append]; rfl
/-- The capacity of charge i. -/
def kapQ (cs : List Ch) (ow : Nat → Rat) (i : Nat) : Rat := (kapS cs ow (ordC cs)).cap i
/-- Charges and what is owed are as Check wants them, and of a size. -/
structure ChOk (cs : List Ch) (ow : Nat → Rat) (m K : Nat) : Prop where
  n8 : cs.length ≤ 8
  clm : ∀ i, i < cs.length → 0 ≤ (gC cs i).claim ∧ (gC cs i).claim < m
  lim : ∀ i, i < cs.length → (gC cs i).lim = true → 0 ≤ toQ (gC cs i).limit
  lB : ∀ i, i < cs.length → Lr (gC cs i).limit ≤ K
  ow0 : ∀ c, c < m → 0 ≤ ow c
  oB : ∀ c, c < m → L (ow c) ≤ K
theorem ChOk.cl {cs : List Ch} {ow : Nat → Rat} {m K : Nat} (h : ChOk cs ow m K) {i : Nat} (hi : i < cs.length) : Proofs.YtdafaibhiobpaabGreatDoor.clm cs i < m ∧ (gC cs i).claim = (Proofs.YtdafaibhiobpaabGreatDoor.clm cs i : Nat) := by
  have := h.clm i hi
  unfold Proofs.YtdafaibhiobpaabGreatDoor.clm
  omega
theorem maxQ_pos {q : Rat} (h : 0 ≤ q) : maxQ q 0 = q := if_pos h
theorem roomQ_of {c : Ch} {q : Rat} (h : 0 ≤ q) : roomQ c q = if c.lim = true then minQ q (toQ c.limit) else q := by unfold roomQ; rw [maxQ_pos h]
theorem room_bound {c : Ch} {q : Rat} (h : 0 ≤ q) (hl : c.lim = true → 0 ≤ toQ c.limit) : 0 ≤ roomQ c q ∧ roomQ c q ≤ q := by
  rw [roomQ_of h]
  split
  · next g =>
    have := hl g
    unfold minQ
    split
    · exact ⟨h, Rat.le_refl⟩
    · exact ⟨this, by grind⟩
  · exact ⟨h, Rat.le_refl⟩
theorem kapS_bound {cs : List Ch} {ow : Nat → Rat} {m K : Nat} (h : ChOk cs ow m K) {J : List Nat} (hJ : ∀ i ∈ J, i < cs.length) (k : Nat) (hk : k ≤ J.length) :
    (∀ c, c < m → 0 ≤ (kapS cs ow (J.take k)).op c ∧ (kapS cs ow (J.take k)).op c ≤ ow c ∧ L ((kapS cs ow (J.take k)).op c) ≤ K + k * (K + 1) ) ∧
    (∀ i, 0 ≤ (kapS cs ow (J.take k)).cap i ∧ L ((kapS cs ow (J.take k)).cap i) ≤ K + k * (K + 1) + 1) := by
  induction k with
  | zero => exact ⟨fun c hc => ⟨h.ow0 c hc, Rat.le_refl, by have := h.oB c hc; show L (ow c) ≤ _; omega⟩, fun i => ⟨Rat.le_refl, by show L 0 ≤ _; rw [L_zero]; omega⟩⟩
  | succ k ih =>
    obtain ⟨ih1, ih2⟩ := ih (by omega)
    have hlt : k < J.length := by omega
    rw [take_succ' J k 0 hlt, kapS_snoc]
    obtain ⟨i, hi⟩ : ∃ i, i = J.getD k 0 := ⟨_, rfl⟩
    have hil : i < cs.length := hJ i (by rw [hi]; exact getD_mem J k 0 hlt)
    rw [← hi]
    obtain ⟨S, hS⟩ : ∃ S, S = kapS cs ow (J.take k) := ⟨_, rfl⟩
    rw [← hS] at ih1 ih2 ⊢
    obtain ⟨hc1, hc2⟩ := h.cl hil
    obtain ⟨o1, o2, o3⟩ := ih1 _ hc1
    obtain ⟨r1, r2⟩ := room_bound (c := gC cs i) o1 (h.lim i hil)
    have hLim := h.lB i hil
    have hLt := L_toQ (gC cs i).limit
    have hrm : (roomQ (gC cs i) (S.op (clm cs i)) = S.op (clm cs i)) ∨ roomQ (gC cs i) (S.op (clm cs i)) = toQ (gC cs i).limit := by
      rw [roomQ_of o1]
      split
      · unfold minQ; split
        · exact .inl rfl
        · exact .inr rfl
      · exact .inl rfl
    rw [Nat.add_mul]
    refine ⟨fun c hc => ?_, fun j => ?_⟩
    · show 0 ≤ (if c = clm cs i then _ else _) ∧ (if c = clm cs i then _ else _) ≤ _ ∧ L (if c = clm cs i then _ else _) ≤ _
      by_cases e : c = clm cs i
      · subst e
        rw [if_pos rfl]
        refine ⟨by grind, by grind, ?_⟩
        rcases hrm with e | e
        · rw [e, show S.op (clm cs i) - S.op (clm cs i) = 0 by grind, L_zero]; omega
        · rw [e]
          have := L_sub (S.op (clm cs i)) (toQ (gC cs i).limit)
          omega
      · rw [if_neg e]
        obtain ⟨a1, a2, a3⟩ := ih1 c hc
        exact ⟨a1, a2, by omega⟩
    · show 0 ≤ (if j = i then _ else _) ∧ L (if j = i then _ else _) ≤ _
      by_cases e : j = i
      · rw [if_pos e]
        refine ⟨r1, ?_⟩
        rcases hrm with e | e <;> rw [e] <;> omega
      · rw [if_neg e]
        obtain ⟨a1, a2⟩ := ih2 j
        exact ⟨a1, by omega⟩
theorem kap_bound {cs : List Ch} {ow : Nat → Rat} {m K : Nat} (h : ChOk cs ow m K) (i : Nat) : 0 ≤ kapQ cs ow i ∧ L (kapQ cs ow i) ≤ 9 * K + 9 := by
  have h8 := h.n8
  have hol := ordC_len cs
  obtain ⟨_, h2⟩ := kapS_bound h (J := ordC cs) (fun i hi => ordC_mem.1 hi) (ordC cs).length (Nat.le_refl _)
  rw [List.take_of_length_le (Nat.le_refl _)] at h2
  obtain ⟨a, b⟩ := h2 i
  have : (ordC cs).length * (K + 1) ≤ 8 * (K + 1) := Nat.mul_le_mul_right _ (by omega)
  exact ⟨a, by unfold kapQ; omega⟩

/-! ### Shares -/
def quoQ (m s : Rat) : Rat := if m < s then m / s else 1
/-- What charges of a lower priority number take, and those of the same. -/
def befQ (cs : List Ch) (kp : Nat → Rat) (p : Int) : Rat := totS kp ((ordC cs).filter fun j => decide (pr cs j < p))
def samQ (cs : List Ch) (kp : Nat → Rat) (p : Int) : Rat := totS kp ((ordC cs).filter fun j => decide (pr cs j = p))
def monQ (cs : List Ch) (kp : Nat → Rat) (P : Rat) (p : Int) : Rat := maxQ (P - befQ cs kp p) 0
def shQ (cs : List Ch) (kp : Nat → Rat) (P : Rat) (i : Nat) : Rat := kp i * quoQ (monQ cs kp P (pr cs i)) (samQ cs kp (pr cs i))
def lefQ (cs : List Ch) (kp : Nat → Rat) (P : Rat) : Rat := maxQ (P - totS kp (ordC cs)) 0
/-- A run of charges of one priority: what stands ahead is lower, what stands behind is higher. -/
theorem run_split {cs : List Ch} {A G B : List Nat} {p : Int} (h : ordC cs = A ++ G ++ B) (hA : ∀ i ∈ A, pr cs i < p) (hG : ∀ i ∈ G, pr cs i = p) (hB : ∀ i ∈ B, p < pr cs i) (kp : Nat → Rat) :
    befQ cs kp p = totS kp A ∧ samQ cs kp p = totS kp G := by
  unfold befQ samQ
  rw [h]
  constructor
  · rw [List.filter_append, List.filter_append, List.filter_eq_self.2 (fun i hi => decide_eq_true (hA i hi)), List.filter_eq_nil_iff.2 (fun i hi => by have := hG i hi; simp; omega), List.filter_eq_nil_iff.2 (fun i hi => by have := hB i hi; simp; omega), List.append_nil, List.append_nil]
  · rw [List.filter_append, List.filter_append, List.filter_eq_nil_iff.2 (fun i hi => by have := hA i hi; simp; omega), List.filter_eq_self.2 (fun i hi => decide_eq_true (hG i hi)), List.filter_eq_nil_iff.2 (fun i hi => by have := hB i hi; simp; omega), List.append_nil, List.nil_append]
/-- What is left behind a run. -/
theorem run_money {m s : Rat} (hm : 0 ≤ m) : m - s * quoQ m s = maxQ (m - s) 0 := by
  unfold quoQ maxQ
  by_cases h : m < s
  · rw [if_pos h, if_neg (by grind)]
    have hs0 : s ≠ 0 := by grind
    rw [Rat.mul_comm, Rat.div_mul_cancel hs0]; grind
  · rw [if_neg h, if_pos (by grind)]; grind
theorem max_step (P a s : Rat) (hs : 0 ≤ s) : maxQ (maxQ (P - a) 0 - s) 0 = maxQ (P - (a + s)) 0 := by
  unfold maxQ
  split <;> split <;> split <;> grind
theorem quo_L {m s : Rat} {A B : Nat} (h1 : L m ≤ A) (h2 : L s ≤ B) : L (quoQ m s) ≤ A + B := by
  have := L_pos m
  unfold quoQ
  split
  · have := L_div m s; omega
  · rw [L_one]; omega
end Go.Proofs.YtdafaibhiobpaabGreatDoor
