/-
  Part 8 of the texts that the law's proof is made of: the framework and the walks.
-/
import Derived.Test.YtmghobajmhdbfaaGreatDoorPm7
namespace Go.Proofs.YtmghobajmhdbfaaGreatDoor
open Go Go.RowKit Go.Sx
abbrev Pr2 := Nat × Nat
def wI (W : List Pr2) (j : Nat) : Nat := (W.getD j (0, 0)).1
def wC (W : List Pr2) (j : Nat) : Nat := (W.getD j (0, 0)).2
def upP (P : Nat → Nat → Rat) (i k : Nat) (d : Rat) : Nat → Nat → Rat := fun a b => if a = i ∧ b = k then P a b + d else P a b
def psh (W : List Pr2) (a : Rat) (P : Nat → Nat → Rat) : Nat → Nat → Nat → Rat
  | 0 => P
  | j + 1 => if j + 1 < W.length then upP (upP (psh W a P j) (wI W j) (wC W j) a) (wI W (j + 1)) (wC W j) (-a) else upP (psh W a P j) (wI W j) (wC W j) a
def amt (W : List Pr2) (P : Nat → Nat → Rat) (lf : Nat → Rat) (most : Rat) : Nat → Rat
  | 0 => dK most (lf (wI W 0))
  | j + 1 => dK (amt W P lf most j) (P (wI W (j + 1)) (wC W j))
structure WayOk (n m : Nat) (sec : Nat → Nat → Bool) (P : Nat → Nat → Rat) (lf : Nat → Rat) (c : Nat) (W : List Pr2) : Prop where
  ne : 0 < W.length
  it : ∀ j, j < W.length → wI W j < n
  cl : ∀ j, j < W.length → wC W j < m
  sec : ∀ j, j < W.length → sec (wI W j) (wC W j) = true
  pay : ∀ j, j + 1 < W.length → 0 < P (wI W (j + 1)) (wC W j)
  dif : ∀ j l, j < l → l < W.length → wC W j ≠ wC W l
  fin : wC W (W.length - 1) = c
  lft : 0 < lf (wI W 0)
theorem minQ_le (p q : Rat) : dK p q ≤ p ∧ dK p q ≤ q := by unfold dK; split <;> grind
theorem minQ_pos {p q : Rat} (hp : 0 < p) (hq : 0 < q) : 0 < dK p q := by unfold dK; split <;> assumption
theorem amt_ok {n m : Nat} {sec : Nat → Nat → Bool} {P : Nat → Nat → Rat} {lf : Nat → Rat} {c : Nat} {W : List Pr2} (h : WayOk n m sec P lf c W) {most : Rat} (hm : 0 < most) : ∀ j, j < W.length →
    0 < amt W P lf most j ∧ amt W P lf most j ≤ most ∧ amt W P lf most j ≤ lf (wI W 0) ∧ ∀ l, l < j → amt W P lf most j ≤ P (wI W (l + 1)) (wC W l)
  | 0, _ => ⟨minQ_pos hm h.lft, (minQ_le _ _).1, (minQ_le _ _).2, fun _ hl => absurd hl (Nat.not_lt_zero _)⟩
  | j + 1, hj => by
    obtain ⟨h1, h2, h3, h4⟩ := amt_ok h hm j (by omega)
    obtain ⟨g1, g2⟩ := minQ_le (amt W P lf most j) (P (wI W (j + 1)) (wC W j))
    refine ⟨minQ_pos h1 (h.pay j hj), Rat.le_trans g1 h2, Rat.le_trans g1 h3, fun l hl => ?_⟩
    by_cases e : l = j
    · rw [e]; exact g2
    · exact Rat.le_trans g1 (h4 l (by omega))
theorem Mu.amt {D : Nat} {P : Nat → Nat → Rat} {lf : Nat → Rat} {W : List Pr2} {most : Rat} (hm : Mu D most) (hl : Mu D (lf (wI W 0))) : ∀ j, (∀ l, l < j → Mu D (P (wI W (l + 1)) (wC W l))) → Mu D (amt W P lf most j)
  | 0, _ => hm.min hl
  | j + 1, h => (Mu.amt hm hl j fun l hl => h l (by omega)).min (h j (by omega))
theorem upP_row {m : Nat} (P : Nat → Nat → Rat) {i k : Nat} (d : Rat) (hk : k < m) (b : Nat) : sumIf m tt (upP P i k d b) = sumIf m tt (P b) + if b = i then d else 0 := by
  by_cases e : b = i
  · rw [if_pos e, eY (f := P b) (g := upP P i k d b) hk (fun a _ ha => if_neg fun q => ha q.2), if_pos (show tt k = true from rfl)]
    unfold upP
    rw [if_pos ⟨e, rfl⟩]; grind
  · rw [if_neg e, Rat.add_zero]
    exact c3 fun a _ => ⟨rfl, if_neg fun q => e q.1⟩
theorem upP_col {n : Nat} (P : Nat → Nat → Rat) {i k : Nat} (d : Rat) (hi : i < n) (b : Nat) : sumIf n tt (fun a => upP P i k d a b) = sumIf n tt (fun a => P a b) + if b = k then d else 0 := by
  by_cases e : b = k
  · rw [if_pos e, eY (f := fun a => P a b) (g := fun a => upP P i k d a b) hi (fun a _ ha => if_neg fun q => ha q.1), if_pos (show tt i = true from rfl)]
    unfold upP
    rw [if_pos ⟨rfl, e⟩]; grind
  · rw [if_neg e, Rat.add_zero]
    exact c3 fun a _ => ⟨rfl, if_neg fun q => e q.2⟩
theorem psh_col (W : List Pr2) (a : Rat) (P : Nat → Nat → Rat) (b : Nat) : ∀ j, (∀ l, l < j → wC W l ≠ b) → ∀ i, psh W a P j i b = P i b
  | 0, _, _ => rfl
  | j + 1, h, i => by
    have ih := psh_col W a P b j (fun l hl => h l (by omega)) i
    have hj := h j (by omega)
    unfold psh
    split
    · unfold upP
      rw [if_neg (fun q => hj q.2.symm), if_neg (fun q => hj q.2.symm), ih]
    · unfold upP
      rw [if_neg (fun q => hj q.2.symm), ih]
section
variable {n m : Nat} {sec : Nat → Nat → Bool} {pr got : Nat → Rat} {P : Nat → Nat → Rat} {lf : Nat → Rat} {c : Nat} {W : List Pr2} {a : Rat}
theorem psh_sums (h : WayOk n m sec P lf c W) : ∀ j, j ≤ W.length →
    (∀ i, sumIf m tt (psh W a P j i) = sumIf m tt (P i) + (if 0 < j ∧ i = wI W 0 then a else 0) - (if 0 < j ∧ j < W.length ∧ i = wI W j then a else 0)) ∧
    ∀ k, sumIf n tt (fun i => psh W a P j i k) = sumIf n tt (fun i => P i k) + if j = W.length ∧ k = c then a else 0
  | 0, _ => by
    have hne := h.ne
    refine ⟨fun i => ?_, fun k => ?_⟩
    · rw [if_neg (by omega), if_neg (by omega)]
      show sumIf m tt (P i) = _
      grind
    · rw [if_neg (by omega)]
      show sumIf n tt (fun i => P i k) = _
      grind
  | j + 1, hj => by
    obtain ⟨h1, h2⟩ := psh_sums h j (by omega)
    have hi := h.it j (by omega)
    have hc := h.cl j (by omega)
    by_cases e : j + 1 < W.length
    · have hi2 := h.it (j + 1) e
      have ep : psh W a P (j + 1) = upP (upP (psh W a P j) (wI W j) (wC W j) a) (wI W (j + 1)) (wC W j) (-a) := if_pos e
      rw [ep]
      refine ⟨fun i => ?_, fun k => ?_⟩
      · rw [upP_row _ _ hc, upP_row _ _ hc, h1 i]
        by_cases j0 : j = 0
        · subst j0
          have e1 : 1 < W.length := by omega
          simp only [Nat.lt_irrefl, false_and, if_false, Nat.zero_add, Nat.zero_lt_one, true_and, e1]
          split <;> split <;> grind
        · have : 0 < j := by omega
          simp only [this, true_and, Nat.zero_lt_succ, e, show j < W.length from by omega]
          split <;> split <;> split <;> grind
      · rw [upP_col _ _ hi2, upP_col _ _ hi, h2 k, if_neg (by omega), if_neg (show ¬ (j + 1 = W.length ∧ k = c) by omega)]
        split <;> grind
    · have ep : psh W a P (j + 1) = upP (psh W a P j) (wI W j) (wC W j) a := if_neg e
      have el : j + 1 = W.length := by omega
      have hf := h.fin
      rw [← el, Nat.add_sub_cancel] at hf
      rw [ep]
      refine ⟨fun i => ?_, fun k => ?_⟩
      · rw [upP_row _ _ hc, h1 i, if_neg (show ¬ (0 < j + 1 ∧ j + 1 < W.length ∧ i = wI W (j + 1)) by omega)]
        by_cases j0 : j = 0
        · subst j0
          simp only [Nat.lt_irrefl, false_and, if_false, Nat.zero_add, Nat.zero_lt_one, true_and]
          split <;> grind
        · have : 0 < j := by omega
          simp only [this, true_and, Nat.zero_lt_succ, show j < W.length from by omega]
          split <;> split <;> grind
      · rw [upP_col _ _ hi, h2 k, if_neg (by omega), hf]
        by_cases ek : k = c
        · rw [if_pos ek, if_pos ⟨el, ek⟩]; grind
        · rw [if_neg ek, if_neg (fun q => ek q.2)]; grind
theorem psh_p0 (h : Fl n m sec pr got P lf) (hw : WayOk n m sec P lf c W) (ha : 0 ≤ a) (hl : ∀ l, l + 1 < W.length → a ≤ P (wI W (l + 1)) (wC W l)) : ∀ j, j ≤ W.length →
    (∀ i, i < n → ∀ k, k < m → 0 ≤ psh W a P j i k) ∧ ∀ i, i < n → ∀ k, k < m → sec i k = false → psh W a P j i k = 0
  | 0, _ => ⟨h.p0, h.sc⟩
  | j + 1, hj => by
    obtain ⟨h1, h2⟩ := psh_p0 h hw ha hl j (by omega)
    have hcol := psh_col W a P (wC W j) j (fun l hlj => hw.dif l j hlj (by omega))
    have hs := hw.sec j (by omega)
    have q1 : ∀ i, i < n → ∀ k, k < m → 0 ≤ upP (psh W a P j) (wI W j) (wC W j) a i k := fun i hi k hk => by
      have := h1 i hi k hk
      unfold upP
      split <;> grind
    have q2 : ∀ i, i < n → ∀ k, k < m → sec i k = false → upP (psh W a P j) (wI W j) (wC W j) a i k = 0 := fun i hi k hk hsk => by
      unfold upP
      rw [if_neg]
      · exact h2 i hi k hk hsk
      · rintro ⟨rfl, rfl⟩
        rw [hs] at hsk; cases hsk
    by_cases e : j + 1 < W.length
    · have ep : psh W a P (j + 1) = upP (upP (psh W a P j) (wI W j) (wC W j) a) (wI W (j + 1)) (wC W j) (-a) := if_pos e
      have hlj := hl j e
      have hpj := hw.pay j e
      rw [ep]
      refine ⟨fun i hi k hk => ?_, fun i hi k hk hsk => ?_⟩
      · show 0 ≤ (if i = wI W (j + 1) ∧ k = wC W j then upP (psh W a P j) (wI W j) (wC W j) a i k + -a else upP (psh W a P j) (wI W j) (wC W j) a i k)
        split
        · next g =>
          have hc := hcol i
          rw [g.1] at hc
          rw [g.1, g.2]
          unfold upP
          rw [hc]
          split <;> grind
        · exact q1 i hi k hk
      · show (if i = wI W (j + 1) ∧ k = wC W j then upP (psh W a P j) (wI W j) (wC W j) a i k + -a else upP (psh W a P j) (wI W j) (wC W j) a i k) = 0
        rw [if_neg]
        · exact q2 i hi k hk hsk
        · rintro ⟨rfl, rfl⟩
          have := h.sc _ hi _ hk hsk
          rw [this] at hpj
          exact absurd hpj (by grind)
    · have ep : psh W a P (j + 1) = upP (psh W a P j) (wI W j) (wC W j) a := if_neg e
      rw [ep]
      exact ⟨q1, q2⟩
theorem Fl.push (h : Fl n m sec pr got P lf) (hw : WayOk n m sec P lf c W) (ha : 0 ≤ a) (hf : a ≤ lf (wI W 0)) (hl : ∀ l, l + 1 < W.length → a ≤ P (wI W (l + 1)) (wC W l)) :
    Fl n m sec pr (fun k => got k + if k = c then a else 0) (psh W a P W.length) (fun i => if i = wI W 0 then lf i - a else lf i) := by
  obtain ⟨h1, h2⟩ := psh_p0 h hw ha hl W.length (Nat.le_refl _)
  obtain ⟨h3, h4⟩ := psh_sums (a := a) hw W.length (Nat.le_refl _)
  have hne := hw.ne
  refine ⟨h1, fun i hi => ?_, h2, fun i hi => ?_, fun k hk => ?_⟩
  · have := h.l0 i hi
    split
    · next e => rw [e]; grind
    · exact this
  · rw [h3 i, if_neg (show ¬ (0 < W.length ∧ W.length < W.length ∧ i = wI W W.length) by omega), ← h.row i hi]
    by_cases e : i = wI W 0
    · rw [if_pos e, if_pos ⟨hne, e⟩]; grind
    · rw [if_neg e, if_neg (fun q => e q.2)]; grind
  · rw [h4 k, h.col k hk]
    simp only [true_and]
theorem Mu.psh {D : Nat} (hP : ∀ i, i < n → ∀ k, k < m → Mu D (P i k)) (ha : Mu D a) : ∀ j, ∀ i, i < n → ∀ k, k < m → Mu D (psh W a P j i k)
  | 0 => hP
  | j + 1 => fun i hi k hk => by
    have ih := Mu.psh hP ha j i hi k hk
    have hn : Mu D (-a) := by
      have := (Mu.zero (D := D)).sub ha
      rwa [show (0 : Rat) - a = -a by grind] at this
    have q1 : Mu D (upP (Go.Proofs.YtmghobajmhdbfaaGreatDoor.psh W a P j) (wI W j) (wC W j) a i k) := by
      unfold upP
      split
      · exact ih.add ha
      · exact ih
    show Mu D ((if j + 1 < W.length then _ else _ : Nat → Nat → Rat) i k)
    split
    · unfold upP at q1 ⊢
      split
      · exact q1.add hn
      · exact q1
    · exact q1
end
end Go.Proofs.YtmghobajmhdbfaaGreatDoor
namespace Go.Sx
open Go Go.RowKit
section
variable {P : Program} {N : Nat} {ρ : Nat → Value} {w0 w w' : World}
  {d : Option Tmp} {ty : TypeId} {pos : String} {aft : Array Edge} {g : Option (Nat × Bool)} {x y z : Operand} {t t' e : TypeId} {H : List Blk} {k b o : Nat} {v : Value} {K : Value → Prop} {K2 : Value → World → Prop}
theorem flat_elemG {α : Type} {enc : α → List Value} {size : Nat} (hu : ∀ x, (enc x).length = size) (L : List α) (sp : List Value) (d : α) {i : Nat} (hi : i < L.length) : ((L.flatMap enc ++ sp).drop (i * size)).take size = enc (L.getD i d) := by
  have h1 : (i + 1) * size ≤ L.length * size := Nat.mul_le_mul_right _ hi
  rw [Nat.add_mul] at h1
  have h2 := ec hu L
  rw [List.drop_append_of_le_length (by omega), List.take_append_of_le_length (by rw [List.length_drop]; omega)]
  exact flat_elem hu L d hi
theorem flat_setG {α : Type} {enc : α → List Value} {size : Nat} (hu : ∀ x, (enc x).length = size) (L : List α) (sp : List Value) (x : α) {i : Nat} (hi : i < L.length) : er (L.flatMap enc ++ sp) (i * size) (enc x) = (L.set i x).flatMap enc ++ sp := by
  have h1 : (i + 1) * size ≤ L.length * size := Nat.mul_le_mul_right _ hi
  rw [Nat.add_mul] at h1
  have h2 := ec hu L
  rw [← gn hu L x hi]
  unfold er
  rw [List.take_append_of_le_length (by omega), List.drop_append_of_le_length (by rw [hu]; omega)]
  simp
theorem s_ldS {α : Type} {enc : α → List Value} {size : Nat} {L : List α} {sp : List Value} {i : Nat} {zz : List Value} {agg : Bool} (dd : α) (hu : ∀ x, (enc x).length = size) (hx : ev N ρ x = .pointer (some ⟨b, o, none⟩)) (ht : cw P t = some (size, agg, zz)) (hS : St w0 w H) (hk : H[k]? = some (b, t', L.flatMap enc ++ sp))
    (ho : o = i * size) (hi : i < L.length) (hv : mkv agg (enc (L.getD i dd)) = v) (hagg : agg = true ∨ size = 1) (h : K v) : eL P N ρ w ⟨d, .load t x, ty, pos, aft, g⟩ K := by
  subst ho
  have hat := hS.at hk (i * size) size
  rw [flat_elemG hu L sp dd hi] at hat
  exact gJ hx ht hat (hu _) hv hagg h
theorem s_stS {α : Type} {enc : α → List Value} {size : Nat} {L : List α} {sp : List Value} {i : Nat} {zz : List Value} {agg : Bool} (u : α) (hu : ∀ x, (enc x).length = size) (hx : ev N ρ x = .pointer (some ⟨b, o, none⟩)) (hy : ev N ρ y = v) (ht : cw P t = some (size, agg, zz)) (hS : St w0 w H) (hk : H[k]? = some (b, t', L.flatMap enc ++ sp))
    (ho : o = i * size) (hi : i < L.length) (hv : v.cells.toList = enc u) (h1 : (enc u).all (·.oneCell') = true)
    (h : ∀ w', St w0 w' (H.set k (b, t', (L.set i u).flatMap enc ++ sp)) → K2 undef w') : Hup1 P N ρ w ⟨d, .store t x y, ty, pos, aft, g⟩ K2 := by
  subst ho
  refine a8 hx hy ht hS hk hv (hu u) ?_ h1 (fun w' hS' => ?_)
  · rw [List.length_append, ec hu]
    have : (i + 1) * size ≤ L.length * size := Nat.mul_le_mul_right _ hi
    rw [Nat.add_mul] at this; omega
  · rw [flat_setG hu L sp u hi] at hS'
    exact h w' hS'
theorem cL {a : Addr} (hx : ev N ρ x = .pointer (some a)) (h : K (.pointer (some a))) : bP P N ρ ⟨d, .nilCheck x, ty, pos, aft, g⟩ K :=
  ⟨_, fun w => (by simp [execOp, hx]), h⟩
/-- The head of a block, read as a slice. -/
theorem St.slg {α : Type} {enc : α → List Value} {size : Nat} {L : List α} {sp : List Value} (h : St w0 w H) (hk : H[k]? = some (b, t, L.flatMap enc ++ sp)) (hu : ∀ x, (enc x).length = size) {n cap : Nat} (hn : n ≤ L.length) (h1 : n ≤ cap) (h2 : cap ≤ 9223372036854775807) :
    Sl enc size w (.slice (some ⟨b, 0, none⟩) n cap) (L.take n) := by
  have hl : (L.take n).length = n := by rw [List.length_take]; omega
  have e : L.flatMap enc ++ sp = (L.take n).flatMap enc ++ ((L.drop n).flatMap enc ++ sp) := by
    rw [← List.append_assoc, ← List.flatMap_append, List.take_append_drop]
  rw [e] at hk
  have := h.sl (enc := enc) (size := size) (L := L.take n) (spare := (L.drop n).flatMap enc ++ sp) (cap := cap) hk rfl hu (by rw [hl]; exact h1) (by unfold Go.maxLen; omega)
  rwa [hl] at this
end
end Go.Sx
namespace Go.Sx
open Go Go.RowKit Go.Proofs.YtmghobajmhdbfaaGreatDoor
structure Rw (α : Type) where
  b : Nat
  cap : Nat
  X : List α
  sp : List Value
def zRw {α : Type} : Rw α := ⟨0, 0, [], []⟩
def Rw.v {α : Type} (r : Rw α) : Value := .slice (some ⟨r.b, 0, none⟩) r.X.length r.cap
def Rw.blk {α : Type} (enc : α → List Value) (t : TypeId) (r : Rw α) : Blk := (r.b, t, r.X.flatMap enc ++ r.sp)
def Rw.put {α : Type} (r : Rw α) (j : Nat) (u : α) : Rw α := ⟨r.b, r.cap, r.X.set j u, r.sp⟩
def mB {α : Type} (enc : α → List Value) (t tS : TypeId) (bo : Nat) (R : List (Rw α)) (H : List Blk) : List Blk := (bo, tS, R.map Rw.v) :: (R.map (Rw.blk enc t) ++ H)
theorem eN {α : Type} (l : List α) (d : α) {i : Nat} (h : i < l.length) : l.getD i d = l[i] := by
  rw [List.getD_eq_getElem?_getD, List.getElem?_eq_getElem h]; rfl
theorem dW {α : Type} (l : List α) (d u : α) {i j : Nat} (hi : i < l.length) : (l.set i u).getD j d = if j = i then u else l.getD j d := by
  rw [List.getD_eq_getElem?_getD, List.getElem?_set, List.getD_eq_getElem?_getD]
  by_cases h : j = i
  · subst h; simp [hi]
  · rw [if_neg (fun e => h e.symm), if_neg h]
theorem mB_at {α : Type} {enc : α → List Value} {t tS : TypeId} {bo : Nat} {R : List (Rw α)} {H : List Blk} {i : Nat} (hi : i < R.length) : (mB enc t tS bo R H)[i + 1]? = some ((R.getD i zRw).b, t, (R.getD i zRw).X.flatMap enc ++ (R.getD i zRw).sp) := by
  unfold mB
  rw [List.getElem?_cons_succ, List.getElem?_append_left (by rw [List.length_map]; exact hi), List.getElem?_map, List.getElem?_eq_getElem hi, eN R zRw hi]; rfl
theorem mB_row {α : Type} {R : List (Rw α)} {i : Nat} (hi : i < R.length) : (R.map Rw.v)[i]? = some (R.getD i zRw).v := by
  rw [List.getElem?_map, List.getElem?_eq_getElem hi, eN R zRw hi]; rfl
theorem put_v {α : Type} (r : Rw α) (j : Nat) (u : α) : (r.put j u).v = r.v := by
  unfold Rw.v Rw.put; rw [List.length_set]
theorem map_put_v {α : Type} (R : List (Rw α)) {i : Nat} (j : Nat) (u : α) (hi : i < R.length) : (R.set i ((R.getD i zRw).put j u)).map Rw.v = R.map Rw.v := by
  rw [List.map_set, put_v, eN R zRw hi]
  refine List.ext_getElem (by simp) fun k h1 h2 => ?_
  rw [List.getElem_set]
  split
  · next h => subst h; rw [List.getElem_map]
  · rfl
/-- What a matrix in memory holds. -/
structure MatG {α : Type} (R : List (Rw α)) (n m : Nat) (f : Nat → Nat → α) : Prop where
  len : R.length = n
  row : ∀ i, i < n → (R.getD i zRw).X = tab m (f i)
  cap : ∀ i, i < n → m ≤ (R.getD i zRw).cap ∧ (R.getD i zRw).cap ≤ 9223372036854775807
section
variable {α : Type} {R : List (Rw α)} {n m : Nat} {f g : Nat → Nat → α}
theorem MatG.xlen (h : MatG R n m f) {i : Nat} (hi : i < n) : (R.getD i zRw).X.length = m := by rw [h.row i hi, bp]
theorem MatG.v (h : MatG R n m f) {i : Nat} (hi : i < n) : (R.getD i zRw).v = .slice (some ⟨(R.getD i zRw).b, 0, none⟩) m (R.getD i zRw).cap := by unfold Rw.v; rw [h.xlen hi]
theorem MatG.get (h : MatG R n m f) {i j : Nat} (hi : i < n) (hj : j < m) (d : α) : (R.getD i zRw).X.getD j d = f i j := by rw [h.row i hi]; exact cE _ _ hj
theorem MatG.congr (h : MatG R n m f) (e : ∀ i, i < n → ∀ j, j < m → f i j = g i j) : MatG R n m g := ⟨h.len, fun i hi => by rw [h.row i hi]; exact bs fun j hj => e i hi j hj, h.cap⟩
theorem MatG.put (h : MatG R n m f) {i : Nat} (hi : i < n) (j : Nat) (u : α) : MatG (R.set i ((R.getD i zRw).put j u)) n m fun a b => if a = i ∧ b = j then u else f a b := by
  have hl : i < R.length := by rw [h.len]; exact hi
  refine ⟨by rw [List.length_set, h.len], fun a ha => ?_, fun a ha => ?_⟩
  · rw [dW _ _ _ hl]
    by_cases e : a = i
    · rw [if_pos e]
      show (R.getD i zRw).X.set j u = _
      rw [h.row i hi, eU, e]
      exact bs fun b _ => by
        by_cases q : b = j
        · rw [if_pos q, if_pos ⟨rfl, q⟩]
        · rw [if_neg q, if_neg fun z => q z.2]
    · rw [if_neg e, h.row a ha]
      exact bs fun b _ => by rw [if_neg fun z => e z.1]
  · rw [dW _ _ _ hl]
    by_cases e : a = i
    · rw [if_pos e]; exact h.cap i hi
    · rw [if_neg e]; exact h.cap a ha
theorem MatG.sl {enc : α → List Value} {size : Nat} {t tS : TypeId} {bo : Nat} {H : List Blk} {w0 w : World} (h : MatG R n m f) (hS : St w0 w (mB enc t tS bo R H)) (hu : ∀ x, (enc x).length = size) {i : Nat} (hi : i < n) : Sl enc size w (R.getD i zRw).v (tab m (f i)) := by
  have hl : i < R.length := by rw [h.len]; exact hi
  have := hS.slg (mB_at hl) hu (n := m) (cap := (R.getD i zRw).cap) (by rw [h.xlen hi]; omega) (h.cap i hi).1 (h.cap i hi).2
  rwa [h.row i hi, List.take_of_length_le (by rw [bp]; omega), ← h.v hi] at this
/-- The rows' slices, read. -/
def enV (v : Value) : List Value := [v]
theorem enV_flat (l : List Value) : l.flatMap enV = l := by
  induction l with
  | nil => rfl
  | cons a l ih => rw [List.flatMap_cons, ih]; rfl
end
/-- A matrix that is read: a slice of slices. -/
structure Mts {α : Type} (enc : α → List Value) (size : Nat) (w : World) (v : Value) (A : List (List α)) (vs : List Value) : Prop where
  len : vs.length = A.length
  sl : Sl enV 1 w v vs
  row : ∀ i, i < A.length → Sl enc size w (vs.getD i undef) (A.getD i [])
theorem Mts.below {α : Type} {enc : α → List Value} {size : Nat} {w w' : World} {v : Value} {A : List (List α)} {vs : List Value} (h : Mts enc size w v A vs) (hb : Below w.heap.size w w') : Mts enc size w' v A vs := ⟨h.len, h.sl.below hb, fun i hi => (h.row i hi).below hb⟩
def tabM {α : Type} (n m : Nat) (f : Nat → Nat → α) : List (List α) := tab n fun i => tab m (f i)
theorem fE {α : Type} (n m : Nat) (f : Nat → Nat → α) : (tabM n m f).length = n := bp _ _
theorem tabM_row {α : Type} {n m : Nat} (f : Nat → Nat → α) {i : Nat} (hi : i < n) : (tabM n m f).getD i [] = tab m (f i) := cE _ _ hi
section
variable {P : Program} {N : Nat} {ρ : Nat → Value} {w0 w w' : World} {d : Option Tmp} {ty : TypeId} {pos : String} {aft : Array Edge} {g : Option (Nat × Bool)} {x y z : Operand} {t t' e : TypeId} {H : List Blk} {k b o : Nat} {v : Value} {K : Value → Prop} {K2 : Value → World → Prop}
  {α : Type} {enc : α → List Value} {size : Nat} {R : List (Rw α)} {tR tS : TypeId} {bo : Nat} {zz : List Value}
end
end Go.Sx
namespace Go.Sx
open Go Go.RowKit
/-- A slice of one's own that begins anywhere in its block (behind 'pre'). -/
def Gq {α : Type} (enc : α → List Value) (e : TypeId) (size : Nat) (v : Value) (X : List α) (L : List Blk) : Prop :=
  (X = [] ∧ ∃ a cap, v = .slice a 0 cap) ∨
  ∃ b cap pre sp, v = .slice (some ⟨b, pre.length, none⟩) X.length cap ∧ L = [(b, e, pre ++ (X.flatMap enc ++ sp))] ∧ X.length ≤ cap ∧ cap ≤ Go.maxLen ∧ sp.length = (cap - X.length) * size
section
variable {α : Type} {enc : α → List Value} {e : TypeId} {size : Nat} {w0 w : World} {H L : List Blk} {X : List α} {v : Value}
theorem Gq.len (h : Gq enc e size v X L) : ∃ a cap, v = .slice a X.length cap := by
  obtain ⟨rfl, a, cap, rfl⟩ | ⟨b, cap, pre, sp, rfl, _⟩ := h
  · exact ⟨_, _, rfl⟩
  · exact ⟨_, _, rfl⟩
theorem Gq.made {b n : Nat} (hn : X.length = n) (hm : n ≤ 9223372036854775807) : Gq enc e size (.slice (some ⟨b, 0, none⟩) n n) X [(b, e, X.flatMap enc)] :=
  .inr ⟨b, n, [], [], by rw [hn]; rfl, by rw [List.nil_append, List.append_nil], by omega, by unfold Go.maxLen; omega, by rw [hn, Nat.sub_self, Nat.zero_mul]; rfl⟩
theorem Gq.sl (h : Gq enc e size v X L) (hS : St w0 w (H ++ L)) (hu : ∀ x, (enc x).length = size) (hne : X ≠ []) : Sl enc size w v X := by
  obtain ⟨rfl, _⟩ | ⟨b, cap, pre, sp, rfl, rfl, h1, h2, h3⟩ := h
  · exact absurd rfl hne
  have hh := (hS.perm List.perm_append_comm).get (k := 0) (b := b) (t := e) (cs := pre ++ (X.flatMap enc ++ sp)) rfl
  refine ⟨⟨some ⟨b, pre.length, none⟩, cap, rfl, h1, h2, fun h => by cases h⟩, fun i hi j u hj => ?_⟩
  have hj' : j < size := by
    have := (List.getElem?_eq_some_iff.1 hj).1
    rwa [hu] at this
  rw [show fj (.slice (some ⟨b, pre.length, none⟩) X.length cap) = ⟨b, pre.length, none⟩ from rfl, add_lit, add_lit, cell_of_row w b _ _ e _ hh]
  have hlt : i * size + j < (X.flatMap enc).length := by
    rw [ec hu]
    have : (i + 1) * size ≤ X.length * size := Nat.mul_le_mul_right _ hi
    rw [Nat.add_mul] at this; omega
  rw [List.getElem?_toArray, Nat.add_assoc, List.getElem?_append_right (Nat.le_add_right _ _), Nat.add_sub_cancel_left, List.getElem?_append_left hlt, flat_get hu X i j hi hj']
  exact hj
end
section
variable {P : Program} {N : Nat} {ρ : Nat → Value} {w0 w w' : World} {d : Option Tmp} {ty : TypeId} {pos : String} {aft : Array Edge} {g : Option (Nat × Bool)} {x y z : Operand} {t t' e : TypeId} {H L : List Blk} {b : Nat} {cs : List Value} {v : Value} {K2 : Value → World → Prop} {K : Value → Prop}
/-- The head is cut off. -/
theorem s_cut1 {α : Type} {enc : α → List Value} {size bytes : Nat} {zz : List Value} {x0 : α} {X : List α} (ht : db P t = some (e, size, bytes, zz)) (hu : ∀ x, (enc x).length = size) (hG : Gq enc e size v (x0 :: X) L) (hx : ev N ρ x = v) {kl : IntKind} (hl : ev N ρ y = .int kl 1)
    (h : ∀ v', Gq enc e size v' X L → K v') : bP P N ρ ⟨d, .slice t x (some y) none none, ty, pos, aft, g⟩ K := by
  obtain ⟨hut, ii, zv, hi1, hz, hsize, _⟩ := cu ht
  obtain ⟨h0, _⟩ | ⟨b, cap, pre, sp, rfl, rfl, h1, h2, h3⟩ := hG
  · cases h0
  rw [List.length_cons] at h1 h3
  refine ⟨.slice (if cap = 1 then some ⟨b, pre.length, none⟩ else some ⟨b, pre.length + size, none⟩) X.length (cap - 1), fun w => ?_, h _ ?_⟩
  · have hle : 1 ≤ X.length + 1 := by omega
    have hi' : (0 : Int) ≤ 1 ∧ (1 : Int) ≤ ((X.length + 1 : Nat) : Int) := by omega
    simp [execOp, hx, hl, Instr.sliceAt, Instr.slice, Instr.sliceBounds, Instr.sliceBound, asIntOf, run_underlying hut, sizeOf, typeInfo, hi1, hsize, Addr.add_lit]
    intro h9
    omega
  · by_cases hc : cap = 1
    · rw [if_pos hc]
      exact .inl ⟨List.eq_nil_of_length_eq_zero (by omega), _, _, by rw [show X.length = 0 by omega]⟩
    · rw [if_neg hc]
      refine .inr ⟨b, cap - 1, pre ++ enc x0, sp, by rw [List.length_append, hu], ?_, by omega, by omega, ?_⟩
      · rw [List.flatMap_cons]; simp only [List.append_assoc]
      · rw [h3]; congr 1; omega
theorem run_app_off (w : World) {t ty e : TypeId} {i : TypeInfo} (ht : P.underlying t = some (.slice e)) (hi : P.info? e = some i) {g off sLen sCap : Nat} {cur : Array Value} (hg : w.heap[g]? = some (.cells cur e (0, 0)))
    {a : Addr} {m c : Nat} {news : List Value} (hl : news.length = m * i.size) (hnews : ∀ j u, news[j]? = some u → w.cell? (a.add j) = some u) (h1 : ∀ u ∈ news, u.oneCell' = true)
    (hroom : sLen + m ≤ sCap) (hfit : off + sLen * i.size + news.length ≤ cur.size) :
    (Builtin.append_ #[t, t] ty #[.slice (some ⟨g, off, none⟩) sLen sCap, .slice (some a) m c]).run P w =
      .ok (.slice (some ⟨g, off, none⟩) (sLen + m) sCap) (w.setRow g (cur.toList.take (off + sLen * i.size) ++ news ++ cur.toList.drop (off + sLen * i.size + news.length)).toArray) := by
  have hf := run_firstCells_some (P := P) w i.size m a m c news hl hnews
  have hst := run_storeCells_at P g (off + sLen * i.size) e news 0 cur w hg (by simpa using hfit) h1
  simp only [Nat.add_zero] at hst
  simp [Builtin.append_, run_underlying ht, sizeOf, typeInfo, hi, Builtin.lenOf, hroom, hf, Addr.add_lit, hst]
/-- append to a queue that is not empty. -/
theorem s_appq {α : Type} {enc : α → List Value} {size bytes c : Nat} {zz : List Value} {X : List α} (xs : List α) {xv : Value} (hx : ev N ρ x = v) (hy : ev N ρ y = xv) (ht : db P t = some (e, size, bytes, zz))
    (hG : Gq enc e size v X L) (hne : X ≠ []) (hS : St w0 w ((b, t', cs) :: (H ++ L))) (hxv : xv = .slice (some ⟨b, 0, none⟩) xs.length c) (hcs : cs = xs.flatMap enc) (hu : ∀ x, (enc x).length = size) (h1 : ∀ u ∈ cs, u.oneCell' = true)
    (h63 : X.length + xs.length ≤ 9223372036854775807) (hb : (X.length + xs.length) * bytes ≤ 140737488355328)
    (h : ∀ v' L' w', Gq enc e size v' (X ++ xs) L' → St w0 w' (H ++ L') → K2 v' w') :
    Hup1 P N ρ w ⟨d, .call ⟨.builtin .append, #[x, y], #[t, t]⟩, ty, pos, aft, g⟩ K2 := by
  obtain ⟨rfl, _⟩ | ⟨bq, cap, pre, sp, rfl, rfl, g1, g2, g3⟩ := hG
  · exact absurd rfl hne
  have hat := hS.at (k := 0) (b := b) (t := t') (cs := cs) rfl 0 cs.length
  rw [List.drop_zero, List.take_length] at hat
  obtain ⟨hut, ii, zv, hi1, hz, hsize, hby, hcz, hzl⟩ := cu ht
  have hS1 : St w0 w ((bq, e, pre ++ (X.flatMap enc ++ sp)) :: (b, t', cs) :: H) := hS.perm ((List.Perm.cons _ List.perm_append_comm).trans (List.Perm.swap _ _ _))
  have hh := hS1.get (k := 0) (b := bq) (t := e) (cs := pre ++ (X.flatMap enc ++ sp)) rfl
  have hfl := ec hu X
  have hcl : cs.length = xs.length * size := by rw [hcs, ec hu]
  subst hxv
  by_cases hroom : X.length + xs.length ≤ cap
  · have hspl : xs.length * size ≤ sp.length := by rw [g3]; exact Nat.mul_le_mul_right _ (by omega)
    have hr := run_app_off (P := P) w (ty := ty) hut hi1 hh (off := pre.length) (sLen := X.length) (sCap := cap) (a := ⟨b, 0, none⟩) (m := xs.length) (c := c) (news := cs) (by rw [hcl, hsize]) hat h1 hroom
      (by rw [hsize, List.size_toArray, List.length_append, List.length_append, hfl, hcl]; omega)
    have ecells : (pre ++ (X.flatMap enc ++ sp)).toArray.toList.take (pre.length + X.length * ii.size) ++ cs ++ (pre ++ (X.flatMap enc ++ sp)).toArray.toList.drop (pre.length + X.length * ii.size + cs.length) = pre ++ ((X ++ xs).flatMap enc ++ sp.drop (xs.length * size)) := by
      rw [hsize, ← hfl, List.flatMap_append, ← hcs, ← hcl, show pre ++ (X.flatMap enc ++ sp) = (pre ++ X.flatMap enc) ++ sp from (List.append_assoc _ _ _).symm, ← List.length_append, ← List.drop_drop, List.take_left, List.drop_left]
      simp only [List.append_assoc]
    rw [ecells] at hr
    refine c9 (v := .slice (some ⟨bq, pre.length, none⟩) (X.length + xs.length) cap) (w' := w.setRow bq (pre ++ ((X ++ xs).flatMap enc ++ sp.drop (xs.length * size))).toArray) ?_ (h _ [(bq, e, pre ++ ((X ++ xs).flatMap enc ++ sp.drop (xs.length * size)))] _ ?_ ?_)
    · simp [execOp, resolve, invoke, builtin, hx, hy, hr]
    · refine .inr ⟨bq, cap, pre, sp.drop (xs.length * size), by rw [List.length_append], rfl, by rw [List.length_append]; exact hroom, g2, ?_⟩
      rw [List.length_drop, g3, List.length_append, ← Nat.sub_mul]; congr 1; omega
    · have := hS1.setRow (k := 0) rfl (pre ++ ((X ++ xs).flatMap enc ++ sp.drop (xs.length * size)))
      exact (this.drop (List.Sublist.cons_cons _ (List.sublist_cons_self _ _))).perm (List.perm_append_comm (l₁ := [_]))
  · have holds : ∀ j u, (X.flatMap enc)[j]? = some u → w.cell? ((⟨bq, pre.length, none⟩ : Addr).add j) = some u := fun j u hj => by
      rw [add_lit, cell_of_row w bq _ _ e _ hh, List.getElem?_toArray, List.getElem?_append_right (Nat.le_add_right _ _), Nat.add_sub_cancel_left, List.getElem?_append_left (List.getElem?_eq_some_iff.1 hj).1]
      exact hj
    have hr := run_append_grow (P := P) w t ty e ii zv hut hi1 hz ⟨bq, pre.length, none⟩ X.length cap (X.flatMap enc) (by rw [hsize, hfl]) holds ⟨b, 0, none⟩ xs.length c cs (by rw [hcl, hsize]) hat (by omega) (by omega) (growslice_fits (by omega) (by rw [hby]; exact hb))
    have hge := grownCap_ge w (X.length + xs.length) cap e
    have hcm := grownCap_le_maxLen w (X.length + xs.length) cap e (by unfold Go.maxLen; omega)
    generalize grownCap w (X.length + xs.length) cap e = gc at hr hge hcm
    have ecells : (X.flatMap enc).toArray ++ cs.toArray ++ Builtin.zeroCells zv.cells (gc - (X.length + xs.length)) = ([] ++ ((X ++ xs).flatMap enc ++ (Builtin.zeroCells zv.cells (gc - (X.length + xs.length))).toList)).toArray := by
      rw [List.flatMap_append, ← hcs]
      apply Array.ext'
      simp
    rw [ecells] at hr
    have hS2 := ((hS1.drop (List.sublist_cons_self _ _)).drop (List.sublist_cons_self _ _)).grow (Below.refl w.heap.size w).drew
    have hS3 := hS2.alloc ([] ++ ((X ++ xs).flatMap enc ++ (Builtin.zeroCells zv.cells (gc - (X.length + xs.length))).toList)) e
    refine c9 (v := .slice (some ⟨w.heap.size, 0, none⟩) (X.length + xs.length) gc) ?_ (h _ [(w.heap.size, e, [] ++ ((X ++ xs).flatMap enc ++ (Builtin.zeroCells zv.cells (gc - (X.length + xs.length))).toList))] _ ?_ (hS3.perm (List.perm_append_comm (l₁ := [_]))))
    · simp only [execOp, resolve, invoke, builtin, hx, hy, Sem.run_bind, Sem.run_pure, Result.andThen_ok, List.map_toArray, List.map_cons, List.map_nil, hr]
    · refine .inr ⟨w.heap.size, gc, [], _, by rw [List.length_append]; rfl, rfl, by rw [List.length_append]; exact hge, hcm, ?_⟩
      rw [Array.length_toList, size_zeroCells, List.length_append, ← Array.length_toList, hcz, hzl]
end
end Go.Sx
namespace Go.Sx
open Go Go.RowKit Go.Proofs.YtmghobajmhdbfaaGreatDoor
theorem iT (pre : List Blk) (T : List Blk) (k : Nat) : (pre ++ T)[pre.length + k]? = T[k]? := by
  rw [List.getElem?_append_right (by omega)]; congr 1; omega
theorem preSet (pre : List Blk) (T : List Blk) (k : Nat) (u : Blk) : (pre ++ T).set (pre.length + k) u = pre ++ T.set k u := by
  rw [List.set_append_right _ _ (by omega)]; congr 2; omega
/-- A matrix behind further blocks: a row's slice, an element, stores. -/
def mD {α : Type} (enc : α → List Value) (t tS : TypeId) (bo : Nat) (cs : List Value) (R : List (Rw α)) (H : List Blk) : List Blk := (bo, tS, cs) :: (R.map (Rw.blk enc t) ++ H)
section
variable {P : Program} {N : Nat} {ρ : Nat → Value} {w0 w w' : World} {d : Option Tmp} {ty : TypeId} {pos : String} {aft : Array Edge} {g : Option (Nat × Bool)} {x y z : Operand} {t t' e : TypeId} {H : List Blk} {k b o : Nat} {v : Value} {K : Value → Prop} {K2 : Value → World → Prop}
  {α : Type} {enc : α → List Value} {size : Nat} {R : List (Rw α)} {tR tS : TypeId} {bo : Nat} {cs : List Value} {zz : List Value}
theorem mD_at {i : Nat} (hi : i < R.length) : (mD enc tR tS bo cs R H)[i + 1]? = some ((R.getD i zRw).b, tR, (R.getD i zRw).X.flatMap enc ++ (R.getD i zRw).sp) := by
  unfold mD
  rw [List.getElem?_cons_succ, List.getElem?_append_left (by rw [List.length_map]; exact hi), List.getElem?_map, List.getElem?_eq_getElem hi, eN R zRw hi]; rfl
theorem mD_put {i : Nat} (j : Nat) (u : α) (hi : i < R.length) :
    (mD enc tR tS bo cs R H).set (i + 1) ((R.getD i zRw).b, tR, ((R.getD i zRw).X.set j u).flatMap enc ++ (R.getD i zRw).sp) = mD enc tR tS bo cs (R.set i ((R.getD i zRw).put j u)) H := by
  unfold mD
  rw [List.set_cons_succ, List.set_append_left _ _ (by rw [List.length_map]; exact hi), List.map_set]; rfl
theorem ie (pre : List Blk) {i : Nat} (hx : ev N ρ x = .pointer (some ⟨bo, o, none⟩)) (ht : cw P t = some (1, false, zz)) (hS : St w0 w (pre ++ mD enc tR tS bo cs R H)) (ho : o = i) (hv : cs[i]? = some v) (h : K v) : eL P N ρ w ⟨d, .load t x, ty, pos, aft, g⟩ K := by
  subst ho
  exact gE (k := pre.length + 0) hx ht hS (by rw [iT]; rfl) hv h
theorem s_mstD (pre : List Blk) {i j : Nat} {agg : Bool} (u : α) (hu : ∀ x, (enc x).length = size) (hx : ev N ρ x = .pointer (some ⟨b, o, none⟩)) (hy : ev N ρ y = v) (ht : cw P t = some (size, agg, zz)) (hS : St w0 w (pre ++ mD enc tR tS bo cs R H)) (hb : (R.getD i zRw).b = b) (hi : i < R.length)
    (ho : o = j * size) (hj : j < (R.getD i zRw).X.length) (hv : v.cells.toList = enc u) (h1 : (enc u).all (·.oneCell') = true) (h : ∀ w', St w0 w' (pre ++ mD enc tR tS bo cs (R.set i ((R.getD i zRw).put j u)) H) → K2 undef w') : Hup1 P N ρ w ⟨d, .store t x y, ty, pos, aft, g⟩ K2 := by
  subst hb
  refine s_stS (k := pre.length + (i + 1)) u hu hx hy ht hS (by rw [iT]; exact mD_at hi) ho hj hv h1 fun w' hS' => ?_
  rw [preSet, mD_put j u hi] at hS'
  exact h w' hS'
theorem MatG.slD {n m : Nat} {f : Nat → Nat → α} (pre : List Blk) (h : MatG R n m f) (hS : St w0 w (pre ++ mD enc tR tS bo cs R H)) (hu : ∀ x, (enc x).length = size) {i : Nat} (hi : i < n) : Sl enc size w (R.getD i zRw).v (tab m (f i)) := by
  have hl : i < R.length := by rw [h.len]; exact hi
  have := hS.slg (k := pre.length + (i + 1)) (by rw [iT]; exact mD_at hl) hu (n := m) (cap := (R.getD i zRw).cap) (by rw [h.xlen hi]; omega) (h.cap i hi).1 (h.cap i hi).2
  rwa [h.row i hi, List.take_of_length_le (by rw [bp]; omega), ← h.v hi] at this
theorem MatG.mtsD {n m cap : Nat} {f : Nat → Nat → α} {so : List Value} (pre : List Blk) (h : MatG R n m f) (hS : St w0 w (pre ++ mD enc tR tS bo (R.map Rw.v ++ so) R H)) (hu : ∀ x, (enc x).length = size) (h1 : n ≤ cap) (h2 : cap ≤ 9223372036854775807) :
    Mts enc size w (.slice (some ⟨bo, 0, none⟩) n cap) (tabM n m f) (R.map Rw.v) := by
  have hk : (pre ++ mD enc tR tS bo (R.map Rw.v ++ so) R H)[pre.length + 0]? = some (bo, tS, (R.map Rw.v).flatMap enV ++ so) := by rw [iT, enV_flat]; rfl
  have hsl := hS.slg hk (fun _ => rfl) (n := n) (cap := cap) (by rw [List.length_map, h.len]; omega) h1 h2
  rw [List.take_of_length_le (by rw [List.length_map, h.len]; omega)] at hsl
  refine ⟨by rw [List.length_map, h.len, fE], hsl, fun i hi => ?_⟩
  rw [fE] at hi
  rw [tabM_row f hi, List.getD_eq_getElem?_getD, mB_row (by rw [h.len]; exact hi)]
  exact h.slD pre hS hu hi
end
theorem mC_row {α : Type} {R : List (Rw α)} {so : List Value} {i : Nat} (hi : i < R.length) : (R.map Rw.v ++ so)[i]? = some (R.getD i zRw).v := by
  rw [List.getElem?_append_left (by rw [List.length_map]; exact hi)]; exact mB_row hi
end Go.Sx
namespace Go.Proofs.YtmghobajmhdbfaaGreatDoor
open Go Go.RowKit Go.Sx
def flW (W : List Pr2) : List Int := W.flatMap fun p => [(p.1 : Int), (p.2 : Int)]
theorem flW_len (W : List Pr2) : (flW W).length = 2 * W.length := by
  unfold flW
  induction W with
  | nil => rfl
  | cons p W ih => rw [List.flatMap_cons, List.length_append, ih, List.length_cons]; simp; omega
theorem flW_take (W : List Pr2) {j : Nat} (hj : j < W.length) : flW (W.take (j + 1)) = flW (W.take j) ++ [((wI W j : Nat) : Int), ((wC W j : Nat) : Int)] := by
  unfold flW wI wC
  rw [List.take_succ_eq_append_getElem hj, List.flatMap_append, List.getD_eq_getElem?_getD, List.getElem?_eq_getElem hj]
  rfl
structure Trc (F B : List Int) (W : List Pr2) : Prop where
  ne : 0 < W.length
  it : ∀ j, j < W.length → wI W j < F.length
  cl : ∀ j, j < W.length → wC W j < B.length
  fr : ∀ j, j < W.length → F.getD (wI W j) 0 = wC W j
  bk : ∀ j, j + 1 < W.length → B.getD (wC W j) 0 = wI W (j + 1)
  fin : B.getD (wC W (W.length - 1)) 0 = -1
theorem enI_all (xs : List Int) : ∀ u ∈ xs.flatMap enI, u.oneCell' = true := fun u hu => by
  obtain ⟨x, _, h⟩ := List.mem_flatMap.1 hu
  rw [List.mem_singleton.1 (show u ∈ [Value.int .i64 x] from h)]; rfl
def nxI (W : List Pr2) (j : Nat) : Int := if j < W.length then (wI W j : Int) else -1
theorem trace_ok (f vF vB : Value) (F B : List Int) (W : List Pr2) (w : World) (hF : Sl enI 1 w vF F) (hB : Sl enI 1 w vB B) (h : Trc F B W) (hl : W.length ≤ 1000) :
    Ret Tryz.prog 56 #[f, .int .i64 (wI W 0), vF, vB] w fun v w' => ∃ L, Gl enI 3 1 v (flW W) L ∧ St w w' ([] ++ L) := by
  have hS := St.init w
  have hne := h.ne
  refine enter Tryz.func56 rfl Tryz.ntmps56 rfl ?_
  repeat (with_reducible first | apply ag | apply ac | apply af | apply ae | apply ab)
  refine aj ?_
  refine aa rfl (am  rfl ?_)
  refine ai ?_
  repeat (with_reducible first | apply ag | apply ac | apply af | apply ae | apply ab)
  refine aj ?_
  refine aa rfl (am  rfl ?_)
  refine ai ?_
  repeat (with_reducible first | apply ag | apply ac | apply af | apply ae | apply ab)
  refine a5 (σ := Nat) (fun j ρ w' => j ≤ W.length ∧ ρ 1 = .int .i64 (nxI W j) ∧ ρ 2 = vF ∧ ρ 3 = vB ∧ ∃ vo L, ρ 9 = vo ∧ Gl enI 3 1 vo (flW (W.take j)) L ∧ St w w' ([] ++ L)) (fun j => W.length - j) 0
    ⟨Nat.zero_le _, vi rfl (by unfold nxI; rw [if_pos hne]), rfl, rfl, _, [], rfl, Gl.nil _ _ _, hS⟩ ?_
  clear hS
  rintro j ρ w2 ⟨hj, h1, h2, h3, vo, L, h9, hG, hS⟩
  have hfl := flW_len (W.take j)
  rw [List.length_take, Nat.min_eq_left hj] at hfl
  repeat (with_reducible first | apply ag | apply ac | apply af | apply ae | apply ab)
  refine aj ?_
  refine aa rfl (ah  h1 ?_)
  refine aa rfl (df  rfl rfl ?_)
  refine ai ?_
  repeat (with_reducible first | apply ag | apply ac | apply af | apply ae | apply ab)
  by_cases hlt : j < W.length
  · have e1 : nxI W j = (wI W j : Int) := if_pos hlt
    have i1 := h.it j hlt
    have i2 := h.cl j hlt
    have i3 := h.fr j hlt
    rw [e1] at h1
    refine aD rfl (decide_eq_true (by rw [e1]; omega)) ?_
    repeat (with_reducible first | apply ag | apply ac | apply af | apply ae | apply ab)
    refine aj ?_
    refine aa rfl (ah  h2 ?_)
    refine aa rfl (ah  h1 ?_)
    refine aa rfl (aX (i := (wI W j))  rfl rfl (hF.below hS.below) (by omega) (by first | omega | (simp; done) | (simp; omega)) cN ?_)
    refine aw rfl (a6 (i := (wI W j)) 0  rfl dM (hF.below hS.below) (by first | omega | (simp; done) | (simp; omega)) rfl rfl (.inr rfl) ?_)
    refine aa rfl (am  rfl ?_)
    refine ai ?_
    repeat (with_reducible first | apply ag | apply ac | apply af | apply ae | apply ab)
    rw [i3]
    repeat (with_reducible first | apply ag | apply ac | apply af | apply ae | apply ab)
    refine aj ?_
    refine aa rfl (ah  h9 ?_)
    refine aa rfl (ah  h1 ?_)
    refine aa rfl (ah  rfl ?_)
    refine ak rfl (dJ (vs := [.int .i64 (wI W j), .int .i64 (wC W j)])  rfl cN rfl (by decide) (by decide) (by decide) (by simp [Value.cells]) rfl hS ?_)
    intro b1 wz2 hS hBz2
    refine ak rfl (eH [((wI W j : Nat) : Int), ((wC W j : Nat) : Int)]  rfl rfl cN (by decide) hG hS rfl rfl (fun _ => rfl) (enI_all [((wI W j : Nat) : Int), ((wC W j : Nat) : Int)]) (by first | omega | (simp only [List.length_cons, List.length_nil]; omega)) (by first | omega | (simp only [List.length_cons, List.length_nil]; omega)) ?_)
    intro va3 La3 wa3 hG hS hga3
    refine aa rfl (am  rfl ?_)
    refine ai ?_
    repeat (with_reducible first | apply ag | apply ac | apply af | apply ae | apply ab)
    rw [← flW_take W hlt] at hG
    repeat (with_reducible first | apply ag | apply ac | apply af | apply ae | apply ab)
    refine aj ?_
    refine aa rfl (ah  h3 ?_)
    refine aa rfl (ah  rfl ?_)
    refine aa rfl (aX (i := (wC W j))  rfl rfl (hB.below hS.below) (by omega) (by first | omega | (simp; done) | (simp; omega)) cN ?_)
    refine aw rfl (a6 (i := (wC W j)) 0  rfl dM (hB.below hS.below) (by first | omega | (simp; done) | (simp; omega)) rfl rfl (.inr rfl) ?_)
    refine aa rfl (am  rfl ?_)
    refine ai ?_
    repeat (with_reducible first | apply ag | apply ac | apply af | apply ae | apply ab)
    refine ⟨j + 1, _, rfl, ⟨hlt, vi rfl ?_, by assumption, by assumption, _, _, rfl, hG, hS⟩, by omega⟩
    unfold nxI
    by_cases e : j + 1 < W.length
    · rw [if_pos e]; exact h.bk j e
    · rw [if_neg e]
      have := h.fin
      rw [show W.length - 1 = j by omega] at this
      exact this
  · have e1 : nxI W j = -1 := if_neg hlt
    obtain rfl : j = W.length := by omega
    rw [List.take_length] at hG
    refine aN rfl (decide_eq_false (by rw [e1]; omega)) ?_
    repeat (with_reducible first | apply ag | apply ac | apply af | apply ae | apply ab)
    refine aU ?_
    repeat (with_reducible first | apply aA | apply az | refine ay rfl ?_)
    repeat (with_reducible first | apply ag | apply ac | apply af | apply ae | apply ab)
    refine aj ?_
    refine aa rfl (ah  h9 ?_)
    refine aa rfl (am  rfl ?_)
    refine ai ?_
    repeat (with_reducible first | apply ag | apply ac | apply af | apply ae | apply ab)
    refine aE ?_
    repeat (with_reducible first | apply ap | apply ao)
    refine aR rfl rfl ?_
    exact ⟨_, by assumption, hS⟩
end Go.Proofs.YtmghobajmhdbfaaGreatDoor
namespace Go.Proofs.YtmghobajmhdbfaaGreatDoor
open Go Go.RowKit Go.Sx
theorem eV (l : List Nat) (x d : Nat) {j : Nat} (h : j < l.length) : (l ++ [x]).getD j d = l.getD j d := by
  rw [List.getD_eq_getElem?_getD, List.getElem?_append_left h, List.getD_eq_getElem?_getD]
theorem end_nat (l : List Nat) (x d : Nat) : (l ++ [x]).getD l.length d = x := by
  rw [List.getD_eq_getElem?_getD, List.getElem?_append_right (Nat.le_refl _), Nat.sub_self]; rfl
theorem inj_nat {l : List Nat} (h : l.Nodup) {i j : Nat} (hi : i < l.length) (hj : j < l.length) (e : l.getD i 0 = l.getD j 0) : i = j := by
  rw [eN l 0 hi, eN l 0 hj] at e
  exact (List.getElem_inj h).1 e
theorem g9 {l : List Nat} {i : Nat} (hi : i < l.length) : l.getD i 0 ∈ l := by
  rw [eN l 0 hi]; exact List.getElem_mem hi
theorem nodup_one (x : Nat) : [x].Nodup := List.pairwise_singleton _ _
theorem ic {l : List Nat} (h : l.Nodup) {m : Nat} (hl : ∀ k ∈ l, k < m) : l.length ≤ m := by
  have := List.Nodup.length_le_of_subset h (l₂ := List.range m) (fun k hk => List.mem_range.2 (hl k hk))
  rwa [List.length_range] at this
/-- The search's state: the claims that were reached, in order; items are taken by the first e of them. -/
structure Bf (n m c0 : Nat) (sec : Nat → Nat → Bool) (P : Nat → Nat → Rat) (Q : List Nat) (e : Nat) (F B : List Int) (Z : List Bool) : Prop where
  fl : F.length = n
  bl : B.length = m
  zl : Z.length = m
  nd : Q.Nodup
  lt : ∀ k ∈ Q, k < m
  ql : 0 < Q.length
  q0 : Q.getD 0 0 = c0
  zq : ∀ k, k < m → (Z.getD k false = true ↔ k ∈ Q)
  fr : ∀ i, i < n → F.getD i 0 = -1 ∨ ∃ j, j < e ∧ j < Q.length ∧ F.getD i 0 = ((Q.getD j 0 : Nat) : Int) ∧ sec i (Q.getD j 0) = true
  b0 : B.getD c0 0 = -1
  bk : ∀ j, 0 < j → j < Q.length → ∃ i, i < n ∧ B.getD (Q.getD j 0) 0 = (i : Int) ∧ 0 < P i (Q.getD j 0) ∧ ∃ l, l < j ∧ F.getD i 0 = ((Q.getD l 0 : Nat) : Int)
section
variable {n m c0 : Nat} {sec : Nat → Nat → Bool} {P : Nat → Nat → Rat} {lf : Nat → Rat} {Q : List Nat} {e : Nat} {F B : List Int} {Z : List Bool}
theorem i7 {α : Type} (x d : α) {k i : Nat} (h : i < k) : (List.replicate k x).getD i d = x := by
  rw [List.getD_eq_getElem?_getD, List.getElem?_replicate, if_pos h]; rfl
theorem Bf.start (hc : c0 < m) : Bf n m c0 sec P [c0] 0 (List.replicate n (-1)) (List.replicate m (-1)) ((List.replicate m false).set c0 true) := by
  refine ⟨List.length_replicate, List.length_replicate, by rw [List.length_set, List.length_replicate], (nodup_one _), fun k hk => ?_, Nat.zero_lt_one, rfl, fun k hk => ?_, fun i hi => .inl (i7 _ _ hi), i7 _ _ hc, fun j h1 h2 => ?_⟩
  · rw [List.mem_singleton.1 hk]; exact hc
  · rw [dW _ _ _ (by rw [List.length_replicate]; exact hc), List.mem_singleton]
    by_cases e : k = c0
    · rw [if_pos e]; simp [e]
    · rw [if_neg e, i7 _ _ hk]; simp [e]
  · rw [List.length_singleton] at h2; omega
theorem Bf.mono (h : Bf n m c0 sec P Q e F B Z) {e' : Nat} (he : e ≤ e') : Bf n m c0 sec P Q e' F B Z :=
  ⟨h.fl, h.bl, h.zl, h.nd, h.lt, h.ql, h.q0, h.zq, fun i hi => (h.fr i hi).imp id fun ⟨j, h1, h2⟩ => ⟨j, by omega, h2⟩, h.b0, h.bk⟩
theorem Bf.take (h : Bf n m c0 sec P Q e F B Z) {d i : Nat} (hd : d < e) (hdl : d < Q.length) (hi : i < n) (hf : F.getD i 0 = -1) (hs : sec i (Q.getD d 0) = true) : Bf n m c0 sec P Q e (F.set i ((Q.getD d 0 : Nat) : Int)) B Z := by
  have hg : ∀ a, (F.set i ((Q.getD d 0 : Nat) : Int)).getD a 0 = if a = i then ((Q.getD d 0 : Nat) : Int) else F.getD a 0 := fun a => dW _ _ _ (by rw [h.fl]; exact hi)
  refine ⟨by rw [List.length_set, h.fl], h.bl, h.zl, h.nd, h.lt, h.ql, h.q0, h.zq, fun a ha => ?_, h.b0, fun j h1 h2 => ?_⟩
  · rw [hg a]
    by_cases ea : a = i
    · rw [if_pos ea, ea]; exact .inr ⟨d, hd, hdl, rfl, hs⟩
    · rw [if_neg ea]; exact h.fr a ha
  · obtain ⟨a, ha, b1, b2, l, hl, b3⟩ := h.bk j h1 h2
    refine ⟨a, ha, b1, b2, l, hl, ?_⟩
    rw [hg a]
    by_cases ea : a = i
    · rw [ea, hf] at b3; omega
    · rw [if_neg ea]; exact b3
theorem Bf.reach (h : Bf n m c0 sec P Q e F B Z) {d i k : Nat} (hd : d < Q.length) (hi : i < n) (hk : k < m) (hf : F.getD i 0 = ((Q.getD d 0 : Nat) : Int)) (hp : 0 < P i k) (hz : Z.getD k false = false) :
    Bf n m c0 sec P (Q ++ [k]) e F (B.set k (i : Int)) (Z.set k true) := by
  have hkq : k ∉ Q := fun q => by rw [(h.zq k hk).2 q] at hz; cases hz
  have hc0 : c0 ∈ Q := by rw [← h.q0]; exact g9 h.ql
  have hgB : ∀ a, (B.set k (i : Int)).getD a 0 = if a = k then (i : Int) else B.getD a 0 := fun a => dW _ _ _ (by rw [h.bl]; exact hk)
  have hgZ : ∀ a, (Z.set k true).getD a false = if a = k then true else Z.getD a false := fun a => dW _ _ _ (by rw [h.zl]; exact hk)
  refine ⟨h.fl, by rw [List.length_set, h.bl], by rw [List.length_set, h.zl], ?_, fun a ha => ?_, by rw [List.length_append]; have := h.ql; omega, by rw [eV _ _ _ h.ql]; exact h.q0, fun a ha => ?_, fun a ha => ?_, ?_, fun j h1 h2 => ?_⟩
  · rw [List.nodup_append]
    exact ⟨h.nd, (nodup_one _), fun a ha b hb => by rw [List.mem_singleton.1 hb]; rintro rfl; exact hkq ha⟩
  · rcases List.mem_append.1 ha with q | q
    · exact h.lt a q
    · rw [List.mem_singleton.1 q]; exact hk
  · rw [hgZ a, List.mem_append, List.mem_singleton]
    by_cases ea : a = k
    · rw [if_pos ea]; simp [ea]
    · rw [if_neg ea, h.zq a ha]; simp [ea]
  · rcases h.fr a ha with q | ⟨j, q1, q2, q3, q4⟩
    · exact .inl q
    · refine .inr ⟨j, q1, by rw [List.length_append]; omega, ?_, ?_⟩
      · rw [eV _ _ _ q2]; exact q3
      · rw [eV _ _ _ q2]; exact q4
  · rw [hgB, if_neg (fun q => hkq (by rw [← q]; exact hc0))]; exact h.b0
  · by_cases ej : j = Q.length
    · rw [ej, end_nat, hgB, if_pos rfl]
      exact ⟨i, hi, rfl, hp, d, hd, by rw [eV _ _ _ hd]; exact hf⟩
    · have hj : j < Q.length := by rw [List.length_append, List.length_singleton] at h2; omega
      obtain ⟨a, ha, b1, b2, l, hl, b3⟩ := h.bk j h1 hj
      have hne : Q.getD j 0 ≠ k := fun q => hkq (by rw [← q]; exact g9 hj)
      rw [eV _ _ _ hj, hgB, if_neg hne]
      exact ⟨a, ha, b1, b2, l, hl, by rw [eV _ _ _ (by omega)]; exact b3⟩
/-- From an item that was taken, a way back. -/
theorem Bf.trc (h : Bf n m c0 sec P Q e F B Z) : ∀ j, j < Q.length → ∀ i, i < n → F.getD i 0 = ((Q.getD j 0 : Nat) : Int) →
    ∃ W, Trc F B W ∧ W.length ≤ j + 1 ∧ wI W 0 = i ∧ wC W 0 = Q.getD j 0 ∧ (∀ l, l < W.length → ∃ t, t ≤ j ∧ wC W l = Q.getD t 0 ∧ (0 < l → t < j)) ∧ (∀ l, l < W.length → sec (wI W l) (wC W l) = true) ∧ (∀ l, l + 1 < W.length → 0 < P (wI W (l + 1)) (wC W l)) ∧
      (∀ a b, a < b → b < W.length → wC W a ≠ wC W b) ∧ wC W (W.length - 1) = c0 := by
  intro j
  induction j using Nat.strongRecOn with
  | ind j ih =>
    intro hj i hi hf
    have hsec : sec i (Q.getD j 0) = true := by
      rcases h.fr i hi with q | ⟨t, _, _, q3, q4⟩
      · omega
      · rw [hf] at q3
        rw [show Q.getD j 0 = Q.getD t 0 by omega]; exact q4
    have hjm : Q.getD j 0 < m := h.lt _ (g9 hj)
    by_cases j0 : j = 0
    · subst j0
      rw [h.q0] at hf hsec hjm
      refine ⟨[(i, c0)], ⟨Nat.zero_lt_one, fun l hl => ?_, fun l hl => ?_, fun l hl => ?_, fun l hl => ?_, h.b0⟩, Nat.le_refl _, rfl, h.q0.symm, fun l hl => ?_, fun l hl => ?_, fun l hl => ?_, fun a b hab hb => ?_, rfl⟩
      all_goals simp only [List.length_cons, List.length_nil] at *
      · obtain rfl : l = 0 := by omega
        rw [h.fl]; exact hi
      · obtain rfl : l = 0 := by omega
        rw [h.bl]; exact hjm
      · obtain rfl : l = 0 := by omega
        exact hf
      · omega
      · obtain rfl : l = 0 := by omega
        exact ⟨0, Nat.le_refl _, h.q0.symm, fun q => absurd q (Nat.lt_irrefl _)⟩
      · obtain rfl : l = 0 := by omega
        exact hsec
      · omega
      · omega
    · obtain ⟨i2, hi2, b1, b2, j2, hj2, b3⟩ := h.bk j (by omega) hj
      obtain ⟨W, hT, w1, w2, w3, w4, w5, w6, w7, w8⟩ := ih j2 hj2 (by omega) i2 hi2 b3
      have hw := hT.ne
      have gI : ∀ l, wI ((i, Q.getD j 0) :: W) (l + 1) = wI W l := fun _ => rfl
      have gC : ∀ l, wC ((i, Q.getD j 0) :: W) (l + 1) = wC W l := fun _ => rfl
      have gI0 : wI ((i, Q.getD j 0) :: W) 0 = i := rfl
      have gC0 : wC ((i, Q.getD j 0) :: W) 0 = Q.getD j 0 := rfl
      refine ⟨(i, Q.getD j 0) :: W, ⟨by simp, fun l hl => ?_, fun l hl => ?_, fun l hl => ?_, fun l hl => ?_, ?_⟩, by rw [List.length_cons]; omega, rfl, rfl, fun l hl => ?_, fun l hl => ?_, fun l hl => ?_, fun a b hab hb => ?_, ?_⟩
      all_goals rw [List.length_cons] at *
      · cases l with
        | zero => rw [gI0, h.fl]; exact hi
        | succ l => rw [gI]; exact hT.it l (by omega)
      · cases l with
        | zero => rw [gC0, h.bl]; exact hjm
        | succ l => rw [gC]; exact hT.cl l (by omega)
      · cases l with
        | zero => rw [gI0, gC0]; exact hf
        | succ l => rw [gI, gC]; exact hT.fr l (by omega)
      · cases l with
        | zero => rw [gC0, gI, b1, w2]
        | succ l => rw [gC, gI]; exact hT.bk l (by omega)
      · rw [show W.length + 1 - 1 = (W.length - 1) + 1 by omega, gC]; exact hT.fin
      · cases l with
        | zero => exact ⟨j, Nat.le_refl _, gC0, fun q => absurd q (Nat.lt_irrefl _)⟩
        | succ l =>
          obtain ⟨t, t1, t2, _⟩ := w4 l (by omega)
          exact ⟨t, by omega, by rw [gC]; exact t2, fun _ => by omega⟩
      · cases l with
        | zero => rw [gI0, gC0]; exact hsec
        | succ l => rw [gI, gC]; exact w5 l (by omega)
      · cases l with
        | zero => rw [gI, gC0, w2]; exact b2
        | succ l => rw [gI, gC]; exact w6 l (by omega)
      · cases b with
        | zero => omega
        | succ b =>
          cases a with
          | zero =>
            rw [gC0, gC]
            obtain ⟨t, t1, t2, _⟩ := w4 b (by omega)
            rw [t2]
            intro q
            have := inj_nat h.nd hj (by omega) q
            omega
          | succ a => rw [gC, gC]; exact w7 a b (by omega) (by omega)
      · rw [show W.length + 1 - 1 = (W.length - 1) + 1 by omega, gC]; exact w8
theorem Bf.wayOk (h : Bf n m c0 sec P Q e F B Z) {d i : Nat} (hd : d < Q.length) (hi : i < n) (hf : F.getD i 0 = ((Q.getD d 0 : Nat) : Int)) (hl : 0 < lf i) : ∃ W, Trc F B W ∧ W.length ≤ m ∧ wI W 0 = i ∧ WayOk n m sec P lf c0 W := by
  obtain ⟨W, hT, w1, w2, w3, w4, w5, w6, w7, w8⟩ := h.trc d hd i hi hf
  have := ic h.nd h.lt
  exact ⟨W, hT, by omega, w2, ⟨hT.ne, fun j hj => by have := hT.it j hj; rwa [h.fl] at this, fun j hj => by have := hT.cl j hj; rwa [h.bl] at this, w5, w6, w7, w8, by rw [w2]; exact hl⟩⟩
/-- What is done: items that were taken are used up and pay but claims that were reached (but item x); the first d claims have taken all their items (the next one those below y). -/
structure Dn (n m : Nat) (sec : Nat → Nat → Bool) (P : Nat → Nat → Rat) (lf : Nat → Rat) (Q : List Nat) (d y x : Nat) (F : List Int) : Prop where
  it : ∀ i, i < n → i ≠ x → F.getD i 0 ≠ -1 → ¬ 0 < lf i ∧ ∀ k, k < m → 0 < P i k → k ∈ Q
  cl : ∀ j, j < d → ∀ i, i < n → sec i (Q.getD j 0) = true → F.getD i 0 ≠ -1
  nx : ∀ i, i < y → i < n → sec i (Q.getD d 0) = true → F.getD i 0 ≠ -1
theorem Dn.start : Dn n m sec P lf Q 0 0 n (List.replicate n (-1)) :=
  ⟨fun _ hi _ h => absurd (i7 _ _ hi) h, fun _ hj => absurd hj (Nat.not_lt_zero _), fun _ hi => absurd hi (Nat.not_lt_zero _)⟩
theorem Dn.skip {d i : Nat} (h : Dn n m sec P lf Q d i n F) (hs : F.getD i 0 ≠ -1 ∨ sec i (Q.getD d 0) = false) : Dn n m sec P lf Q d (i + 1) n F := by
  refine ⟨h.it, h.cl, fun a ha hn hsa => ?_⟩
  by_cases ea : a = i
  · rcases hs with q | q
    · rw [ea]; exact q
    · rw [ea, q] at hsa; cases hsa
  · exact h.nx a (by omega) hn hsa
theorem Dn.pop {d : Nat} (h : Dn n m sec P lf Q d n n F) : Dn n m sec P lf Q (d + 1) 0 n F := by
  refine ⟨h.it, fun j hj => ?_, fun i hi => absurd hi (Nat.not_lt_zero _)⟩
  by_cases ej : j = d
  · rw [ej]; exact fun i hi => h.nx i hi hi
  · exact h.cl j (by omega)
theorem Dn.take {d i c : Nat} (h : Dn n m sec P lf Q d i n F) (hi : i < n) (hl : F.length = n) : Dn n m sec P lf Q d (i + 1) i (F.set i (c : Int)) := by
  have hg : ∀ a, (F.set i (c : Int)).getD a 0 = if a = i then (c : Int) else F.getD a 0 := fun a => dW _ _ _ (by rw [hl]; exact hi)
  refine ⟨fun a ha hne hq => ?_, fun j hj a ha hsa => ?_, fun a ha hn hsa => ?_⟩
  · rw [hg a, if_neg hne] at hq
    exact h.it a ha (by omega) hq
  · rw [hg a]
    split
    · omega
    · exact h.cl j hj a ha hsa
  · rw [hg a]
    split
    · omega
    · exact h.nx a (by omega) hn hsa
theorem Dn.grow {d y x k : Nat} (h : Dn n m sec P lf Q d y x F) (hd : d < Q.length) : Dn n m sec P lf (Q ++ [k]) d y x F := by
  refine ⟨fun i hi hne hq => ?_, fun j hj i hi hsi => ?_, fun i hi hn hsi => ?_⟩
  · obtain ⟨h1, h2⟩ := h.it i hi hne hq
    exact ⟨h1, fun k hk hp => List.mem_append_left _ (h2 k hk hp)⟩
  · rw [eV _ _ _ (by omega)] at hsi
    exact h.cl j hj i hi hsi
  · rw [eV _ _ _ hd] at hsi
    exact h.nx i hi hn hsi
theorem Dn.done {d y x : Nat} (h : Dn n m sec P lf Q d y x F) (hl : ¬ 0 < lf x) (hq : ∀ k, k < m → 0 < P x k → k ∈ Q) : Dn n m sec P lf Q d y n F :=
  ⟨fun i hi _ g => by
    by_cases ei : i = x
    · rw [ei]; exact ⟨hl, hq⟩
    · exact h.it i hi ei g, h.cl, h.nx⟩
end
end Go.Proofs.YtmghobajmhdbfaaGreatDoor
namespace Go.Proofs.YtmghobajmhdbfaaGreatDoor
open Go Go.RowKit Go.Sx
def nQ (l : List Nat) : List Int := l.map fun x : Nat => (x : Int)
theorem nQ_len (l : List Nat) : (nQ l).length = l.length := by unfold nQ; rw [List.length_map]
theorem iI (Q : List Nat) {d : Nat} (h : d < Q.length) : nQ (Q.drop d) = ((Q.getD d 0 : Nat) : Int) :: nQ (Q.drop (d + 1)) := by
  unfold nQ
  rw [List.drop_eq_getElem_cons h, eN Q 0 h]; rfl
theorem nQ_snoc (Q : List Nat) {d : Nat} (k : Nat) (h : d ≤ Q.length) : nQ ((Q ++ [k]).drop d) = nQ (Q.drop d) ++ [(k : Int)] := by
  unfold nQ
  rw [List.drop_append_of_le_length h, List.map_append]; rfl
/-- A flow in memory, read. -/
structure FlM (w : World) (bf : Nat) (vP vO vI vY vL : Value) (vs : List Value) (n m : Nat) (ow : List RR) (R : List Nat) (P : Nat → Nat → Rat) (lf : Nat → Rat) : Prop where
  a0 : At w ⟨bf, 0, none⟩ [vP, vO, vI, vY, vL]
  o : Sl aC 3 w vO ow
  ol : ow.length = m
  i : Sl (uk .u64) 1 w vI R
  y : Mts aC 3 w vY (tabM n m fun i k => ofQ (P i k)) vs
  l : Sl aC 3 w vL (tab n fun i => ofQ (lf i))
theorem jo {w : World} {b k : Nat} {cs : List Value} {v : Value} (h : At w ⟨b, 0, none⟩ cs) (hk : cs[k]? = some v) : At w ⟨b, k, none⟩ [v] := by
  intro j u hj
  cases j with
  | zero =>
    obtain rfl : v = u := Option.some.inj hj
    have := h k v hk
    rw [add_lit, Nat.zero_add] at this
    rw [add_lit, Nat.add_zero]; exact this
  | succ j => cases hj
section
variable {w w' : World} {bf : Nat} {vP vO vI vY vL : Value} {vs : List Value} {n m : Nat} {ow : List RR} {R : List Nat} {P : Nat → Nat → Rat} {lf : Nat → Rat}
theorem FlM.below (h : FlM w bf vP vO vI vY vL vs n m ow R P lf) (hb : Below w.heap.size w w') : FlM w' bf vP vO vI vY vL vs n m ow R P lf :=
  ⟨h.a0.below hb, h.o.below hb, h.ol, h.i.below hb, h.y.below hb, h.l.below hb⟩
theorem FlM.row (h : FlM w bf vP vO vI vY vL vs n m ow R P lf) {i : Nat} (hi : i < n) : Sl aC 3 w (vs.getD i undef) (tab m fun k => ofQ (P i k)) := by
  have := h.y.row i (by rw [fE]; exact hi)
  rwa [tabM_row _ hi] at this
end
theorem setrep {α : Type} (x z : α) (n : Nat) {i : Nat} (hi : i < n) : (List.replicate i x ++ List.replicate (n - i) z).set i x = List.replicate (i + 1) x ++ List.replicate (n - (i + 1)) z := by
  rw [List.set_append_right _ _ (by rw [List.length_replicate]; exact Nat.le_refl _), List.length_replicate, Nat.sub_self, show n - i = (n - (i + 1)) + 1 by omega, List.replicate_succ, List.set_cons_zero, List.replicate_succ', List.append_assoc]; rfl
set_option maxHeartbeats 4000000 in
theorem path_ok (bf : Nat) (vP vO vI vY vL : Value) (vs : List Value) (m c : Nat) (X : List It) (ow : List RR) (R : List Nat) (P : Nat → Nat → Rat) (lf : Nat → Rat) (w : World) (hF : FlM w bf vP vO vI vY vL vs X.length m ow R P lf) (hR : Masks X m X.length 0 R) (hc : c < m) (hX8 : X.length ≤ 8) (hm : m ≤ 24)
    (hlf : ∀ i, i < X.length → L (lf i) ≤ MX) (hP : ∀ i, i < X.length → ∀ k, k < m → L (P i k) ≤ MX) :
    Ret Tryz.prog 28 #[.pointer (some ⟨bf, 0, none⟩), .int .i64 c] w fun v w' =>
      (v = .slice none 0 0 ∧ Below w.heap.size w w' ∧ ∃ S T : Nat → Bool, S c = true ∧ (∀ i, i < X.length → T i = true → ¬ 0 < lf i ∧ ∀ k, k < m → 0 < P i k → S k = true) ∧ (∀ k, k < m → S k = true → ∀ i, i < X.length → fi X i k = true → T i = true)) ∨
      (∃ W LW, Gl enI 3 1 v (flW W) LW ∧ St w w' LW ∧ WayOk X.length m (fi X) P lf c W ∧ W.length ≤ m) := by
  obtain ⟨n, hn⟩ : ∃ n, n = X.length := ⟨_, rfl⟩
  have hS := St.init w
  have htl := bp n fun i => ofQ (lf i)
  have hol := hF.ol
  rw [← hn] at hF hX8 hlf hP ⊢
  refine enter Tryz.func28 rfl Tryz.ntmps28 rfl ?_
  repeat (with_reducible first | apply ag | apply ac | apply af | apply ae | apply ab)
  refine aj ?_
  refine aa rfl (am  rfl ?_)
  refine ai ?_
  repeat (with_reducible first | apply ag | apply ac | apply af | apply ae | apply ab)
  refine aj ?_
  refine aa rfl (ah  rfl ?_)
  refine aa rfl (cL  rfl ?_)
  refine aa rfl (aH  rfl fL ?_)
  refine aw rfl (gJ  rfl cX (jo (k := 4) (hF.below hS.below).a0 rfl) rfl rfl (.inr rfl) ?_)
  refine aa rfl (aG  rfl ((hF.below hS.below).l) ⟨_, Tryz.underlying24⟩ ?_)
  refine aa rfl (am  rfl ?_)
  refine ai ?_
  repeat (with_reducible first | apply ag | apply ac | apply af | apply ae | apply ab)
  rw [htl]
  repeat (with_reducible first | apply ag | apply ac | apply af | apply ae | apply ab)
  refine aj ?_
  refine aa rfl (ah  rfl ?_)
  refine ak rfl (eu (enc := enI) (n := n) 0  rfl rfl cN rfl (by omega) (by omega) (by omega) (by omega) hS ?_)
  intro bF wz1 hS hBz1
  refine aa rfl (am  rfl ?_)
  refine ai ?_
  repeat (with_reducible first | apply ag | apply ac | apply af | apply ae | apply ab)
  refine aj ?_
  refine aa rfl (ah  rfl ?_)
  refine aa rfl (cL  rfl ?_)
  refine aa rfl (aH  rfl fR ?_)
  refine aa rfl (aH  rfl fk ?_)
  refine aw rfl (gJ  rfl cX (jo (k := 1) (hF.below hS.below).a0 rfl) rfl rfl (.inr rfl) ?_)
  refine aa rfl (aG  rfl ((hF.below hS.below).o) ⟨_, Tryz.underlying24⟩ ?_)
  refine ak rfl (eu (enc := enI) (n := m) 0  rfl rfl cN rfl (by omega) (by omega) (by omega) (by omega) hS ?_)
  intro bB wz2 hS hBz2
  refine aa rfl (am  rfl ?_)
  refine ai ?_
  repeat (with_reducible first | apply ag | apply ac | apply af | apply ae | apply ab)
  rw [hol]
  replace hS : St w _ [(bB, 3, (List.replicate m 0).flatMap enI), (bF, 3, (List.replicate n 0).flatMap enI)] := hS
  repeat (with_reducible first | apply ag | apply ac | apply af | apply ae | apply ab)
  refine aj ?_
  refine aa rfl (ah  rfl ?_)
  refine aa rfl (dC  rfl ⟨_, Tryz.underlying47⟩ ?_)
  refine aa rfl (ah  rfl ?_)
  refine ai ?_
  repeat (with_reducible first | apply ag | apply af | apply ae | apply ab)
  refine a9 (fun ρ w' => ρ 0 = .pointer (some ⟨bf, 0, none⟩) ∧ ρ 1 = .int .i64 c ∧ ρ 5 = .int .i64 n ∧ ρ 6 = .slice (some ⟨bF, 0, none⟩) n n ∧ ρ 7 = .slice (some ⟨bB, 0, none⟩) m m ∧ St w w' [(bB, 3, (List.replicate m 0).flatMap enI), (bF, 3, (List.replicate n (-1)).flatMap enI)]) ?_ ?_
  · repeat (with_reducible first | apply ag | apply ac | apply af | apply ae | apply ab)
    refine a5 (σ := Nat) (fun i ρ w' => i ≤ n ∧ ρ 0 = .pointer (some ⟨bf, 0, none⟩) ∧ ρ 1 = .int .i64 c ∧ ρ 5 = .int .i64 n ∧ ρ 6 = .slice (some ⟨bF, 0, none⟩) n n ∧ ρ 7 = .slice (some ⟨bB, 0, none⟩) m m ∧ ρ 30 = .int .i64 n ∧ ρ 31 = .int .i64 i ∧
      St w w' [(bB, 3, (List.replicate m 0).flatMap enI), (bF, 3, (List.replicate i (-1) ++ List.replicate (n - i) 0).flatMap enI)]) (fun i => n - i) 0
      ⟨Nat.zero_le _, rfl, rfl, rfl, rfl, rfl, rfl, rfl, hS⟩ ?_
    clear hS
    rintro i ρ w2 ⟨hi, h0, h1, h5, h6, h7, h30, h31, hS⟩
    have hll : (List.replicate i (-1 : Int) ++ List.replicate (n - i) 0).length = n := by simp; omega
    repeat (with_reducible first | apply ag | apply ac | apply af | apply ae | apply ab)
    refine aj ?_
    refine aa rfl (aV  h31 h30 ?_)
    refine ai ?_
    repeat (with_reducible first | apply ag | apply ac | apply af | apply ae | apply ab)
    by_cases hlt : i < n
    · refine aD rfl (decide_eq_true (by omega)) ?_
      repeat (with_reducible first | apply ag | apply ac | apply af | apply ae | apply ab)
      refine aj ?_
      refine aa rfl (ah  h31 ?_)
      refine aa rfl (am  rfl ?_)
      refine ai ?_
      repeat (with_reducible first | apply ag | apply ac | apply af | apply ae | apply ab)
      refine aj ?_
      refine aa rfl (ah  h6 ?_)
      refine aa rfl (ah  rfl ?_)
      refine aa rfl (a7 (i := i)  rfl rfl (by omega) (by first | omega | (simp; done) | (simp; omega)) cN ?_)
      refine ak rfl (fC (k := 1) (i := i) (enc := enI) (-1) (fun _ => rfl)  rfl rfl dM hS rfl (by first | omega | simp) (by first | omega | (simp; done) | (simp; omega)) rfl rfl ?_)
      intro wz3 hS
      refine ai ?_
      repeat (with_reducible first | apply ag | apply ac | apply af | apply ae | apply ab)
      replace hS : St w _ [(bB, 3, (List.replicate m 0).flatMap enI), (bF, 3, ((List.replicate i (-1) ++ List.replicate (n - i) 0).set i (-1)).flatMap enI)] := hS
      rw [setrep _ _ _ hlt] at hS
      repeat (with_reducible first | apply ag | apply ac | apply af | apply ae | apply ab)
      refine aj ?_
      refine aa rfl (aK  h31 rfl (IntWalk.i64_in _ (by omega)) ?_)
      refine aa rfl (ah  rfl ?_)
      refine ai ?_
      repeat (with_reducible first | apply ag | apply ac | apply af | apply ae | apply ab)
      exact ⟨i + 1, _, rfl, ⟨hlt, h0, h1, h5, h6, h7, h30, vi rfl (by omega), hS⟩, by omega⟩
    · refine aN rfl (decide_eq_false (by omega)) ?_
      repeat (with_reducible first | apply ag | apply ac | apply af | apply ae | apply ab)
      refine aU ?_
      repeat (with_reducible first | apply aA | apply az | refine ay rfl ?_)
      repeat (with_reducible first | apply ag | apply ac | apply af | apply ae | apply ab)
      obtain rfl : i = n := by omega
      rw [Nat.sub_self, List.replicate_zero, List.append_nil] at hS
      exact ⟨_, rfl, h0, h1, h5, h6, h7, hS⟩
  clear hS
  rintro ρ w2 ⟨h0, h1, h5, h6, h7, hS⟩
  repeat (with_reducible first | apply ag | apply ac | apply af | apply ae | apply ab)
  refine aj ?_
  refine aa rfl (ah  h7 ?_)
  refine aa rfl (dC  rfl ⟨_, Tryz.underlying47⟩ ?_)
  refine aa rfl (ah  rfl ?_)
  refine ai ?_
  repeat (with_reducible first | apply ag | apply af | apply ae | apply ab)
  refine a9 (fun ρ w' => ρ 0 = .pointer (some ⟨bf, 0, none⟩) ∧ ρ 1 = .int .i64 c ∧ ρ 5 = .int .i64 n ∧ ρ 6 = .slice (some ⟨bF, 0, none⟩) n n ∧ ρ 7 = .slice (some ⟨bB, 0, none⟩) m m ∧ St w w' [(bB, 3, (List.replicate m (-1)).flatMap enI), (bF, 3, (List.replicate n (-1)).flatMap enI)]) ?_ ?_
  · repeat (with_reducible first | apply ag | apply ac | apply af | apply ae | apply ab)
    refine a5 (σ := Nat) (fun i ρ w' => i ≤ m ∧ ρ 0 = .pointer (some ⟨bf, 0, none⟩) ∧ ρ 1 = .int .i64 c ∧ ρ 5 = .int .i64 n ∧ ρ 6 = .slice (some ⟨bF, 0, none⟩) n n ∧ ρ 7 = .slice (some ⟨bB, 0, none⟩) m m ∧ ρ 39 = .int .i64 m ∧ ρ 40 = .int .i64 i ∧
      St w w' [(bB, 3, (List.replicate i (-1) ++ List.replicate (m - i) 0).flatMap enI), (bF, 3, (List.replicate n (-1)).flatMap enI)]) (fun i => m - i) 0
      ⟨Nat.zero_le _, h0, h1, h5, h6, h7, rfl, rfl, hS⟩ ?_
    clear hS h0 h1 h5 h6 h7
    rintro i ρ w2 ⟨hi, h0, h1, h5, h6, h7, h39, h40, hS⟩
    have hll : (List.replicate i (-1 : Int) ++ List.replicate (m - i) 0).length = m := by simp; omega
    repeat (with_reducible first | apply ag | apply ac | apply af | apply ae | apply ab)
    refine aj ?_
    refine aa rfl (aV  h40 h39 ?_)
    refine ai ?_
    repeat (with_reducible first | apply ag | apply ac | apply af | apply ae | apply ab)
    by_cases hlt : i < m
    · refine aD rfl (decide_eq_true (by omega)) ?_
      repeat (with_reducible first | apply ag | apply ac | apply af | apply ae | apply ab)
      refine aj ?_
      refine aa rfl (ah  h40 ?_)
      refine aa rfl (am  rfl ?_)
      refine ai ?_
      repeat (with_reducible first | apply ag | apply ac | apply af | apply ae | apply ab)
      refine aj ?_
      refine aa rfl (ah  h7 ?_)
      refine aa rfl (ah  rfl ?_)
      refine aa rfl (a7 (i := i)  rfl rfl (by omega) (by first | omega | (simp; done) | (simp; omega)) cN ?_)
      refine ak rfl (fC (k := 0) (i := i) (enc := enI) (-1) (fun _ => rfl)  rfl rfl dM hS rfl (by first | omega | simp) (by first | omega | (simp; done) | (simp; omega)) rfl rfl ?_)
      intro wz4 hS
      refine ai ?_
      repeat (with_reducible first | apply ag | apply ac | apply af | apply ae | apply ab)
      replace hS : St w _ [(bB, 3, ((List.replicate i (-1) ++ List.replicate (m - i) 0).set i (-1)).flatMap enI), (bF, 3, (List.replicate n (-1)).flatMap enI)] := hS
      rw [setrep _ _ _ hlt] at hS
      repeat (with_reducible first | apply ag | apply ac | apply af | apply ae | apply ab)
      refine aj ?_
      refine aa rfl (aK  h40 rfl (IntWalk.i64_in _ (by omega)) ?_)
      refine aa rfl (ah  rfl ?_)
      refine ai ?_
      repeat (with_reducible first | apply ag | apply ac | apply af | apply ae | apply ab)
      exact ⟨i + 1, _, rfl, ⟨hlt, h0, h1, h5, h6, h7, h39, vi rfl (by omega), hS⟩, by omega⟩
    · refine aN rfl (decide_eq_false (by omega)) ?_
      repeat (with_reducible first | apply ag | apply ac | apply af | apply ae | apply ab)
      refine aU ?_
      repeat (with_reducible first | apply aA | apply az | refine ay rfl ?_)
      repeat (with_reducible first | apply ag | apply ac | apply af | apply ae | apply ab)
      obtain rfl : i = m := by omega
      rw [Nat.sub_self, List.replicate_zero, List.append_nil] at hS
      exact ⟨_, rfl, h0, h1, h5, h6, h7, hS⟩
  clear hS h0 h1 h5 h6 h7
  rintro ρ w2 ⟨h0, h1, h5, h6, h7, hS⟩
  repeat (with_reducible first | apply ag | apply ac | apply af | apply ae | apply ab)
  refine aj ?_
  refine aa rfl (ah  h0 ?_)
  refine aa rfl (cL  rfl ?_)
  refine aa rfl (aH  rfl fR ?_)
  refine aa rfl (aH  rfl fk ?_)
  refine aw rfl (gJ  rfl cX (jo (k := 1) (hF.below hS.below).a0 rfl) rfl rfl (.inr rfl) ?_)
  refine aa rfl (aG  rfl ((hF.below hS.below).o) ⟨_, Tryz.underlying24⟩ ?_)
  refine ak rfl (eu (enc := enB) (n := m) false  rfl rfl fm rfl (by omega) (by omega) (by omega) (by omega) hS ?_)
  intro bZ wz5 hS hBz5
  refine aa rfl (am  rfl ?_)
  refine ai ?_
  repeat (with_reducible first | apply ag | apply ac | apply af | apply ae | apply ab)
  rw [hol]
  have hzl : (List.replicate m false).length = m := List.length_replicate
  repeat (with_reducible first | apply ag | apply ac | apply af | apply ae | apply ab)
  refine aj ?_
  refine aa rfl (ah  rfl ?_)
  refine aa rfl (ah  h1 ?_)
  refine aa rfl (a7 (i := c)  rfl rfl (by omega) (by first | omega | (simp; done) | (simp; omega)) fm ?_)
  refine ak rfl (fC (k := 0) (i := c) (enc := enB) true (fun _ => rfl)  rfl rfl dq hS rfl (by first | omega | simp) (by first | omega | (simp; done) | (simp; omega)) rfl rfl ?_)
  intro wz6 hS
  refine ai ?_
  repeat (with_reducible first | apply ag | apply ac | apply af | apply ae | apply ab)
  replace hS : St w _ [(bZ, 4, ((List.replicate m false).set c true).flatMap enB), (bB, 3, (List.replicate m (-1)).flatMap enI), (bF, 3, (List.replicate n (-1)).flatMap enI)] := hS
  repeat (with_reducible first | apply ag | apply ac | apply af | apply ae | apply ab)
  refine aj ?_
  refine aa rfl (ah  h1 ?_)
  refine ak rfl (dJ (vs := [.int .i64 c])  rfl cN rfl (by decide) (by decide) (by decide) (by simp [Value.cells]) rfl hS ?_)
  intro bq wz7 hS hBz7
  refine aa rfl (am  rfl ?_)
  refine ai ?_
  repeat (with_reducible first | apply ag | apply af | apply ae | apply ab)
  have hG0 : Gq enI 3 1 (.slice (some ⟨bq, 0, none⟩) 1 1) (nQ ([c].drop 0)) [(bq, 3, (nQ ([c].drop 0)).flatMap enI)] := Gq.made rfl (by decide)
  replace hS : St w _ ((bq, 3, (nQ ([c].drop 0)).flatMap enI) :: [(bZ, 4, ((List.replicate m false).set c true).flatMap enB), (bB, 3, (List.replicate m (-1)).flatMap enI), (bF, 3, (List.replicate n (-1)).flatMap enI)]) := hS
  replace hS : St w _ ([(bZ, 4, ((List.replicate m false).set c true).flatMap enB), (bB, 3, (List.replicate m (-1)).flatMap enI), (bF, 3, (List.replicate n (-1)).flatMap enI)] ++ [(bq, 3, (nQ ([c].drop 0)).flatMap enI)]) := hS.perm (List.perm_append_comm (l₁ := [_]))
  refine a9 (fun ρ w' => ∃ Q F B Z vq LQ, ρ 0 = .pointer (some ⟨bf, 0, none⟩) ∧ Bf n m c (fi X) P Q Q.length F B Z ∧ Dn n m (fi X) P lf Q Q.length 0 n F ∧ Gq enI 3 1 vq (nQ (Q.drop Q.length)) LQ ∧ St w w' ([(bZ, 4, Z.flatMap enB), (bB, 3, B.flatMap enI), (bF, 3, F.flatMap enI)] ++ LQ)) ?_ ?_
  · repeat (with_reducible first | apply ag | apply ac | apply af | apply ae | apply ab)
    refine a5 (σ := Nat) (fun d ρ w' => ρ 0 = .pointer (some ⟨bf, 0, none⟩) ∧ ρ 5 = .int .i64 n ∧ ρ 6 = .slice (some ⟨bF, 0, none⟩) n n ∧ ρ 7 = .slice (some ⟨bB, 0, none⟩) m m ∧ ρ 10 = .slice (some ⟨bZ, 0, none⟩) m m ∧
        ∃ Q F B Z vq LQ, ρ 11 = vq ∧ d ≤ Q.length ∧ Bf n m c (fi X) P Q d F B Z ∧ Dn n m (fi X) P lf Q d 0 n F ∧ Gq enI 3 1 vq (nQ (Q.drop d)) LQ ∧ St w w' ([(bZ, 4, Z.flatMap enB), (bB, 3, B.flatMap enI), (bF, 3, F.flatMap enI)] ++ LQ)) (fun d => m - d) 0
      ⟨by assumption, by assumption, by assumption, by assumption, rfl, _, _, _, _, _, _, rfl, Nat.zero_le _, Bf.start hc, Dn.start, hG0, hS⟩ ?_
    clear hS hG0 h0 h1 h5 h6 h7
    rintro d ρ w3 ⟨h0, h5, h6, h7, h10, Q, F, B, Z, vq, LQ, h11, hd, hB, hD, hG, hS⟩
    have hql : (nQ (Q.drop d)).length = Q.length - d := by rw [nQ_len, List.length_drop]
    have hQm := ic hB.nd hB.lt
    obtain ⟨aq, cq, rfl⟩ := hG.len
    repeat (with_reducible first | apply ag | apply ac | apply af | apply ae | apply ab)
    refine aj ?_
    refine aa rfl (ah  h11 ?_)
    refine aa rfl (dC  rfl ⟨_, Tryz.underlying47⟩ ?_)
    refine aa rfl (cf  rfl rfl ?_)
    refine ai ?_
    repeat (with_reducible first | apply ag | apply ac | apply af | apply ae | apply ab)
    by_cases hlt : d < Q.length
    · refine aD rfl (decide_eq_true (by omega)) ?_
      repeat (with_reducible first | apply ag | apply ac | apply af | apply ae | apply ab)
      have hne : nQ (Q.drop d) ≠ [] := by rw [iI Q hlt]; exact List.cons_ne_nil _ _
      obtain ⟨cc, hcc⟩ : ∃ cc, cc = Q.getD d 0 := ⟨_, rfl⟩
      have hccm : cc < m := by rw [hcc]; exact hB.lt _ (g9 hlt)
      have hq0 : (nQ (Q.drop d)).getD 0 0 = (cc : Int) := by rw [iI Q hlt, hcc]; rfl
      repeat (with_reducible first | apply ag | apply ac | apply af | apply ae | apply ab)
      refine aj ?_
      refine aa rfl (ah  h11 ?_)
      refine aa rfl (aX (i := 0)  rfl rfl (hG.sl hS (fun _ => rfl) hne) (by omega) (by first | omega | (simp; done) | (simp; omega)) cN ?_)
      refine aw rfl (a6 (i := 0) 0  rfl dM (hG.sl hS (fun _ => rfl) hne) (by first | omega | (simp; done) | (simp; omega)) rfl rfl (.inr rfl) ?_)
      refine aa rfl (am  rfl ?_)
      refine ai ?_
      repeat (with_reducible first | apply ag | apply ac | apply af | apply ae | apply ab)
      rw [hq0]
      repeat (with_reducible first | apply ag | apply ac | apply af | apply ae | apply ab)
      refine aj ?_
      refine aa rfl (ah  h5 ?_)
      refine aa rfl (ah  rfl ?_)
      refine ai ?_
      repeat (with_reducible first | apply ag | apply af | apply ae | apply ab)
      replace hB := hB.mono (Nat.le_succ d)
      refine a9 (fun ρ w' => ρ 0 = .pointer (some ⟨bf, 0, none⟩) ∧ ρ 5 = .int .i64 n ∧ ρ 6 = .slice (some ⟨bF, 0, none⟩) n n ∧ ρ 7 = .slice (some ⟨bB, 0, none⟩) m m ∧ ρ 10 = .slice (some ⟨bZ, 0, none⟩) m m ∧
        ∃ Q F B Z vq LQ, ρ 11 = vq ∧ d < Q.length ∧ Bf n m c (fi X) P Q (d + 1) F B Z ∧ Dn n m (fi X) P lf Q d n n F ∧ Gq enI 3 1 vq (nQ (Q.drop d)) LQ ∧ St w w' ([(bZ, 4, Z.flatMap enB), (bB, 3, B.flatMap enI), (bF, 3, F.flatMap enI)] ++ LQ)) ?_ ?_
      · repeat (with_reducible first | apply ag | apply ac | apply af | apply ae | apply ab)
        refine a5 (σ := Nat) (fun i ρ w' => i ≤ n ∧ ρ 0 = .pointer (some ⟨bf, 0, none⟩) ∧ ρ 5 = .int .i64 n ∧ ρ 6 = .slice (some ⟨bF, 0, none⟩) n n ∧ ρ 7 = .slice (some ⟨bB, 0, none⟩) m m ∧ ρ 10 = .slice (some ⟨bZ, 0, none⟩) m m ∧ ρ 12 = .int .i64 cc ∧ ρ 67 = .int .i64 n ∧ ρ 68 = .int .i64 i ∧
          ∃ Q F B Z vq LQ, ρ 11 = vq ∧ d < Q.length ∧ Q.getD d 0 = cc ∧ Bf n m c (fi X) P Q (d + 1) F B Z ∧ Dn n m (fi X) P lf Q d i n F ∧ Gq enI 3 1 vq (nQ (Q.drop d)) LQ ∧ St w w' ([(bZ, 4, Z.flatMap enB), (bB, 3, B.flatMap enI), (bF, 3, F.flatMap enI)] ++ LQ)) (fun i => n - i) 0
          ⟨Nat.zero_le _, by assumption, by assumption, by assumption, by assumption, by assumption, rfl, rfl, rfl, Q, F, B, Z, _, LQ, by assumption, hlt, hcc.symm, hB, hD, hG, hS⟩ ?_
        clear hS hG hB hD hne hq0 hcc hlt hQm hql hd h0 h5 h6 h7 h10 h11
        clear Q F B Z LQ
        rintro i ρ w4 ⟨hi, h0, h5, h6, h7, h10, h12, h67, h68, Q, F, B, Z, vq, LQ, h11, hlt, hcc, hB, hD, hG, hS⟩
        have hFl := hB.fl
        have hRl := hR.len
        repeat (with_reducible first | apply ag | apply ac | apply af | apply ae | apply ab)
        refine aj ?_
        refine aa rfl (aV  h68 h67 ?_)
        refine ai ?_
        repeat (with_reducible first | apply ag | apply ac | apply af | apply ae | apply ab)
        by_cases hli : i < n
        · refine aD rfl (decide_eq_true (by omega)) ?_
          repeat (with_reducible first | apply ag | apply ac | apply af | apply ae | apply ab)
          refine aj ?_
          refine aa rfl (ah  h68 ?_)
          refine aa rfl (am  rfl ?_)
          refine ai ?_
          repeat (with_reducible first | apply ag | apply ac | apply af | apply ae | apply ab)
          by_cases hfi : F.getD i 0 = -1
          · have hiX : i < X.length := by omega
            have hbit := mask_bit hR hccm hiX
            have hRlt := hR.lt cc hccm
            have hp2 : 2 ^ i < 256 := Nat.lt_of_lt_of_le (Nat.pow_lt_pow_right (by decide) (show i < 8 by omega)) (by decide)
            repeat (with_reducible first | apply ag | apply ac | apply af | apply ae | apply ab)
            refine bm [(0, .pure), (1, .pure), (2, .pure), (3, .read), (4, .pure), (5, .pure), (6, .pure), (7, .pure), (8, .pure), (9, .pure), (10, .read), (11, .pure), (12, .pure), (13, .read), (14, .pure), (15, .pure), (16, .pure), (17, .pure), (18, .pure)] (by kernel_rfl) (by kernel_rfl) hS ?_
            intro wz8 hS hBz8
            refine al rfl rfl (ah  h6 ?_)
            refine al rfl rfl (ah  rfl ?_)
            refine al rfl rfl (a7 (i := i)  rfl rfl (by omega) (by first | omega | (simp; done) | (simp; omega)) cN ?_)
            refine aF rfl rfl (gm (k := 2) (i := i) (enc := enI) 0 (fun _ => rfl)  rfl dM hS rfl (by first | omega | simp) (by first | omega | (simp; done) | (simp; omega)) rfl (.inr rfl) ?_)
            refine al rfl rfl (df  rfl rfl ?_)
            refine al rfl rfl (ah  rfl ?_)
            refine al rfl (ar 76 (by kernel_rfl) rfl (decide_eq_false (by omega))) (ah  h0 ?_)
            refine al rfl (ar 76 (by kernel_rfl) rfl (decide_eq_false (by omega))) (cL  rfl ?_)
            refine al rfl (ar 76 (by kernel_rfl) rfl (decide_eq_false (by omega))) (aH  rfl fR ?_)
            refine al rfl (ar 76 (by kernel_rfl) rfl (decide_eq_false (by omega))) (aH  rfl iB ?_)
            refine aF rfl (ar 76 (by kernel_rfl) rfl (decide_eq_false (by omega))) (gJ  rfl jr (jo (k := 2) (hF.below hS.below).a0 rfl) rfl rfl (.inr rfl) ?_)
            refine al rfl (ar 76 (by kernel_rfl) rfl (decide_eq_false (by omega))) (ah  h12 ?_)
            refine al rfl (ar 76 (by kernel_rfl) rfl (decide_eq_false (by omega))) (aX (i := cc)  rfl rfl ((hF.below hS.below).i) (by omega) (by first | omega | (simp; done) | (simp; omega)) iR ?_)
            refine aF rfl (ar 76 (by kernel_rfl) rfl (decide_eq_false (by omega))) (a6 (i := cc) 0  rfl jn ((hF.below hS.below).i) (by first | omega | (simp; done) | (simp; omega)) rfl rfl (.inr rfl) ?_)
            refine al rfl (ar 76 (by kernel_rfl) rfl (decide_eq_false (by omega))) (ah  rfl ?_)
            refine al rfl (ar 76 (by kernel_rfl) rfl (decide_eq_false (by omega))) (ef  rfl rfl (by omega) (ee 1 i ((2 ^ i : Nat) : Int) (by show i ≤ 64; omega) (aQ _ ⟨by rw [Nat.one_mul], Int.natCast_nonneg _, by omega⟩)) ?_)
            refine al rfl (ar 76 (by kernel_rfl) rfl (decide_eq_false (by omega))) (gz  rfl rfl (r := ((R.getD cc 0 &&& 2 ^ i : Nat) : Int)) (by exact go rfl _ _ (by show _ < 18446744073709551616; omega) (by show _ < 18446744073709551616; omega)) ?_)
            refine al rfl (ar 76 (by kernel_rfl) rfl (decide_eq_false (by omega))) (c6  rfl rfl ?_)
            refine al rfl rfl (aJ (vb rfl (decide_eq_false (by omega))) rfl ?_)
            refine bC ?_
            repeat (with_reducible first | apply ag | apply ac | apply af | apply ae | apply ab)
            by_cases hsec : fi X i cc = true
            · have hne : ¬ R.getD cc 0 &&& 2 ^ i = 0 := fun g => by rw [gY, hbit, show cD (X.getD i zIt) cc = true from hsec] at g; cases g
              refine aN rfl (decide_eq_false (by omega)) ?_
              repeat (with_reducible first | apply ag | apply ac | apply af | apply ae | apply ab)
              refine aj ?_
              refine aa rfl (ah  h6 ?_)
              refine aa rfl (ah  rfl ?_)
              refine aa rfl (ah  h12 ?_)
              refine aa rfl (a7 (i := i)  rfl rfl (by omega) (by first | omega | (simp; done) | (simp; omega)) cN ?_)
              refine ak rfl (fC (k := 2) (i := i) (enc := enI) (cc : Int) (fun _ => rfl)  rfl rfl dM hS rfl (by first | omega | simp) (by first | omega | (simp; done) | (simp; omega)) rfl rfl ?_)
              intro wz9 hS
              refine ai ?_
              repeat (with_reducible first | apply ag | apply ac | apply af | apply ae | apply ab)
              replace hS : St w _ ([(bZ, 4, Z.flatMap enB), (bB, 3, B.flatMap enI), (bF, 3, (F.set i (cc : Int)).flatMap enI)] ++ LQ) := hS
              replace hB := hB.take (Nat.lt_succ_self d) hlt hli hfi (by rw [hcc]; exact hsec)
              replace hD := hD.take (c := cc) hli hFl
              rw [hcc] at hB
              have hFi : (F.set i (cc : Int)).getD i 0 = (cc : Int) := by rw [dW _ _ _ (by rw [hFl]; exact hli), if_pos rfl]
              obtain ⟨F', hF'⟩ : ∃ F', F' = F.set i (cc : Int) := ⟨_, rfl⟩
              rw [← hF'] at hS hB hD hFi
              have hFl' := hB.fl
              have hgl : (tab n fun i => ofQ (lf i)).getD i zRR = ofQ (lf i) := cE _ _ hli
              repeat (with_reducible first | apply ag | apply ac | apply af | apply ae | apply ab)
              refine aj ?_
              refine aa rfl (ah  h0 ?_)
              refine aa rfl (cL  rfl ?_)
              refine aa rfl (aH  rfl fL ?_)
              refine aw rfl (gJ  rfl cX (jo (k := 4) (hF.below hS.below).a0 rfl) rfl rfl (.inr rfl) ?_)
              refine aa rfl (ah  rfl ?_)
              refine aa rfl (aX (i := i)  rfl rfl ((hF.below hS.below).l) (by omega) (by first | omega | (simp; done) | (simp; omega)) bH ?_)
              refine aw rfl (a6 (i := i) zRR  rfl ax ((hF.below hS.below).l) (by first | omega | (simp; done) | (simp; omega)) rfl rfl (.inl rfl) ?_)
              refine ak rfl (av Tryz.call12 rfl (eS ((tab n fun i => ofQ (lf i)).getD i zRR) _ (by rw [hgl, Lr_ofQ]; exact hlf i hli)) ?_)
              rintro _ wc10 ⟨rfl, hBc10⟩
              replace hS := hS.grow hBc10
              refine aa rfl (cf  rfl rfl ?_)
              refine ai ?_
              repeat (with_reducible first | apply ag | apply ac | apply af | apply ae | apply ab)
              rw [hgl, toQ_ofQ]
              by_cases hpos : 0 < lf i
              · refine aD rfl (decide_eq_true (sgnQ_pos.2 hpos)) ?_
                repeat (with_reducible first | apply ag | apply ac | apply af | apply ae | apply ab)
                obtain ⟨W, hT, hW1, hW2, hW3⟩ := hB.wayOk (lf := lf) hlt hli (by rw [hcc]; exact hFi) hpos
                have hBl := hB.bl
                have hsF := hS.sle (k := 2) (enc := enI) (L := F') (n := n) (cap := n) rfl (fun _ => rfl) (by omega) (Nat.le_refl _) (by omega)
                rw [List.take_of_length_le (by omega)] at hsF
                have hsB := hS.sle (k := 1) (enc := enI) (L := B) (n := m) (cap := m) rfl (fun _ => rfl) (by omega) (Nat.le_refl _) (by omega)
                rw [List.take_of_length_le (by omega)] at hsB
                have htr := fun f => trace_ok f _ _ F' B W _ hsF hsB hT (by omega)
                rw [hW2] at htr
                repeat (with_reducible first | apply ag | apply ac | apply af | apply ae | apply ab)
                refine aj ?_
                refine aa rfl (ah  h0 ?_)
                refine aa rfl (ah  rfl ?_)
                refine aa rfl (ah  h6 ?_)
                refine aa rfl (ah  h7 ?_)
                refine ak rfl (av Tryz.call56 rfl (htr _) ?_)
                rintro r w6 ⟨LW, hGW, hSW⟩
                replace hS := hS.join hSW
                refine aa rfl (am  rfl ?_)
                refine ai ?_
                repeat (with_reducible first | apply ag | apply ac | apply af | apply ae | apply ab)
                refine aE ?_
                repeat (with_reducible first | apply ap | apply ao)
                refine aR rfl rfl ?_
                exact .inr ⟨W, LW, hGW, hS.drop (List.sublist_append_left _ _), hW3, hW1⟩
              · refine aN rfl (decide_eq_false (fun g => hpos (sgnQ_pos.1 g))) ?_
                repeat (with_reducible first | apply ag | apply ac | apply af | apply ae | apply ab)
                refine aj ?_
                refine aa rfl (ah  h0 ?_)
                refine aa rfl (cL  rfl ?_)
                refine aa rfl (aH  rfl fR ?_)
                refine aa rfl (aH  rfl fk ?_)
                refine aw rfl (gJ  rfl cX (jo (k := 1) (hF.below hS.below).a0 rfl) rfl rfl (.inr rfl) ?_)
                refine aa rfl (aG  rfl ((hF.below hS.below).o) ⟨_, Tryz.underlying24⟩ ?_)
                refine aa rfl (ah  rfl ?_)
                refine ai ?_
                repeat (with_reducible first | apply ag | apply af | apply ae | apply ab)
                rw [hol]
                refine a9 (fun ρ w' => ρ 0 = .pointer (some ⟨bf, 0, none⟩) ∧ ρ 5 = .int .i64 n ∧ ρ 6 = .slice (some ⟨bF, 0, none⟩) n n ∧ ρ 7 = .slice (some ⟨bB, 0, none⟩) m m ∧ ρ 10 = .slice (some ⟨bZ, 0, none⟩) m m ∧ ρ 12 = .int .i64 cc ∧ ρ 67 = .int .i64 n ∧ ρ 68 = .int .i64 i ∧
                  ∃ Q B Z vq LQ, ρ 11 = vq ∧ d < Q.length ∧ Q.getD d 0 = cc ∧ Bf n m c (fi X) P Q (d + 1) F' B Z ∧ Dn n m (fi X) P lf Q d (i + 1) n F' ∧ Gq enI 3 1 vq (nQ (Q.drop d)) LQ ∧ St w w' ([(bZ, 4, Z.flatMap enB), (bB, 3, B.flatMap enI), (bF, 3, F'.flatMap enI)] ++ LQ)) ?_ ?_
                · repeat (with_reducible first | apply ag | apply ac | apply af | apply ae | apply ab)
                  refine a5 (σ := Nat) (fun k ρ w' => k ≤ m ∧ ρ 0 = .pointer (some ⟨bf, 0, none⟩) ∧ ρ 5 = .int .i64 n ∧ ρ 6 = .slice (some ⟨bF, 0, none⟩) n n ∧ ρ 7 = .slice (some ⟨bB, 0, none⟩) m m ∧ ρ 10 = .slice (some ⟨bZ, 0, none⟩) m m ∧ ρ 12 = .int .i64 cc ∧ ρ 13 = .int .i64 i ∧ ρ 67 = .int .i64 n ∧ ρ 68 = .int .i64 i ∧ ρ 113 = .int .i64 m ∧ ρ 114 = .int .i64 k ∧
                    ∃ Q B Z vq LQ, ρ 11 = vq ∧ d < Q.length ∧ Q.getD d 0 = cc ∧ Bf n m c (fi X) P Q (d + 1) F' B Z ∧ Dn n m (fi X) P lf Q d (i + 1) i F' ∧ (∀ a, a < k → 0 < P i a → a ∈ Q) ∧ Gq enI 3 1 vq (nQ (Q.drop d)) LQ ∧ St w w' ([(bZ, 4, Z.flatMap enB), (bB, 3, B.flatMap enI), (bF, 3, F'.flatMap enI)] ++ LQ)) (fun k => m - k) 0
                    ⟨Nat.zero_le _, by assumption, by assumption, by assumption, by assumption, by assumption, by assumption, rfl, by assumption, by assumption, rfl, rfl, Q, B, Z, _, LQ, by assumption, hlt, hcc, hB, hD, fun a ha => absurd ha (Nat.not_lt_zero _), hG, hS⟩ ?_
                  clear hS hG hB hD hlt hcc hF' hfi hFl h0 h5 h6 h7 h10 h12 h67 h68 h11
                  rintro k ρ w5 ⟨hk, h0, h5, h6, h7, h10, h12, h13, h67, h68, h113, h114, Q, B, Z, vq, LQ, h11, hlt, hcc, hB, hD, hall, hG, hS⟩
                  have hBl := hB.bl
                  have hZl := hB.zl
                  have hvl := hF.y.len
                  rw [fE] at hvl
                  have hpl := bp m fun k => ofQ (P i k)
                  have hql : (nQ (Q.drop d)).length = Q.length - d := by rw [nQ_len, List.length_drop]
                  have hQm := ic hB.nd hB.lt
                  obtain ⟨aq, cq, rfl⟩ := hG.len
                  repeat (with_reducible first | apply ag | apply ac | apply af | apply ae | apply ab)
                  refine aj ?_
                  refine aa rfl (aV  h114 h113 ?_)
                  refine ai ?_
                  repeat (with_reducible first | apply ag | apply ac | apply af | apply ae | apply ab)
                  by_cases hkm : k < m
                  · refine aD rfl (decide_eq_true (by omega)) ?_
                    repeat (with_reducible first | apply ag | apply ac | apply af | apply ae | apply ab)
                    refine aj ?_
                    refine aa rfl (ah  h114 ?_)
                    refine aa rfl (am  rfl ?_)
                    refine ai ?_
                    repeat (with_reducible first | apply ag | apply ac | apply af | apply ae | apply ab)
                    cases hzk : Z.getD k false with
                    | true =>
                      repeat (with_reducible first | apply ag | apply ac | apply af | apply ae | apply ab)
                      refine aj ?_
                      refine aa rfl (ah  h10 ?_)
                      refine aa rfl (ah  rfl ?_)
                      refine aa rfl (a7 (i := k)  rfl rfl (by omega) (by first | omega | (simp; done) | (simp; omega)) fm ?_)
                      refine aw rfl (gm (k := 0) (i := k) (enc := enB) false (fun _ => rfl)  rfl dq hS rfl (by first | omega | simp) (by first | omega | (simp; done) | (simp; omega)) rfl (.inr rfl) ?_)
                      refine aa rfl (dX  rfl ?_)
                      refine aa rfl (ah  rfl ?_)
                      refine aW (au 122 (by kernel_rfl) rfl (by rw [hzk])) ?_
                      refine aW (au 122 (by kernel_rfl) rfl (by rw [hzk])) ?_
                      refine aW (au 122 (by kernel_rfl) rfl (by rw [hzk])) ?_
                      refine aW (au 122 (by kernel_rfl) rfl (by rw [hzk])) ?_
                      refine aW (au 122 (by kernel_rfl) rfl (by rw [hzk])) ?_
                      refine aW (au 122 (by kernel_rfl) rfl (by rw [hzk])) ?_
                      refine aW (au 122 (by kernel_rfl) rfl (by rw [hzk])) ?_
                      refine aW (au 122 (by kernel_rfl) rfl (by rw [hzk])) ?_
                      refine aW (au 122 (by kernel_rfl) rfl (by rw [hzk])) ?_
                      refine aW (au 122 (by kernel_rfl) rfl (by rw [hzk])) ?_
                      refine aW (au 122 (by kernel_rfl) rfl (by rw [hzk])) ?_
                      refine aW (au 122 (by kernel_rfl) rfl (by rw [hzk])) ?_
                      refine aa rfl (aJ (vb rfl (by rw [hzk])) rfl ?_)
                      refine ai ?_
                      repeat (with_reducible first | apply ag | apply ac | apply af | apply ae | apply ab)
                      refine aN rfl (rfl) ?_
                      repeat (with_reducible first | apply ag | apply ac | apply af | apply ae | apply ab)
                      refine aj ?_
                      refine aa rfl (aK  h114 rfl (IntWalk.i64_in _ (by omega)) ?_)
                      refine aa rfl (ah  rfl ?_)
                      refine ai ?_
                      repeat (with_reducible first | apply ag | apply ac | apply af | apply ae | apply ab)
                      refine ⟨k + 1, _, rfl, ⟨hkm, by assumption, by assumption, by assumption, by assumption, by assumption, by assumption, by assumption, by assumption, by assumption, by assumption, vi rfl (by omega), Q, B, Z, _, LQ, by assumption, hlt, hcc, hB, hD, fun a ha hp => ?_, hG, hS⟩, by omega⟩
                      by_cases e : a = k
                      · rw [e]; exact (hB.zq k hkm).1 hzk
                      · exact hall a (by omega) hp
                    | false =>
                      have hgp : (tab m fun k => ofQ (P i k)).getD k zRR = ofQ (P i k) := cE _ _ hkm
                      repeat (with_reducible first | apply ag | apply ac | apply af | apply ae | apply ab)
                      refine aj ?_
                      refine aa rfl (ah  h10 ?_)
                      refine aa rfl (ah  rfl ?_)
                      refine aa rfl (a7 (i := k)  rfl rfl (by omega) (by first | omega | (simp; done) | (simp; omega)) fm ?_)
                      refine aw rfl (gm (k := 0) (i := k) (enc := enB) false (fun _ => rfl)  rfl dq hS rfl (by first | omega | simp) (by first | omega | (simp; done) | (simp; omega)) rfl (.inr rfl) ?_)
                      refine aa rfl (dX  rfl ?_)
                      refine aa rfl (ah  rfl ?_)
                      refine aa (ar 122 (by kernel_rfl) rfl (by rw [hzk]; rfl)) (ah  h0 ?_)
                      refine aa (ar 122 (by kernel_rfl) rfl (by rw [hzk]; rfl)) (cL  rfl ?_)
                      refine aa (ar 122 (by kernel_rfl) rfl (by rw [hzk]; rfl)) (aH  rfl et ?_)
                      refine aw (ar 122 (by kernel_rfl) rfl (by rw [hzk]; rfl)) (gJ  rfl gG (jo (k := 3) (hF.below hS.below).a0 rfl) rfl rfl (.inr rfl) ?_)
                      refine aa (ar 122 (by kernel_rfl) rfl (by rw [hzk]; rfl)) (ah  h13 ?_)
                      refine aa (ar 122 (by kernel_rfl) rfl (by rw [hzk]; rfl)) (aX (i := i)  rfl rfl ((hF.below hS.below).y.sl) (by omega) (by first | omega | (simp; done) | (simp; omega)) iA ?_)
                      refine aw (ar 122 (by kernel_rfl) rfl (by rw [hzk]; rfl)) (a6 (i := i) undef  rfl cX ((hF.below hS.below).y.sl) (by first | omega | (simp; done) | (simp; omega)) rfl rfl (.inr rfl) ?_)
                      refine aa (ar 122 (by kernel_rfl) rfl (by rw [hzk]; rfl)) (ah  rfl ?_)
                      refine aa (ar 122 (by kernel_rfl) rfl (by rw [hzk]; rfl)) (aX (i := k)  rfl rfl ((hF.below hS.below).row hli) (by omega) (by first | omega | (simp; done) | (simp; omega)) bH ?_)
                      refine aw (ar 122 (by kernel_rfl) rfl (by rw [hzk]; rfl)) (a6 (i := k) zRR  rfl ax ((hF.below hS.below).row hli) (by first | omega | (simp; done) | (simp; omega)) rfl rfl (.inl rfl) ?_)
                      refine ak (ar 122 (by kernel_rfl) rfl (by rw [hzk]; rfl)) (av Tryz.call12 rfl (eS ((tab m fun k => ofQ (P i k)).getD k zRR) _ (by rw [hgp, Lr_ofQ]; exact hP i hli k hkm)) ?_)
                      rintro _ wc11 ⟨rfl, hBc11⟩
                      replace hS := hS.grow hBc11
                      refine aa (ar 122 (by kernel_rfl) rfl (by rw [hzk]; rfl)) (cf  rfl rfl ?_)
                      refine aa rfl (aJ (vb rfl (by rw [hzk])) rfl ?_)
                      refine ai ?_
                      repeat (with_reducible first | apply ag | apply ac | apply af | apply ae | apply ab)
                      rw [hgp, toQ_ofQ]
                      by_cases hpk : 0 < P i k
                      · refine aD rfl (decide_eq_true (sgnQ_pos.2 hpk)) ?_
                        repeat (with_reducible first | apply ag | apply ac | apply af | apply ae | apply ab)
                        replace hB := hB.reach hlt hli hkm (by rw [hcc]; exact hFi) hpk hzk
                        replace hD := hD.grow (k := k) hlt
                        repeat (with_reducible first | apply ag | apply ac | apply af | apply ae | apply ab)
                        refine aj ?_
                        refine aa rfl (ah  h10 ?_)
                        refine aa rfl (ah  rfl ?_)
                        refine aa rfl (ah  h7 ?_)
                        refine aa rfl (ah  rfl ?_)
                        refine aa rfl (ah  h13 ?_)
                        refine aa rfl (a7 (i := k)  rfl rfl (by omega) (by first | omega | (simp; done) | (simp; omega)) fm ?_)
                        refine ak rfl (fC (k := 0) (i := k) (enc := enB) true (fun _ => rfl)  rfl rfl dq hS rfl (by first | omega | simp) (by first | omega | (simp; done) | (simp; omega)) rfl rfl ?_)
                        intro wz12 hS
                        refine aa rfl (a7 (i := k)  rfl rfl (by omega) (by first | omega | (simp; done) | (simp; omega)) cN ?_)
                        refine ak rfl (fC (k := 1) (i := k) (enc := enI) (i : Int) (fun _ => rfl)  rfl rfl dM hS rfl (by first | omega | simp) (by first | omega | (simp; done) | (simp; omega)) rfl rfl ?_)
                        intro wz13 hS
                        refine ai ?_
                        repeat (with_reducible first | apply ag | apply ac | apply af | apply ae | apply ab)
                        replace hS : St w _ ([(bZ, 4, (Z.set k true).flatMap enB), (bB, 3, (B.set k (i : Int)).flatMap enI), (bF, 3, F'.flatMap enI)] ++ LQ) := hS
                        repeat (with_reducible first | apply ag | apply ac | apply af | apply ae | apply ab)
                        refine aj ?_
                        refine aa rfl (ah  h11 ?_)
                        refine aa rfl (ah  rfl ?_)
                        refine ak rfl (dJ (vs := [.int .i64 k])  rfl cN rfl (by decide) (by decide) (by decide) (by simp [Value.cells]) rfl hS ?_)
                        intro b14 wz15 hS hBz15
                        refine ak rfl (s_appq [(k : Int)]  rfl rfl cN hG (by rw [iI Q hlt]; exact List.cons_ne_nil _ _) hS rfl rfl (fun _ => rfl) (enI_all [(k : Int)]) (by first | omega | (simp only [List.length_cons, List.length_nil]; omega)) (by first | omega | (simp only [List.length_cons, List.length_nil]; omega)) ?_)
                        intro va16 La16 wa16 hG hS
                        refine aa rfl (am  rfl ?_)
                        refine ai ?_
                        repeat (with_reducible first | apply ag | apply ac | apply af | apply ae | apply ab)
                        rw [← nQ_snoc Q k (by omega)] at hG
                        repeat (with_reducible first | apply ag | apply ac | apply af | apply ae | apply ab)
                        refine aj ?_
                        refine aa rfl (aK  h114 rfl (IntWalk.i64_in _ (by omega)) ?_)
                        refine aa rfl (ah  rfl ?_)
                        refine ai ?_
                        repeat (with_reducible first | apply ag | apply ac | apply af | apply ae | apply ab)
                        refine ⟨k + 1, _, rfl, ⟨hkm, by assumption, by assumption, by assumption, by assumption, by assumption, by assumption, by assumption, by assumption, by assumption, by assumption, vi rfl (by omega), Q ++ [k], _, _, _, _, rfl, by rw [List.length_append]; omega, by rw [eV _ _ _ hlt]; exact hcc, hB, hD, fun a ha hp => ?_, hG, hS⟩, by omega⟩
                        by_cases e : a = k
                        · rw [e]; exact List.mem_append_right _ (List.mem_singleton.2 rfl)
                        · exact List.mem_append_left _ (hall a (by omega) hp)
                      · refine aN rfl (decide_eq_false (fun g => hpk (sgnQ_pos.1 g))) ?_
                        repeat (with_reducible first | apply ag | apply ac | apply af | apply ae | apply ab)
                        refine aj ?_
                        refine aa rfl (aK  h114 rfl (IntWalk.i64_in _ (by omega)) ?_)
                        refine aa rfl (ah  rfl ?_)
                        refine ai ?_
                        repeat (with_reducible first | apply ag | apply ac | apply af | apply ae | apply ab)
                        refine ⟨k + 1, _, rfl, ⟨hkm, by assumption, by assumption, by assumption, by assumption, by assumption, by assumption, by assumption, by assumption, by assumption, by assumption, vi rfl (by omega), Q, B, Z, _, LQ, by assumption, hlt, hcc, hB, hD, fun a ha hp => ?_, hG, hS⟩, by omega⟩
                        by_cases e : a = k
                        · rw [e] at hp; exact absurd hp hpk
                        · exact hall a (by omega) hp
                  · refine aN rfl (decide_eq_false (by omega)) ?_
                    repeat (with_reducible first | apply ag | apply ac | apply af | apply ae | apply ab)
                    refine aU ?_
                    repeat (with_reducible first | apply aA | apply az | refine ay rfl ?_)
                    repeat (with_reducible first | apply ag | apply ac | apply af | apply ae | apply ab)
                    obtain rfl : m = k := by omega
                    exact ⟨_, rfl, h0, h5, h6, h7, h10, h12, h67, h68, Q, B, Z, _, LQ, h11, hlt, hcc, hB, hD.done hpos hall, hG, hS⟩
                clear hS hG hB hD hlt hcc hF' hfi hFl h0 h5 h6 h7 h10 h12 h67 h68 h11
                rintro ρ w5 ⟨h0, h5, h6, h7, h10, h12, h67, h68, Q, B, Z, vq, LQ, h11, hlt, hcc, hB, hD, hG, hS⟩
                repeat (with_reducible first | apply ag | apply ac | apply af | apply ae | apply ab)
                refine aj ?_
                refine aa rfl (aK  h68 rfl (IntWalk.i64_in _ (by omega)) ?_)
                refine aa rfl (ah  rfl ?_)
                refine ai ?_
                repeat (with_reducible first | apply ag | apply ac | apply af | apply ae | apply ab)
                exact ⟨i + 1, _, rfl, ⟨hli, h0, h5, h6, h7, h10, h12, h67, vi rfl (by omega), Q, F', B, Z, vq, LQ, h11, hlt, hcc, hB, hD, hG, hS⟩, by omega⟩
            · have hse : cD (X.getD i zIt) cc = false := Bool.eq_false_iff.2 hsec
              have hne : R.getD cc 0 &&& 2 ^ i = 0 := by rw [gY, hbit, hse]
              refine aD rfl (decide_eq_true (by omega)) ?_
              repeat (with_reducible first | apply ag | apply ac | apply af | apply ae | apply ab)
              refine aU ?_
              repeat (with_reducible first | apply aA | apply az | refine ay rfl ?_)
              repeat (with_reducible first | apply ag | apply ac | apply af | apply ae | apply ab)
              refine aj ?_
              refine aa rfl (aK  h68 rfl (IntWalk.i64_in _ (by omega)) ?_)
              refine aa rfl (ah  rfl ?_)
              refine ai ?_
              repeat (with_reducible first | apply ag | apply ac | apply af | apply ae | apply ab)
              exact ⟨i + 1, _, rfl, ⟨hli, h0, h5, h6, h7, h10, h12, h67, vi rfl (by omega), Q, F, B, Z, vq, LQ, h11, hlt, hcc, hB, hD.skip (.inr (by rw [hcc]; exact hse)), hG, hS⟩, by omega⟩
          · have hge : 0 ≤ F.getD i 0 := by
              rcases hB.fr i hli with q | ⟨j, _, _, q, _⟩
              · exact absurd q hfi
              · omega
            repeat (with_reducible first | apply ag | apply ac | apply af | apply ae | apply ab)
            refine bm [(0, .pure), (1, .pure), (2, .pure), (3, .read), (4, .pure), (5, .pure), (6, .pure), (7, .pure), (8, .pure), (9, .pure), (10, .read), (11, .pure), (12, .pure), (13, .read), (14, .pure), (15, .pure), (16, .pure), (17, .pure), (18, .pure)] (by kernel_rfl) (by kernel_rfl) hS ?_
            intro wz17 hS hBz17
            refine al rfl rfl (ah  h6 ?_)
            refine al rfl rfl (ah  rfl ?_)
            refine al rfl rfl (a7 (i := i)  rfl rfl (by omega) (by first | omega | (simp; done) | (simp; omega)) cN ?_)
            refine aF rfl rfl (gm (k := 2) (i := i) (enc := enI) 0 (fun _ => rfl)  rfl dM hS rfl (by first | omega | simp) (by first | omega | (simp; done) | (simp; omega)) rfl (.inr rfl) ?_)
            refine al rfl rfl (df  rfl rfl ?_)
            refine al rfl rfl (ah  rfl ?_)
            refine bW rfl (au 76 (by kernel_rfl) rfl (decide_eq_true (by omega))) ?_
            refine bW rfl (au 76 (by kernel_rfl) rfl (decide_eq_true (by omega))) ?_
            refine bW rfl (au 76 (by kernel_rfl) rfl (decide_eq_true (by omega))) ?_
            refine bW rfl (au 76 (by kernel_rfl) rfl (decide_eq_true (by omega))) ?_
            refine bW rfl (au 76 (by kernel_rfl) rfl (decide_eq_true (by omega))) ?_
            refine bW rfl (au 76 (by kernel_rfl) rfl (decide_eq_true (by omega))) ?_
            refine bW rfl (au 76 (by kernel_rfl) rfl (decide_eq_true (by omega))) ?_
            refine bW rfl (au 76 (by kernel_rfl) rfl (decide_eq_true (by omega))) ?_
            refine bW rfl (au 76 (by kernel_rfl) rfl (decide_eq_true (by omega))) ?_
            refine bW rfl (au 76 (by kernel_rfl) rfl (decide_eq_true (by omega))) ?_
            refine bW rfl (au 76 (by kernel_rfl) rfl (decide_eq_true (by omega))) ?_
            refine bW rfl (au 76 (by kernel_rfl) rfl (decide_eq_true (by omega))) ?_
            refine al rfl rfl (aJ (vb rfl (decide_eq_true (by omega))) rfl ?_)
            refine bC ?_
            repeat (with_reducible first | apply ag | apply ac | apply af | apply ae | apply ab)
            refine aD rfl (rfl) ?_
            repeat (with_reducible first | apply ag | apply ac | apply af | apply ae | apply ab)
            refine aU ?_
            repeat (with_reducible first | apply aA | apply az | refine ay rfl ?_)
            repeat (with_reducible first | apply ag | apply ac | apply af | apply ae | apply ab)
            refine aj ?_
            refine aa rfl (aK  h68 rfl (IntWalk.i64_in _ (by omega)) ?_)
            refine aa rfl (ah  rfl ?_)
            refine ai ?_
            repeat (with_reducible first | apply ag | apply ac | apply af | apply ae | apply ab)
            exact ⟨i + 1, _, rfl, ⟨hli, h0, h5, h6, h7, h10, h12, h67, vi rfl (by omega), Q, F, B, Z, vq, LQ, h11, hlt, hcc, hB, hD.skip (.inl hfi), hG, hS⟩, by omega⟩
        · refine aN rfl (decide_eq_false (by omega)) ?_
          repeat (with_reducible first | apply ag | apply ac | apply af | apply ae | apply ab)
          refine aU ?_
          repeat (with_reducible first | apply aA | apply az | refine ay rfl ?_)
          repeat (with_reducible first | apply ag | apply ac | apply af | apply ae | apply ab)
          obtain rfl : n = i := by omega
          exact ⟨_, rfl, h0, h5, h6, h7, h10, Q, F, B, Z, vq, LQ, h11, hlt, hB, hD, hG, hS⟩
      clear hS hG hB hD hne hq0 hcc hlt hQm hql hd h0 h5 h6 h7 h10 h11
      clear Q F B Z LQ
      rintro ρ w4 ⟨h0, h5, h6, h7, h10, Q, F, B, Z, vq, LQ, h11, hlt, hB, hD, hG, hS⟩
      rw [iI Q hlt] at hG
      repeat (with_reducible first | apply ag | apply ac | apply af | apply ae | apply ab)
      refine aj ?_
      refine aa rfl (ah  h11 ?_)
      refine aa rfl (s_cut1 cN (fun _ => rfl) hG  rfl rfl ?_)
      intro vq2 hG2
      refine aa rfl (am  rfl ?_)
      refine ai ?_
      repeat (with_reducible first | apply ag | apply ac | apply af | apply ae | apply ab)
      have hQm := ic hB.nd hB.lt
      exact ⟨d + 1, _, rfl, ⟨h0, h5, h6, h7, h10, Q, F, B, Z, _, LQ, rfl, hlt, hB, hD.pop, hG2, hS⟩, by omega⟩
    · refine aN rfl (decide_eq_false (by omega)) ?_
      repeat (with_reducible first | apply ag | apply ac | apply af | apply ae | apply ab)
      refine aU ?_
      repeat (with_reducible first | apply aA | apply az | refine ay rfl ?_)
      repeat (with_reducible first | apply ag | apply ac | apply af | apply ae | apply ab)
      obtain rfl : d = Q.length := by omega
      exact ⟨_, rfl, Q, F, B, Z, _, LQ, h0, hB, hD, hG, hS⟩
  clear hS hG0 h0 h1 h5 h6 h7
  rintro ρ w3 ⟨Q, F, B, Z, vq, LQ, h0, hB, hD, hG, hS⟩
  repeat (with_reducible first | apply ag | apply ac | apply af | apply ae | apply ab)
  refine aj ?_
  refine aa rfl (am  rfl ?_)
  refine ai ?_
  repeat (with_reducible first | apply ag | apply ac | apply af | apply ae | apply ab)
  refine aE ?_
  repeat (with_reducible first | apply ap | apply ao)
  refine aR rfl rfl ?_
  refine .inl ⟨rfl, hS.below, fun k => decide (k ∈ Q), fun i => decide (F.getD i 0 ≠ -1), ?_, fun i hi ht => ?_, fun k hk hs i hi hsec => ?_⟩
  · have := g9 hB.ql
    rw [hB.q0] at this
    exact decide_eq_true this
  · obtain ⟨h1, h2⟩ := hD.it i hi (by omega) (of_decide_eq_true ht)
    exact ⟨h1, fun k hk hp => decide_eq_true (h2 k hk hp)⟩
  · have hq := of_decide_eq_true hs
    obtain ⟨j, hj, rfl⟩ := List.mem_iff_getElem.1 hq
    exact decide_eq_true (hD.cl j hj i hi (by rw [eN Q 0 hj]; exact hsec))
end Go.Proofs.YtmghobajmhdbfaaGreatDoor
namespace Go.Proofs.YtmghobajmhdbfaaGreatDoor
open Go Go.RowKit Go.Sx
theorem flW_at (W : List Pr2) : ∀ j, (flW W).getD (2 * j) 0 = ((wI W j : Nat) : Int) ∧ (flW W).getD (2 * j + 1) 0 = ((wC W j : Nat) : Int) := by
  induction W with
  | nil => exact fun j => ⟨rfl, rfl⟩
  | cons p W ih =>
    intro j
    cases j with
    | zero => exact ⟨rfl, rfl⟩
    | succ j => exact ih j
theorem L_amt {W : List Pr2} {P : Nat → Nat → Rat} {lf : Nat → Rat} {most : Rat} {K : Nat} (hm : L most ≤ K) (hl : L (lf (wI W 0)) ≤ K) : ∀ j, (∀ l, l < j → L (P (wI W (l + 1)) (wC W l)) ≤ K) → L (amt W P lf most j) ≤ K
  | 0, _ => Nat.le_trans (jg _ _) (Nat.max_le.2 ⟨hm, hl⟩)
  | j + 1, h => Nat.le_trans (jg _ _) (Nat.max_le.2 ⟨L_amt hm hl j fun l hl => h l (by omega), h j (by omega)⟩)
theorem upP_at (P : Nat → Nat → Rat) (i k : Nat) (d : Rat) (a b : Nat) : upP P i k d a b = if a = i ∧ b = k then P i k + d else P a b := by
  unfold upP
  by_cases h : a = i ∧ b = k
  · rw [if_pos h, if_pos h, h.1, h.2]
  · rw [if_neg h, if_neg h]
/-- What lies ahead of the rows while a way is paid. -/
def puB (b7 b6 b5 bl n : Nat) (fb : Blk) (a most : Rat) (lf : Nat → Rat) (sp : List Value) : List Blk :=
  [(b7, 36, aC (ofQ a)), (b6, 36, aC zRR), (b5, 36, aC (ofQ most)), fb, (bl, 36, (tab n fun i => ofQ (lf i)).flatMap aC ++ sp)]
def gg (lf : Nat → Rat) (i0 : Nat) (a : Rat) (i : Nat) : Rat := if i = i0 then lf i - a else lf i
theorem put_upP {R : List (Rw RR)} {n m i j : Nat} {Q : Nat → Nat → Rat} {d : Rat} (h : MatG R n m fun i k => ofQ (Q i k)) (hi : i < n) : MatG (R.set i ((R.getD i zRw).put j (ofQ (Q i j + d)))) n m fun a b => ofQ (upP Q i j d a b) := by
  refine (h.put hi j (ofQ (Q i j + d))).congr fun a _ b _ => ?_
  rw [upP_at]
  split <;> rfl
set_option maxHeartbeats 8000000 in
theorem push_ok (bf bo bl capP capL n m c K : Nat) (vP vO vI vW : Value) (so sp : List Value) (R0 : List (Rw RR)) (sec : Nat → Nat → Bool) (P : Nat → Nat → Rat) (lf : Nat → Rat) (most : Rat) (W : List Pr2) (H : List Blk) (w0 w : World)
    (hS : St w0 w ([(bf, 70, [vP, vO, vI, .slice (some ⟨bo, 0, none⟩) n capP, .slice (some ⟨bl, 0, none⟩) n capL]), (bl, 36, (tab n fun i => ofQ (lf i)).flatMap aC ++ sp)] ++ mD aC 36 24 bo (R0.map Rw.v ++ so) R0 H))
    (hR : MatG R0 n m fun i k => ofQ (P i k)) (hW : ∀ wx pre, St w0 wx (pre ++ H) → Sl enI 1 wx vW (flW W)) (hwo : WayOk n m sec P lf c W) (hWl : W.length ≤ 1000)
    (hLP : ∀ i, i < n → ∀ k, k < m → L (P i k) ≤ K) (hLl : ∀ i, i < n → L (lf i) ≤ K) (hLm : L most ≤ K) (hK : 4 * K + 8 ≤ MX) :
    Ret Tryz.prog 30 #[.pointer (some ⟨bf, 0, none⟩), vW, bE (ofQ most)] w fun v w' =>
      v = bE (ofQ (amt W P lf most (W.length - 1))) ∧ ∃ R', R'.map Rw.v = R0.map Rw.v ∧ MatG R' n m (fun i k => ofQ (psh W (amt W P lf most (W.length - 1)) P W.length i k)) ∧
        St w0 w' ([(bf, 70, [vP, vO, vI, .slice (some ⟨bo, 0, none⟩) n capP, .slice (some ⟨bl, 0, none⟩) n capL]), (bl, 36, (tab n fun i => ofQ (gg lf (wI W 0) (amt W P lf most (W.length - 1)) i)).flatMap aC ++ sp)] ++ mD aC 36 24 bo (R0.map Rw.v ++ so) R' H) := by
  have hne := hwo.ne
  have hfl := flW_len W
  have hI := fun j => (flW_at W j).1
  have hC := fun j => (flW_at W j).2
  have htl := bp n fun i => ofQ (lf i)
  have h0n := hwo.it 0 hne
  have hgl : (tab n fun i => ofQ (lf i)).getD (wI W 0) zRR = ofQ (lf (wI W 0)) := cE _ _ h0n
  have hLl0 := hLl _ h0n
  have hLa : ∀ j, j < W.length → L (amt W P lf most j) ≤ K := fun j hj => L_amt hLm hLl0 j fun l hl => hLP _ (hwo.it (l + 1) (by omega)) _ (hwo.cl l (by omega))
  have hLA := hLa (W.length - 1) (by omega)
  obtain ⟨cs, hcs⟩ : ∃ cs, cs = R0.map Rw.v ++ so := ⟨_, rfl⟩
  have hcr : ∀ R : List (Rw RR), R.map Rw.v = R0.map Rw.v → ∀ i, i < R.length → cs[i]? = some (R.getD i zRw).v := fun R h i hi => by rw [hcs, ← h]; exact mC_row hi
  rw [← hcs] at hS ⊢
  obtain ⟨fb, hfb⟩ : ∃ fb : Blk, fb = (bf, 70, [vP, vO, vI, .slice (some ⟨bo, 0, none⟩) n capP, .slice (some ⟨bl, 0, none⟩) n capL]) := ⟨_, rfl⟩
  rw [← hfb] at hS ⊢
  obtain ⟨a, ha⟩ : ∃ a, a = amt W P lf most (W.length - 1) := ⟨_, rfl⟩
  rw [← ha] at hLA ⊢
  have hWd : ∀ pre R wx, St w0 wx (pre ++ mD aC 36 24 bo cs R H) → Sl enI 1 wx vW (flW W) := fun pre R wx h => hW wx (pre ++ ((bo, 24, cs) :: R.map (Rw.blk aC 36))) (by rw [List.append_assoc]; exact h)
  refine enter Tryz.func30 rfl Tryz.ntmps30 rfl ?_
  repeat (with_reducible first | apply ag | apply ac | apply af | apply ae | apply ab)
  refine aj ?_
  refine ak rfl (bX (new := aC (ofQ most))  rfl rfl hS ?_)
  intro b5 wz1 hS hBz1
  refine ak rfl (aZ  ax hS ?_)
  intro b6 wz2 hS hBz2
  refine ai ?_
  repeat (with_reducible first | apply ag | apply ac | apply af | apply ae | apply ab)
  replace hS : St w0 _ ([(b6, 36, aC zRR), (b5, 36, aC (ofQ most)), fb, (bl, 36, (tab n fun i => ofQ (lf i)).flatMap aC ++ sp)] ++ mD aC 36 24 bo cs R0 H) := hS
  refine a9 (fun ρ w' => ρ 0 = .pointer (some ⟨bf, 0, none⟩) ∧ ρ 1 = vW ∧ ρ 6 = .pointer (some ⟨b6, 0, none⟩) ∧ ∃ b7, ρ 7 = .pointer (some ⟨b7, 0, none⟩) ∧
    St w0 w' (puB b7 b6 b5 bl n fb (amt W P lf most 0) most lf sp ++ mD aC 36 24 bo cs R0 H)) ?_ ?_
  · repeat (with_reducible first | apply ag | apply ac | apply af | apply ae | apply ab)
    refine c_float 11 [(0, .read), (1, .pure), (2, .pure), (3, .pure), (4, .read), (5, .pure), (6, .pure), (7, .read), (8, .pure), (9, .read), (10, .grow), (12, .free)] (by kernel_rfl) (by kernel_rfl) hS ?_
    intro wz3 hS hBz3
    refine dO (by kernel_rfl) rfl rfl (aB (k := 1)  rfl ax hS rfl rfl rfl (.inl rfl) ?_)
    refine cV (by kernel_rfl) rfl rfl (ah  rfl ?_)
    refine cV (by kernel_rfl) rfl rfl (cL  rfl ?_)
    refine cV (by kernel_rfl) rfl rfl (aH  rfl fL ?_)
    refine dO (by kernel_rfl) rfl rfl (gE (k := 2)  rfl cX hS (congrArg some hfb) rfl ?_)
    refine cV (by kernel_rfl) rfl rfl (ah  rfl ?_)
    refine cV (by kernel_rfl) rfl rfl (aX (i := 0)  rfl rfl (hWd _ _ _ hS) (by omega) (by first | omega | (simp; done) | (simp; omega)) cN ?_)
    refine dO (by kernel_rfl) rfl rfl (a6 (i := 0) 0  rfl dM (hWd _ _ _ hS) (by first | omega | (simp; done) | (simp; omega)) rfl rfl (.inr rfl) ?_)
    refine cV (by kernel_rfl) rfl rfl (a7 (i := wI W 0)  rfl rfl (hI 0) (by first | omega | (simp; done) | (simp; omega)) bH ?_)
    refine dO (by kernel_rfl) rfl rfl (s_ldS (k := 3) (i := wI W 0) (enc := aC) zRR (fun _ => rfl)  rfl ax hS rfl (by first | omega | simp) (by first | omega | (simp; done) | (simp; omega)) rfl (.inl rfl) ?_)
    refine hJ rfl rfl ?_ ?_
    · refine aS rfl rfl (aZ  ax hS ?_)
      intro b7 wz4 hS hBz4
      refine ⟨hBz4, ?_⟩
      refine aS rfl rfl (av Tryz.call47 rfl (fX (ofQ most) ((tab n fun i => ofQ (lf i)).getD (wI W 0) zRR) _ (by rw [hgl, Lr_ofQ, Lr_ofQ]; omega)) ?_)
      rintro r w3 ⟨rfl, hB3⟩
      refine ⟨hB3, ?_⟩
      replace hS := hS.grow hB3
      rw [hgl, toQ_ofQ, toQ_ofQ]
      refine bJ rfl rfl (a8 (k := 0)  rfl rfl ax hS rfl rfl rfl (Nat.le_of_ble_eq_true rfl) rfl ?_)
      intro wz5 hS
      refine bC ?_
      repeat (with_reducible first | apply ag | apply ac | apply af | apply ae | apply ab)
      exact ⟨_, rfl, rfl, rfl, rfl, b7, rfl, hS⟩
    · refine av Tryz.call47 rfl (fX (ofQ most) ((tab n fun i => ofQ (lf i)).getD (wI W 0) zRR) _ (by rw [hgl, Lr_ofQ, Lr_ofQ]; omega)) ?_
      rintro r w3 ⟨rfl, hB3⟩
      refine ⟨hB3, ?_⟩
      replace hS := hS.grow hB3
      rw [hgl, toQ_ofQ, toQ_ofQ]
      refine wx_now (by kernel_rfl) ?_
      refine aS rfl rfl (aZ  ax hS ?_)
      intro b7 wz6 hS hBz6
      refine ⟨hBz6, ?_⟩
      refine bJ rfl rfl (a8 (k := 0)  rfl rfl ax hS rfl rfl rfl (Nat.le_of_ble_eq_true rfl) rfl ?_)
      intro wz7 hS
      refine bC ?_
      repeat (with_reducible first | apply ag | apply ac | apply af | apply ae | apply ab)
      exact ⟨_, rfl, rfl, rfl, rfl, b7, rfl, hS⟩
  clear hS
  rintro ρ w2 ⟨h0, h1, h6, b7, h7, hS⟩
  repeat (with_reducible first | apply ag | apply ac | apply af | apply ae | apply ab)
  refine aj ?_
  refine aa rfl (am  rfl ?_)
  refine ai ?_
  repeat (with_reducible first | apply ag | apply af | apply ae | apply ab)
  refine a9 (fun ρ w' => ρ 0 = .pointer (some ⟨bf, 0, none⟩) ∧ ρ 1 = vW ∧ ρ 6 = .pointer (some ⟨b6, 0, none⟩) ∧ ρ 7 = .pointer (some ⟨b7, 0, none⟩) ∧ St w0 w' (puB b7 b6 b5 bl n fb a most lf sp ++ mD aC 36 24 bo cs R0 H)) ?_ ?_
  · repeat (with_reducible first | apply ag | apply ac | apply af | apply ae | apply ab)
    refine a5 (σ := Nat) (fun j ρ w' => j < W.length ∧ ρ 0 = .pointer (some ⟨bf, 0, none⟩) ∧ ρ 1 = vW ∧ ρ 6 = .pointer (some ⟨b6, 0, none⟩) ∧ ρ 7 = .pointer (some ⟨b7, 0, none⟩) ∧ ρ 8 = .int .i64 ((1 + 2 * j : Nat) : Int) ∧ St w0 w' (puB b7 b6 b5 bl n fb (amt W P lf most j) most lf sp ++ mD aC 36 24 bo cs R0 H)) (fun j => W.length - j) 0
      ⟨hne, h0, h1, h6, h7, rfl, hS⟩ ?_
    clear hS h0 h1 h6 h7
    rintro j ρ w3 ⟨hj, h0, h1, h6, h7, h8, hS⟩
    repeat (with_reducible first | apply ag | apply ac | apply af | apply ae | apply ab)
    refine aj ?_
    refine aa rfl (ah  h8 ?_)
    refine aa rfl (aK  rfl rfl (IntWalk.i64_in _ (by omega)) ?_)
    refine aa rfl (ah  h1 ?_)
    refine aa rfl (aG  rfl (hWd _ _ _ hS) ⟨_, Tryz.underlying47⟩ ?_)
    refine aa rfl (aV  rfl rfl ?_)
    refine ai ?_
    repeat (with_reducible first | apply ag | apply ac | apply af | apply ae | apply ab)
    by_cases hlt : j + 1 < W.length
    · refine aD rfl (decide_eq_true (by omega)) ?_
      repeat (with_reducible first | apply ag | apply ac | apply af | apply ae | apply ab)
      have hi1 := hwo.it (j + 1) hlt
      have hc0 := hwo.cl j hj
      have hl1 : wI W (j + 1) < R0.length := by rw [hR.len]; exact hi1
      have htr := bp m fun k => ofQ (P (wI W (j + 1)) k)
      have hgp : (tab m fun k => ofQ (P (wI W (j + 1)) k)).getD (wC W j) zRR = ofQ (P (wI W (j + 1)) (wC W j)) := cE _ _ hc0
      repeat (with_reducible first | apply ag | apply ac | apply af | apply ae | apply ab)
      refine bm [(0, .read), (1, .pure), (2, .pure), (3, .pure), (4, .read), (5, .pure), (6, .pure), (7, .pure), (8, .pure), (9, .read), (10, .pure), (11, .read), (12, .pure), (13, .pure), (14, .pure), (15, .read), (16, .pure), (17, .read), (18, .grow), (19, .free)] (by kernel_rfl) (by kernel_rfl) hS ?_
      intro wz8 hS hBz8
      refine aF rfl rfl (aB (k := 0)  h7 ax hS rfl rfl rfl (.inl rfl) ?_)
      refine al rfl rfl (ah  h0 ?_)
      refine al rfl rfl (cL  rfl ?_)
      refine al rfl rfl (aH  rfl et ?_)
      refine aF rfl rfl (gE (k := 3)  rfl gG hS (congrArg some hfb) rfl ?_)
      refine al rfl rfl (ah  h1 ?_)
      refine al rfl rfl (ah  h8 ?_)
      refine al rfl rfl (aK  rfl rfl (IntWalk.i64_in _ (by omega)) ?_)
      refine al rfl rfl (aX (i := 2 * (j + 1))  rfl rfl (hWd _ _ _ hS) (by omega) (by first | omega | (simp; done) | (simp; omega)) cN ?_)
      refine aF rfl rfl (a6 (i := 2 * (j + 1)) 0  rfl dM (hWd _ _ _ hS) (by first | omega | (simp; done) | (simp; omega)) rfl rfl (.inr rfl) ?_)
      refine al rfl rfl (a7 (i := wI W (j + 1))  rfl rfl (hI (j + 1)) hi1 iA ?_)
      refine aF rfl rfl (ie (puB b7 b6 b5 bl n fb (amt W P lf most j) most lf sp)  rfl cX hS (by omega) (hcr R0 rfl _ hl1) ?_)
      refine al rfl rfl (ah  h1 ?_)
      refine al rfl rfl (ah  h8 ?_)
      refine al rfl rfl (aX (i := 2 * j + 1)  rfl rfl (hWd _ _ _ hS) (by omega) (by first | omega | (simp; done) | (simp; omega)) cN ?_)
      refine aF rfl rfl (a6 (i := 2 * j + 1) 0  rfl dM (hWd _ _ _ hS) (by first | omega | (simp; done) | (simp; omega)) rfl rfl (.inr rfl) ?_)
      refine al rfl rfl (aX (i := wC W j)  rfl rfl (hR.slD (puB b7 b6 b5 bl n fb (amt W P lf most j) most lf sp) hS bg hi1) (hC j) (by first | omega | (simp; done) | (simp; omega)) bH ?_)
      refine aF rfl rfl (a6 (i := wC W j) zRR  rfl ax (hR.slD (puB b7 b6 b5 bl n fb (amt W P lf most j) most lf sp) hS bg hi1) (by first | omega | (simp; done) | (simp; omega)) rfl rfl (.inl rfl) ?_)
      refine aS rfl rfl (av Tryz.call47 rfl (fX (ofQ (amt W P lf most j)) ((tab m fun k => ofQ (P (wI W (j + 1)) k)).getD (wC W j) zRR) _ (by rw [hgp, Lr_ofQ, Lr_ofQ]; have := hLa j hj; have := hLP _ hi1 _ hc0; omega)) ?_)
      rintro r w4 ⟨rfl, hB4⟩
      refine ⟨hB4, ?_⟩
      replace hS := hS.grow hB4
      rw [hgp, toQ_ofQ, toQ_ofQ]
      refine bJ rfl rfl (a8 (k := 0)  h7 rfl ax hS rfl rfl rfl (Nat.le_of_ble_eq_true rfl) rfl ?_)
      intro wz9 hS
      refine bC ?_
      repeat (with_reducible first | apply ag | apply ac | apply af | apply ae | apply ab)
      refine aj ?_
      refine aa rfl (ah  h8 ?_)
      refine aa rfl (aK  rfl rfl (IntWalk.i64_in _ (by omega)) ?_)
      refine aa rfl (am  rfl ?_)
      refine ai ?_
      repeat (with_reducible first | apply ag | apply ac | apply af | apply ae | apply ab)
      exact ⟨j + 1, _, rfl, ⟨hlt, h0, h1, h6, h7, vi rfl (by omega), hS⟩, by omega⟩
    · refine aN rfl (decide_eq_false (by omega)) ?_
      repeat (with_reducible first | apply ag | apply ac | apply af | apply ae | apply ab)
      refine aU ?_
      repeat (with_reducible first | apply aA | apply az | refine ay rfl ?_)
      repeat (with_reducible first | apply ag | apply ac | apply af | apply ae | apply ab)
      obtain rfl : j = W.length - 1 := by omega
      rw [← ha] at hS
      exact ⟨_, rfl, h0, h1, h6, h7, hS⟩
  clear hS h0 h1 h6 h7
  rintro ρ w3 ⟨h0, h1, h6, h7, hS⟩
  repeat (with_reducible first | apply ag | apply ac | apply af | apply ae | apply ab)
  refine bm [(0, .pure), (1, .pure), (2, .pure), (3, .read), (4, .pure), (5, .pure), (6, .read), (7, .pure), (8, .pure), (9, .pure), (10, .read), (11, .pure), (12, .pure), (13, .read), (14, .pure), (15, .read), (16, .read), (17, .grow), (18, .pure), (19, .free)] (by kernel_rfl) (by kernel_rfl) hS ?_
  intro wz10 hS hBz10
  refine al rfl rfl (ah  h0 ?_)
  refine al rfl rfl (cL  rfl ?_)
  refine al rfl rfl (aH  rfl fL ?_)
  refine aF rfl rfl (gE (k := 3)  rfl cX hS (congrArg some hfb) rfl ?_)
  refine al rfl rfl (ah  h1 ?_)
  refine al rfl rfl (aX (i := 0)  rfl rfl (hWd _ _ _ hS) (by omega) (by first | omega | (simp; done) | (simp; omega)) cN ?_)
  refine aF rfl rfl (a6 (i := 0) 0  rfl dM (hWd _ _ _ hS) (by first | omega | (simp; done) | (simp; omega)) rfl rfl (.inr rfl) ?_)
  refine al rfl rfl (ah  h0 ?_)
  refine al rfl rfl (cL  rfl ?_)
  refine al rfl rfl (aH  rfl fL ?_)
  refine aF rfl rfl (gE (k := 3)  rfl cX hS (congrArg some hfb) rfl ?_)
  refine al rfl rfl (ah  h1 ?_)
  refine al rfl rfl (aX (i := 0)  rfl rfl (hWd _ _ _ hS) (by omega) (by first | omega | (simp; done) | (simp; omega)) cN ?_)
  refine aF rfl rfl (a6 (i := 0) 0  rfl dM (hWd _ _ _ hS) (by first | omega | (simp; done) | (simp; omega)) rfl rfl (.inr rfl) ?_)
  refine al rfl rfl (a7 (i := wI W 0)  rfl rfl (hI 0) (by first | omega | (simp; done) | (simp; omega)) bH ?_)
  refine aF rfl rfl (s_ldS (k := 4) (i := wI W 0) (enc := aC) zRR (fun _ => rfl)  rfl ax hS rfl (by first | omega | simp) (by first | omega | (simp; done) | (simp; omega)) rfl (.inl rfl) ?_)
  refine aF rfl rfl (aB (k := 0)  h7 ax hS rfl rfl rfl (.inl rfl) ?_)
  refine aS rfl rfl (av Tryz.call29 rfl (cK ((tab n fun i => ofQ (lf i)).getD (wI W 0) zRR) (ofQ a) _ (by rw [hgl, Lr_ofQ, Lr_ofQ]; omega)) ?_)
  rintro r w4 ⟨rfl, hB4⟩
  refine ⟨hB4, ?_⟩
  replace hS := hS.grow hB4
  rw [hgl, toQ_ofQ, toQ_ofQ]
  refine al rfl rfl (a7 (i := wI W 0)  rfl rfl (hI 0) (by first | omega | (simp; done) | (simp; omega)) bH ?_)
  refine bJ rfl rfl (s_stS (k := 4) (i := wI W 0) (enc := aC) (ofQ (lf (wI W 0) - a)) (fun _ => rfl)  rfl rfl ax hS rfl (by first | omega | simp) (by first | omega | (simp; done) | (simp; omega)) rfl rfl ?_)
  intro wz11 hS
  refine bC ?_
  repeat (with_reducible first | apply ag | apply ac | apply af | apply ae | apply ab)
  have hset : (tab n fun i => ofQ (lf i)).set (wI W 0) (ofQ (lf (wI W 0) - a)) = tab n fun i => ofQ (gg lf (wI W 0) a i) := by
    rw [eU]
    refine bs fun i _ => ?_
    unfold gg
    split
    · next e => rw [e]
    · rfl
  replace hS : St w0 _ ([(b7, 36, aC (ofQ a)), (b6, 36, aC zRR), (b5, 36, aC (ofQ most)), fb, (bl, 36, ((tab n fun i => ofQ (lf i)).set (wI W 0) (ofQ (lf (wI W 0) - a))).flatMap aC ++ sp)] ++ mD aC 36 24 bo cs R0 H) := hS
  rw [hset] at hS
  replace hS : St w0 _ (puB b7 b6 b5 bl n fb a most (gg lf (wI W 0) a) sp ++ mD aC 36 24 bo cs R0 H) := hS
  repeat (with_reducible first | apply ag | apply ac | apply af | apply ae | apply ab)
  refine aj ?_
  refine aa rfl (am  rfl ?_)
  refine ai ?_
  repeat (with_reducible first | apply ag | apply af | apply ae | apply ab)
  refine a9 (fun ρ w' => ρ 6 = .pointer (some ⟨b6, 0, none⟩) ∧ ρ 7 = .pointer (some ⟨b7, 0, none⟩) ∧ ∃ R, R.map Rw.v = R0.map Rw.v ∧ MatG R n m (fun i k => ofQ (psh W a P W.length i k)) ∧ St w0 w' (puB b7 b6 b5 bl n fb a most (gg lf (wI W 0) a) sp ++ mD aC 36 24 bo cs R H)) ?_ ?_
  · repeat (with_reducible first | apply ag | apply ac | apply af | apply ae | apply ab)
    refine a5 (σ := Nat) (fun j ρ w' => j ≤ W.length ∧ ρ 0 = .pointer (some ⟨bf, 0, none⟩) ∧ ρ 1 = vW ∧ ρ 6 = .pointer (some ⟨b6, 0, none⟩) ∧ ρ 7 = .pointer (some ⟨b7, 0, none⟩) ∧ ρ 9 = .int .i64 ((1 + 2 * j : Nat) : Int) ∧ ∃ R, R.map Rw.v = R0.map Rw.v ∧ MatG R n m (fun i k => ofQ (psh W a P j i k)) ∧ St w0 w' (puB b7 b6 b5 bl n fb a most (gg lf (wI W 0) a) sp ++ mD aC 36 24 bo cs R H)) (fun j => W.length - j) 0
      ⟨Nat.zero_le _, by assumption, by assumption, by assumption, by assumption, rfl, R0, rfl, hR, hS⟩ ?_
    clear hS h0 h1 h6 h7
    rintro j ρ w5 ⟨hj, h0, h1, h6, h7, h9, R1, hv1, hR1, hS⟩
    repeat (with_reducible first | apply ag | apply ac | apply af | apply ae | apply ab)
    refine aj ?_
    refine aa rfl (ah  h9 ?_)
    refine aa rfl (ah  h1 ?_)
    refine aa rfl (aG  rfl (hWd _ _ _ hS) ⟨_, Tryz.underlying47⟩ ?_)
    refine aa rfl (aV  rfl rfl ?_)
    refine ai ?_
    repeat (with_reducible first | apply ag | apply ac | apply af | apply ae | apply ab)
    by_cases hlt : j < W.length
    · refine aD rfl (decide_eq_true (by omega)) ?_
      repeat (with_reducible first | apply ag | apply ac | apply af | apply ae | apply ab)
      have hij := hwo.it j hlt
      have hcj := hwo.cl j hlt
      have hl1 : wI W j < R1.length := by rw [hR1.len]; exact hij
      have htr := bp m fun k => ofQ (psh W a P j (wI W j) k)
      have hcol := psh_col W a P (wC W j) j (fun l hlj => hwo.dif l j hlj hlt)
      have hgp : (tab m fun k => ofQ (psh W a P j (wI W j) k)).getD (wC W j) zRR = ofQ (psh W a P j (wI W j) (wC W j)) := cE _ _ hcj
      have hL1 : L (psh W a P j (wI W j) (wC W j)) ≤ K := by rw [hcol]; exact hLP _ hij _ hcj
      repeat (with_reducible first | apply ag | apply ac | apply af | apply ae | apply ab)
      refine aj ?_
      refine aa rfl (ah  h1 ?_)
      refine aa rfl (ah  h9 ?_)
      refine aa rfl (aX (i := 2 * j + 1)  rfl rfl (hWd _ _ _ hS) (by omega) (by first | omega | (simp; done) | (simp; omega)) cN ?_)
      refine aw rfl (a6 (i := 2 * j + 1) 0  rfl dM (hWd _ _ _ hS) (by first | omega | (simp; done) | (simp; omega)) rfl rfl (.inr rfl) ?_)
      refine aa rfl (am  rfl ?_)
      refine ai ?_
      repeat (with_reducible first | apply ag | apply ac | apply af | apply ae | apply ab)
      rw [hC j]
      repeat (with_reducible first | apply ag | apply ac | apply af | apply ae | apply ab)
      refine bm [(0, .pure), (1, .pure), (2, .pure), (3, .read), (4, .pure), (5, .pure), (6, .pure), (7, .pure), (8, .read), (9, .pure), (10, .read), (11, .pure), (12, .pure), (13, .pure), (14, .pure), (15, .read), (16, .pure), (17, .pure), (18, .pure), (19, .pure), (20, .read), (21, .pure), (22, .read), (23, .pure), (24, .pure), (25, .read), (26, .read), (27, .grow), (28, .pure), (29, .free)] (by kernel_rfl) (by kernel_rfl) hS ?_
      intro wz12 hS hBz12
      refine al rfl rfl (ah  h0 ?_)
      refine al rfl rfl (cL  rfl ?_)
      refine al rfl rfl (aH  rfl et ?_)
      refine aF rfl rfl (gE (k := 3)  rfl gG hS (congrArg some hfb) rfl ?_)
      refine al rfl rfl (ah  h1 ?_)
      refine al rfl rfl (ah  h9 ?_)
      refine al rfl rfl (bG  rfl rfl (IntWalk.i64_in _ (by omega)) ?_)
      refine al rfl rfl (aX (i := 2 * j)  rfl rfl (hWd _ _ _ hS) (by omega) (by first | omega | (simp; done) | (simp; omega)) cN ?_)
      refine aF rfl rfl (a6 (i := 2 * j) 0  rfl dM (hWd _ _ _ hS) (by first | omega | (simp; done) | (simp; omega)) rfl rfl (.inr rfl) ?_)
      refine al rfl rfl (a7 (i := wI W j)  rfl rfl (hI j) hij iA ?_)
      refine aF rfl rfl (ie (puB b7 b6 b5 bl n fb a most (gg lf (wI W 0) a) sp)  rfl cX hS (by omega) (hcr R1 hv1 _ hl1) ?_)
      refine al rfl rfl (ah  rfl ?_)
      refine al rfl rfl (ah  h0 ?_)
      refine al rfl rfl (cL  rfl ?_)
      refine al rfl rfl (aH  rfl et ?_)
      refine aF rfl rfl (gE (k := 3)  rfl gG hS (congrArg some hfb) rfl ?_)
      refine al rfl rfl (ah  h1 ?_)
      refine al rfl rfl (ah  h9 ?_)
      refine al rfl rfl (bG  rfl rfl (IntWalk.i64_in _ (by omega)) ?_)
      refine al rfl rfl (aX (i := 2 * j)  rfl rfl (hWd _ _ _ hS) (by omega) (by first | omega | (simp; done) | (simp; omega)) cN ?_)
      refine aF rfl rfl (a6 (i := 2 * j) 0  rfl dM (hWd _ _ _ hS) (by first | omega | (simp; done) | (simp; omega)) rfl rfl (.inr rfl) ?_)
      refine al rfl rfl (a7 (i := wI W j)  rfl rfl (hI j) hij iA ?_)
      refine aF rfl rfl (ie (puB b7 b6 b5 bl n fb a most (gg lf (wI W 0) a) sp)  rfl cX hS (by omega) (hcr R1 hv1 _ hl1) ?_)
      refine al rfl rfl (ah  rfl ?_)
      refine al rfl rfl (aX (i := wC W j)  rfl rfl (hR1.slD (puB b7 b6 b5 bl n fb a most (gg lf (wI W 0) a) sp) hS bg hij) (by omega) (by first | omega | (simp; done) | (simp; omega)) bH ?_)
      refine aF rfl rfl (a6 (i := wC W j) zRR  rfl ax (hR1.slD (puB b7 b6 b5 bl n fb a most (gg lf (wI W 0) a) sp) hS bg hij) (by first | omega | (simp; done) | (simp; omega)) rfl rfl (.inl rfl) ?_)
      refine aF rfl rfl (aB (k := 0)  h7 ax hS rfl rfl rfl (.inl rfl) ?_)
      refine aS rfl rfl (av Tryz.call14 rfl (iu ((tab m fun k => ofQ (psh W a P j (wI W j) k)).getD (wC W j) zRR) (ofQ a) _ (by rw [hgp, Lr_ofQ, Lr_ofQ]; omega)) ?_)
      rintro r w6 ⟨rfl, hB6⟩
      refine ⟨hB6, ?_⟩
      replace hS := hS.grow hB6
      rw [hgp, toQ_ofQ, toQ_ofQ]
      refine al rfl rfl (a7 (i := wC W j) rfl rfl (by omega) (by rw [hR1.xlen hij]; exact hcj) bH ?_)
      refine bJ rfl rfl (s_mstD (puB b7 b6 b5 bl n fb a most (gg lf (wI W 0) a) sp) (i := wI W j) (j := wC W j) (ofQ (psh W a P j (wI W j) (wC W j) + a)) bg  rfl rfl ax hS rfl hl1 (by omega) (by rw [hR1.xlen hij]; exact hcj) rfl rfl ?_)
      intro wz13 hS
      refine bC ?_
      repeat (with_reducible first | apply ag | apply ac | apply af | apply ae | apply ab)
      have hv2 := map_put_v R1 (wC W j) (ofQ (psh W a P j (wI W j) (wC W j) + a)) hl1
      rw [hv1] at hv2
      have hR2 := put_upP (d := a) (j := wC W j) hR1 hij
      obtain ⟨R2, hR2e⟩ : ∃ R2, R2 = R1.set (wI W j) ((R1.getD (wI W j) zRw).put (wC W j) (ofQ (psh W a P j (wI W j) (wC W j) + a))) := ⟨_, rfl⟩
      rw [← hR2e] at hS hv2 hR2
      repeat (with_reducible first | apply ag | apply ac | apply af | apply ae | apply ab)
      refine aj ?_
      refine aa rfl (ah  h9 ?_)
      refine aa rfl (aK  rfl rfl (IntWalk.i64_in _ (by omega)) ?_)
      refine aa rfl (ah  h1 ?_)
      refine aa rfl (aG  rfl (hWd _ _ _ hS) ⟨_, Tryz.underlying47⟩ ?_)
      refine aa rfl (aV  rfl rfl ?_)
      refine ai ?_
      repeat (with_reducible first | apply ag | apply ac | apply af | apply ae | apply ab)
      by_cases hlt2 : j + 1 < W.length
      · refine aD rfl (decide_eq_true (by omega)) ?_
        repeat (with_reducible first | apply ag | apply ac | apply af | apply ae | apply ab)
        obtain ⟨Q, hQ⟩ : ∃ Q, Q = upP (psh W a P j) (wI W j) (wC W j) a := ⟨_, rfl⟩
        have hps : psh W a P (j + 1) = upP Q (wI W (j + 1)) (wC W j) (-a) := by rw [hQ]; exact if_pos hlt2
        have hi2 := hwo.it (j + 1) hlt2
        have hl2 : wI W (j + 1) < R2.length := by rw [hR2.len]; exact hi2
        have hLq : L (Q (wI W (j + 1)) (wC W j)) ≤ 2 * K + 1 := by
          have g1 := hLP _ hi2 _ hcj
          have g2 := jh (P (wI W (j + 1)) (wC W j)) a
          rw [hQ]
          unfold upP
          rw [hcol]
          split <;> omega
        rw [← hQ] at hR2
        have htq := bp m fun k => ofQ (Q (wI W (j + 1)) k)
        have hgq : (tab m fun k => ofQ (Q (wI W (j + 1)) k)).getD (wC W j) zRR = ofQ (Q (wI W (j + 1)) (wC W j)) := cE _ _ hcj
        repeat (with_reducible first | apply ag | apply ac | apply af | apply ae | apply ab)
        refine bm [(0, .pure), (1, .pure), (2, .pure), (3, .read), (4, .pure), (5, .pure), (6, .pure), (7, .pure), (8, .read), (9, .pure), (10, .read), (11, .pure), (12, .pure), (13, .pure), (14, .pure), (15, .read), (16, .pure), (17, .pure), (18, .pure), (19, .pure), (20, .read), (21, .pure), (22, .read), (23, .pure), (24, .pure), (25, .read), (26, .read), (27, .grow), (28, .pure), (29, .free)] (by kernel_rfl) (by kernel_rfl) hS ?_
        intro wz14 hS hBz14
        refine al rfl rfl (ah  h0 ?_)
        refine al rfl rfl (cL  rfl ?_)
        refine al rfl rfl (aH  rfl et ?_)
        refine aF rfl rfl (gE (k := 3)  rfl gG hS (congrArg some hfb) rfl ?_)
        refine al rfl rfl (ah  h1 ?_)
        refine al rfl rfl (ah  h9 ?_)
        refine al rfl rfl (aK  rfl rfl (IntWalk.i64_in _ (by omega)) ?_)
        refine al rfl rfl (aX (i := 2 * (j + 1))  rfl rfl (hWd _ _ _ hS) (by omega) (by first | omega | (simp; done) | (simp; omega)) cN ?_)
        refine aF rfl rfl (a6 (i := 2 * (j + 1)) 0  rfl dM (hWd _ _ _ hS) (by first | omega | (simp; done) | (simp; omega)) rfl rfl (.inr rfl) ?_)
        refine al rfl rfl (a7 (i := wI W (j + 1))  rfl rfl (hI (j + 1)) hi2 iA ?_)
        refine aF rfl rfl (ie (puB b7 b6 b5 bl n fb a most (gg lf (wI W 0) a) sp)  rfl cX hS (by omega) (hcr R2 hv2 _ hl2) ?_)
        refine al rfl rfl (ah  rfl ?_)
        refine al rfl rfl (ah  h0 ?_)
        refine al rfl rfl (cL  rfl ?_)
        refine al rfl rfl (aH  rfl et ?_)
        refine aF rfl rfl (gE (k := 3)  rfl gG hS (congrArg some hfb) rfl ?_)
        refine al rfl rfl (ah  h1 ?_)
        refine al rfl rfl (ah  h9 ?_)
        refine al rfl rfl (aK  rfl rfl (IntWalk.i64_in _ (by omega)) ?_)
        refine al rfl rfl (aX (i := 2 * (j + 1))  rfl rfl (hWd _ _ _ hS) (by omega) (by first | omega | (simp; done) | (simp; omega)) cN ?_)
        refine aF rfl rfl (a6 (i := 2 * (j + 1)) 0  rfl dM (hWd _ _ _ hS) (by first | omega | (simp; done) | (simp; omega)) rfl rfl (.inr rfl) ?_)
        refine al rfl rfl (a7 (i := wI W (j + 1))  rfl rfl (hI (j + 1)) hi2 iA ?_)
        refine aF rfl rfl (ie (puB b7 b6 b5 bl n fb a most (gg lf (wI W 0) a) sp)  rfl cX hS (by omega) (hcr R2 hv2 _ hl2) ?_)
        refine al rfl rfl (ah  rfl ?_)
        refine al rfl rfl (aX (i := wC W j)  rfl rfl (hR2.slD (puB b7 b6 b5 bl n fb a most (gg lf (wI W 0) a) sp) hS bg hi2) (by omega) (by first | omega | (simp; done) | (simp; omega)) bH ?_)
        refine aF rfl rfl (a6 (i := wC W j) zRR  rfl ax (hR2.slD (puB b7 b6 b5 bl n fb a most (gg lf (wI W 0) a) sp) hS bg hi2) (by first | omega | (simp; done) | (simp; omega)) rfl rfl (.inl rfl) ?_)
        refine aF rfl rfl (aB (k := 0)  h7 ax hS rfl rfl rfl (.inl rfl) ?_)
        refine aS rfl rfl (av Tryz.call29 rfl (cK ((tab m fun k => ofQ (Q (wI W (j + 1)) k)).getD (wC W j) zRR) (ofQ a) _ (by rw [hgq, Lr_ofQ, Lr_ofQ]; omega)) ?_)
        rintro r w7 ⟨rfl, hB7⟩
        refine ⟨hB7, ?_⟩
        replace hS := hS.grow hB7
        rw [hgq, toQ_ofQ, toQ_ofQ, Rat.sub_eq_add_neg]
        refine al rfl rfl (a7 (i := wC W j) rfl rfl (by omega) (by rw [hR2.xlen hi2]; exact hcj) bH ?_)
        refine bJ rfl rfl (s_mstD (puB b7 b6 b5 bl n fb a most (gg lf (wI W 0) a) sp) (i := wI W (j + 1)) (j := wC W j) (ofQ (Q (wI W (j + 1)) (wC W j) + -a)) bg  rfl rfl ax hS rfl hl2 (by omega) (by rw [hR2.xlen hi2]; exact hcj) rfl rfl ?_)
        intro wz15 hS
        refine bC ?_
        repeat (with_reducible first | apply ag | apply ac | apply af | apply ae | apply ab)
        have hv3 := map_put_v R2 (wC W j) (ofQ (Q (wI W (j + 1)) (wC W j) + -a)) hl2
        rw [hv2] at hv3
        have hR3 := put_upP (d := -a) (j := wC W j) hR2 hi2
        rw [← hps] at hR3
        repeat (with_reducible first | apply ag | apply ac | apply af | apply ae | apply ab)
        refine aj ?_
        refine aa rfl (ah  h9 ?_)
        refine aa rfl (aK  rfl rfl (IntWalk.i64_in _ (by omega)) ?_)
        refine aa rfl (am  rfl ?_)
        refine ai ?_
        repeat (with_reducible first | apply ag | apply ac | apply af | apply ae | apply ab)
        exact ⟨j + 1, _, rfl, ⟨hlt, by assumption, by assumption, by assumption, by assumption, vi rfl (by omega), _, hv3, hR3, hS⟩, by omega⟩
      · refine aN rfl (decide_eq_false (by omega)) ?_
        repeat (with_reducible first | apply ag | apply ac | apply af | apply ae | apply ab)
        have hps : psh W a P (j + 1) = upP (psh W a P j) (wI W j) (wC W j) a := if_neg hlt2
        rw [← hps] at hR2
        repeat (with_reducible first | apply ag | apply ac | apply af | apply ae | apply ab)
        refine aj ?_
        refine aa rfl (ah  h9 ?_)
        refine aa rfl (aK  rfl rfl (IntWalk.i64_in _ (by omega)) ?_)
        refine aa rfl (am  rfl ?_)
        refine ai ?_
        repeat (with_reducible first | apply ag | apply ac | apply af | apply ae | apply ab)
        exact ⟨j + 1, _, rfl, ⟨hlt, by assumption, by assumption, by assumption, by assumption, vi rfl (by omega), _, hv2, hR2, hS⟩, by omega⟩
    · refine aN rfl (decide_eq_false (by omega)) ?_
      repeat (with_reducible first | apply ag | apply ac | apply af | apply ae | apply ab)
      refine aU ?_
      repeat (with_reducible first | apply aA | apply az | refine ay rfl ?_)
      repeat (with_reducible first | apply ag | apply ac | apply af | apply ae | apply ab)
      obtain rfl : j = W.length := by omega
      exact ⟨_, rfl, h6, h7, R1, hv1, hR1, hS⟩
  clear hS h0 h1 h6 h7
  rintro ρ w5 ⟨h6, h7, R1, hv1, hR1, hS⟩
  repeat (with_reducible first | apply ag | apply ac | apply af | apply ae | apply ab)
  refine aj ?_
  refine aw rfl (aB (k := 0)  h7 ax hS rfl rfl rfl (.inl rfl) ?_)
  refine ak rfl (a8 (k := 1)  h6 rfl ax hS rfl rfl rfl (Nat.le_of_ble_eq_true rfl) rfl ?_)
  intro wz16 hS
  refine ai ?_
  repeat (with_reducible first | apply ag | apply ac | apply af | apply ae | apply ab)
  refine aE ?_
  repeat (with_reducible first | apply ap | apply ao)
  refine bN (k := 1) rfl h6 ax hS rfl rfl ?_
  exact ⟨rfl, R1, hv1, hR1, hS.drop (((List.sublist_cons_self _ _).trans (List.sublist_cons_self _ _)).trans (List.sublist_cons_self _ _))⟩
end Go.Proofs.YtmghobajmhdbfaaGreatDoor
namespace Go.Sx
open Go Go.RowKit Go.Proofs.YtmghobajmhdbfaaGreatDoor
theorem MatG_snoc {α : Type} {R : List (Rw α)} {i m : Nat} {f : Nat → Nat → α} (h : MatG R i m f) {r : Rw α} (hX : r.X = tab m (f i)) (hc : m ≤ r.cap ∧ r.cap ≤ 9223372036854775807) : MatG (R ++ [r]) (i + 1) m f := by
  have hg : ∀ a, (R ++ [r]).getD a zRw = if a < i then R.getD a zRw else if a = i then r else zRw := by
    intro a
    rw [List.getD_eq_getElem?_getD]
    by_cases e : a < i
    · rw [if_pos e, List.getElem?_append_left (by rw [h.len]; exact e), List.getD_eq_getElem?_getD]
    · rw [if_neg e, List.getElem?_append_right (by rw [h.len]; omega), h.len]
      by_cases e2 : a = i
      · rw [if_pos e2, e2, Nat.sub_self]; rfl
      · rw [if_neg e2, List.getElem?_eq_none (by simp; omega)]; rfl
  refine ⟨by rw [List.length_append, h.len]; rfl, fun a ha => ?_, fun a ha => ?_⟩
  · rw [hg]
    by_cases e : a < i
    · rw [if_pos e]; exact h.row a e
    · obtain rfl : a = i := by omega
      rw [if_neg e, if_pos rfl]; exact hX
  · rw [hg]
    by_cases e : a < i
    · rw [if_pos e]; exact h.cap a e
    · obtain rfl : a = i := by omega
      rw [if_neg e, if_pos rfl]; exact hc
theorem gZ {α : Type} {enc : α → List Value} {tR tS : TypeId} {bo : Nat} {cs : List Value} {R : List (Rw α)} {H : List Blk} (LW A : List Blk) : (LW ++ (A ++ mD enc tR tS bo cs R H)).Perm (A ++ mD enc tR tS bo cs R (LW ++ H)) := by
  have e : ∀ T, A ++ mD enc tR tS bo cs R T = (A ++ (bo, tS, cs) :: R.map (Rw.blk enc tR)) ++ T := fun T => by rw [List.append_assoc]; rfl
  rw [e H, e (LW ++ H)]
  exact List.perm_append_comm_assoc _ _ _
theorem drop_mD {α : Type} {enc : α → List Value} {tR tS : TypeId} {bo : Nat} {cs : List Value} {R : List (Rw α)} {H H' : List Blk} (A : List Blk) (h : H'.Sublist H) : (A ++ mD enc tR tS bo cs R H').Sublist (A ++ mD enc tR tS bo cs R H) := by
  unfold mD
  exact List.Sublist.append (List.Sublist.refl _) (List.Sublist.cons_cons _ (List.Sublist.append (List.Sublist.refl _) h))
end Go.Sx
namespace Go.Proofs.YtmghobajmhdbfaaGreatDoor
open Go Go.RowKit Go.Sx
section
variable {X : List It} {owed : List RR} {D : Nat}
theorem Mu.tot (h1 : ∀ i, i < X.length → Mu D (prF X i)) (h2 : ∀ c, c < owed.length → Mu D (owF owed c)) (c : Nat) : Mu D (c8 X owed c) := by
  have hc : ∀ s j, Mu D (cJ X owed s j) := fun s j => (Mu.sumIf h1).add (Mu.sumIf h2)
  have hp : ∀ k, Mu D (bR X owed k) := fun k => by
    unfold bR
    split
    · exact Mu.zero
    · unfold dL
      obtain ⟨i, _, e⟩ := fK (cJ X owed fun i => decide (i < k)) (2 ^ X.length)
      rw [e]; exact hc _ _
  exact (hp _).sub (hp _)
theorem totF_pos (hp : Pos owed) (c : Nat) : 0 ≤ c8 X owed c := by
  have h := capQ_mono (X := X) hp (s := fun i => decide (i < c)) (t := fun i => decide (i < c + 1)) (fun k _ h => by simp only [decide_eq_true_eq] at h ⊢; omega)
  rw [← iG, ← iG] at h
  unfold c8
  grind
theorem den_all {K : Nat} (hX : ItB K X) (ho : RB K owed) (hX8 : X.length ≤ 8) (ho24 : owed.length ≤ 24) : ∃ D, 0 < D ∧ sz D ≤ 32 * (2 * K + 1) + 1 ∧ (∀ i, i < X.length → Mu D (prF X i)) ∧ ∀ c, c < owed.length → Mu D (owF owed c) := by
  obtain ⟨D, h1, h2, h3⟩ := comm_den (K := 2 * K + 1) (tab X.length (prF X) ++ tab owed.length (owF owed)) (fun q hq => by
    rcases List.mem_append.1 hq with h | h
    · obtain ⟨i, hi, rfl⟩ := List.mem_map.1 h
      exact ij hX (List.mem_range.1 hi)
    · obtain ⟨i, hi, rfl⟩ := List.mem_map.1 h
      have := ix ho (List.mem_range.1 hi)
      omega)
  refine ⟨D, h1, Nat.le_trans h2 ?_, fun i hi => h3 _ (List.mem_append_left _ (List.mem_map.2 ⟨i, List.mem_range.2 hi, rfl⟩)), fun i hi => h3 _ (List.mem_append_right _ (List.mem_map.2 ⟨i, List.mem_range.2 hi, rfl⟩))⟩
  rw [List.length_append, bp, bp]
  have : (X.length + owed.length) * (2 * K + 1) ≤ 32 * (2 * K + 1) := Nat.mul_le_mul_right _ (by omega)
  omega
theorem le_natAbs (q : Rat) : q ≤ ((q.num.natAbs : Nat) : Rat) := by
  have h1 : q * (q.den : Rat) = (q.num : Rat) := by
    have h : (q.den : Rat) ≠ 0 := by
      have := Rat.natCast_pos.2 q.den_pos
      grind
    have := Rat.div_mul_cancel (a := (q.num : Rat)) h
    rwa [← Rat.mkRat_eq_div, Rat.mkRat_self] at this
  have h2 : (1 : Rat) ≤ (q.den : Rat) := by
    have : ((1 : Nat) : Rat) ≤ ((q.den : Nat) : Rat) := Rat.natCast_le_natCast.2 q.den_pos
    exact this
  have h3 : (q.num : Rat) ≤ ((q.num.natAbs : Nat) : Rat) := by
    rw [← Rat.intCast_natCast, Rat.intCast_le_intCast]; omega
  by_cases h0 : 0 ≤ q
  · have h4 : q * 1 ≤ q * (q.den : Rat) := Rat.mul_le_mul_of_nonneg_left h2 h0
    grind
  · have : (0 : Rat) ≤ ((q.num.natAbs : Nat) : Rat) := Rat.natCast_nonneg
    grind
theorem Mu.sizeQ (hD : 0 < D) {p q : Rat} (h : Mu D p) (h0 : 0 ≤ p) (hq : p ≤ q) : L p ≤ L q + sz D :=
  Nat.le_trans (h.size hD h0 (Rat.le_trans hq (le_natAbs q))) (Nat.add_le_add_right (iq q) _)
/-- What a distribution that is being made keeps true. -/
structure Dst (X : List It) (owed : List RR) (D c : Nat) (want : Rat) (P : Nat → Nat → Rat) (lf : Nat → Rat) : Prop where
  fl : Fl X.length owed.length (fi X) (prF X) (i6 X owed c want) P lf
  mp : ∀ i, i < X.length → ∀ k, k < owed.length → Mu D (P i k)
  ml : ∀ i, i < X.length → Mu D (lf i)
theorem Fl.got {n m : Nat} {sec : Nat → Nat → Bool} {pr got got' : Nat → Rat} {P : Nat → Nat → Rat} {lf : Nat → Rat} (h : Fl n m sec pr got P lf) (e : ∀ k, k < m → got k = got' k) : Fl n m sec pr got' P lf :=
  ⟨h.p0, h.l0, h.sc, h.row, fun k hk => by rw [h.col k hk, e k hk]⟩
theorem Fl.le {n m : Nat} {sec : Nat → Nat → Bool} {pr got : Nat → Rat} {P : Nat → Nat → Rat} {lf : Nat → Rat} (h : Fl n m sec pr got P lf) {i : Nat} (hi : i < n) : lf i ≤ pr i ∧ ∀ k, k < m → P i k ≤ pr i := by
  have hr := h.row i hi
  have h0 := h.l0 i hi
  have hs := eR (n := m) (p := tt) (f := P i) fun k hk => h.p0 i hi k hk
  refine ⟨by grind, fun k hk => ?_⟩
  have h1 := eY (n := m) (p := tt) (f := P i) (g := fun b => if b = k then 0 else P i b) hk fun b _ hb => if_neg hb
  have h2 : 0 ≤ sumIf m tt (fun b => if b = k then 0 else P i b) := eR fun b hb => by
    have := h.p0 i hi b hb
    show 0 ≤ if b = k then 0 else P i b
    split
    · exact Rat.le_refl
    · exact this
  rw [if_pos (show tt k = true from rfl), if_pos rfl] at h1
  grind
theorem Dst.start (hm : ∀ i, i < X.length → Mu D (prF X i)) : Dst X owed D 0 (c8 X owed 0) (fun _ _ => 0) (prF X) := by
  refine ⟨⟨fun _ _ _ _ => Rat.le_refl, fun i _ => prF_nonneg X i, fun _ _ _ _ _ => rfl, fun i _ => ?_, fun k _ => ?_⟩, fun _ _ _ _ => Mu.zero, hm⟩
  · rw [fJ (fun _ _ _ => rfl), Rat.add_zero]
  · rw [fJ (fun _ _ _ => rfl)]
    unfold i6
    rw [if_neg (Nat.not_lt_zero _)]
    split
    · grind
    · rfl
theorem Dst.next {c : Nat} {want : Rat} {P : Nat → Nat → Rat} {lf : Nat → Rat} (h : Dst X owed D c want P lf) (hw : want = 0) : Dst X owed D (c + 1) (c8 X owed (c + 1)) P lf := by
  refine ⟨h.fl.got fun k _ => ?_, h.mp, h.ml⟩
  unfold i6
  subst hw
  by_cases h1 : k < c
  · rw [if_pos h1, if_pos (by omega)]
  · rw [if_neg h1]
    by_cases h2 : k = c
    · rw [if_pos h2, if_pos (by omega), h2]; grind
    · rw [if_neg h2, if_neg (by omega)]
      split
      · grind
      · rfl
theorem Dst.size {K c : Nat} {want : Rat} {P : Nat → Nat → Rat} {lf : Nat → Rat} (h : Dst X owed D c want P lf) (hX : ItB K X) (hD : 0 < D) (hDs : sz D ≤ 32 * (2 * K + 1) + 1) :
    (∀ i, i < X.length → ∀ k, k < owed.length → L (P i k) ≤ 144 * K + 124) ∧ ∀ i, i < X.length → L (lf i) ≤ 144 * K + 124 := by
  refine ⟨fun i hi k hk => ?_, fun i hi => ?_⟩
  · have := (h.mp i hi k hk).sizeQ hD (h.fl.p0 i hi k hk) ((h.fl.le hi).2 k hk)
    have := ij hX hi
    omega
  · have := (h.ml i hi).sizeQ hD (h.fl.l0 i hi) (h.fl.le hi).1
    have := ij hX hi
    omega
theorem Dst.push {c : Nat} {want : Rat} {P : Nat → Nat → Rat} {lf : Nat → Rat} {W : List Pr2} (h : Dst X owed D c want P lf) (hw : WayOk X.length owed.length (fi X) P lf c W) (hpos : 0 < want) (hM : Mu D want) {a : Rat} (ha : a = amt W P lf want (W.length - 1)) :
    Dst X owed D c (want - a) (psh W a P W.length) (gg lf (wI W 0) a) ∧ 0 < a ∧ a ≤ want ∧ Mu D a := by
  have hne := hw.ne
  obtain ⟨h1, h2, h3, h4⟩ := amt_ok hw hpos (W.length - 1) (by omega)
  have hMa : Mu D (amt W P lf want (W.length - 1)) := Mu.amt hM (h.ml _ (hw.it 0 hne)) _ fun l hl => h.mp _ (hw.it (l + 1) (by omega)) _ (hw.cl l (by omega))
  rw [← ha] at h1 h2 h3 h4 hMa
  have hf := h.fl.push hw (Rat.le_of_lt h1) h3 fun l hl => h4 l (by omega)
  refine ⟨⟨hf.got fun k _ => ?_, Mu.psh h.mp hMa _, fun i hi => ?_⟩, h1, h2, hMa⟩
  · unfold i6
    by_cases e1 : k < c
    · rw [if_pos e1, if_pos e1, if_neg (by omega), Rat.add_zero]
    · rw [if_neg e1, if_neg e1]
      split
      · grind
      · grind
  · unfold gg
    split
    · exact (h.ml i hi).sub hMa
    · exact h.ml i hi
end
section
variable {w0 w : World} {bf bo bl n m capP capL : Nat} {vP vO vI : Value} {tF tR tS : TypeId} {P : Nat → Nat → Rat} {lf : Nat → Rat} {R : List (Rw RR)} {so sp : List Value} {H : List Blk} {ow : List RR} {Rm : List Nat}
/-- The flow's own blocks. -/
def flB (bf bo bl n capP capL : Nat) (vP vO vI : Value) (tF tR : TypeId) (lf : Nat → Rat) (sp : List Value) : List Blk :=
  [(bf, tF, [vP, vO, vI, .slice (some ⟨bo, 0, none⟩) n capP, .slice (some ⟨bl, 0, none⟩) n capL]), (bl, tR, (tab n fun i => ofQ (lf i)).flatMap aC ++ sp)]
theorem flM_of (pre : List Blk) (hS : St w0 w (pre ++ (flB bf bo bl n capP capL vP vO vI tF tR lf sp ++ mD aC tR tS bo (R.map Rw.v ++ so) R H))) (hR : MatG R n m fun i k => ofQ (P i k)) (hO : Sl aC 3 w vO ow) (hol : ow.length = m) (hI : Sl (uk .u64) 1 w vI Rm)
    (h1 : n ≤ capP) (h2 : capP ≤ 9223372036854775807) (h3 : n ≤ capL) (h4 : capL ≤ 9223372036854775807) : FlM w bf vP vO vI (.slice (some ⟨bo, 0, none⟩) n capP) (.slice (some ⟨bl, 0, none⟩) n capL) (R.map Rw.v) n m ow Rm P lf := by
  refine ⟨hS.at (k := pre.length + 0) (by rw [iT]; rfl) 0 5, hO, hol, hI, hR.mtsD (pre ++ flB bf bo bl n capP capL vP vO vI tF tR lf sp) (by rw [List.append_assoc]; exact hS) bg h1 h2, ?_⟩
  have := hS.slg (k := pre.length + 1) (enc := aC) (L := tab n fun i => ofQ (lf i)) (by rw [iT]; rfl) bg (n := n) (cap := capL) (by rw [bp]; exact Nat.le_refl _) h3 h4
  rwa [List.take_of_length_le (by rw [bp]; exact Nat.le_refl _)] at this
end
end Go.Proofs.YtmghobajmhdbfaaGreatDoor
namespace Go.Sx
open Go Go.RowKit
section
variable {P : Program} {N : Nat} {ρ : Nat → Value} {w0 w w' : World} {d : Option Tmp} {ty : TypeId} {pos : String} {aft : Array Edge} {g : Option (Nat × Bool)} {x y z : Operand} {t t' e : TypeId} {H L : List Blk} {b : Nat} {cs : List Value} {v : Value} {K : Value → Prop} {K2 : Value → World → Prop}
theorem s_eqnil {a : Option Addr} {n c : Nat} (hx : ev N ρ x = .slice a n c) (hy : ev N ρ y = .slice none 0 0) (ht : ∃ e, P.underlying t = some (.slice e)) (h : K (.bool a.isNone)) : bP P N ρ ⟨d, .binOp .eql t x y t', ty, pos, aft, g⟩ K := by
  obtain ⟨e, ht⟩ := ht
  refine ⟨.bool a.isNone, fun w => ?_, h⟩
  have h2 : (binOp .eql t (.slice a n c) (.slice none 0 0)).run P w = .ok (.bool a.isNone) w := by
    have h4 : ∀ k, (Op.equalIn (k + 1) t (.slice a n c) (.slice none 0 0)).run P w = .ok a.isNone w := fun k => by cases a <;> simp [Op.equalIn, run_underlying ht]
    have h3 := h4 9999
    simp only [binOp]
    simp [Op.equal, Op.maxDepth, h3]
  simp only [execOp, hx, hy, Sem.run_bind]
  have h1 : (eqGuard .eql t x y (.slice a n c) (.slice none 0 0)).run P w = .ok () w := rfl
  rw [h1, Result.andThen_ok, h2, Result.andThen_ok]
  rfl
end
section
variable {P : Program} {N : Nat} {ρ : Nat → Value} {w0 w : World} {H : List Blk} {k b : Nat} {t : TypeId} {cs : List Value}
end
end Go.Sx
namespace Go.Sx
open Go Go.RowKit
section
variable {P : Program} {ops : Array Oper} {Kend : Act → World → Prop}
/-- Does operation i wait for none of those that are left? -/
def gf (ops : Array Oper) (U : List (Nat × Md)) (i : Nat) : Bool := match ops[i]? with
  | some o => o.after.all fun e => !Region.binds .any e || !(U.any fun y => Nat.beq y.1 e.on)
  | none => false
def del (U : List (Nat × Md)) (i : Nat) : List (Nat × Md) := U.filter fun y => !Nat.beq y.1 i
theorem mem_del {U : List (Nat × Md)} {i : Nat} {y : Nat × Md} : y ∈ del U i ↔ y ∈ U ∧ y.1 ≠ i := by
  unfold del
  rw [List.mem_filter]
  constructor
  · rintro ⟨h1, h2⟩
    refine ⟨h1, fun e => ?_⟩
    rw [e] at h2
    simp at h2
  · rintro ⟨h1, h2⟩
    refine ⟨h1, ?_⟩
    rw [Bool.not_eq_true']
    cases hb : Nat.beq y.1 i with
    | false => rfl
    | true => exact absurd (Nat.eq_of_beq_eq_true hb) h2
theorem del_comm (U : List (Nat × Md)) (i j : Nat) : del (del U i) j = del (del U j) i := by
  unfold del
  rw [List.filter_filter, List.filter_filter]
  congr 1
  funext y
  exact Bool.and_comm _ _
theorem rdy_mono {U V : List (Nat × Md)} (h : ∀ y ∈ V, y ∈ U) {i : Nat} (hr : gf ops U i = true) : gf ops V i = true := by
  unfold gf at *
  cases ho : ops[i]? with
  | none => rw [ho] at hr; cases hr
  | some o =>
    rw [ho] at hr
    simp only at hr ⊢
    rw [Array.all_eq_true'] at hr ⊢
    intro e he
    have := hr e he
    rw [Bool.or_eq_true] at this ⊢
    rcases this with q | q
    · exact .inl q
    · right
      rw [Bool.not_eq_true'] at q ⊢
      rw [List.any_eq_false] at q ⊢
      exact fun y hy => q y (h y hy)
theorem rdy_some {U : List (Nat × Md)} {i : Nat} (hr : gf ops U i = true) : ∃ o, ops[i]? = some o ∧ ∀ e ∈ o.after, Region.binds .any e = true → ∀ y ∈ U, y.1 ≠ e.on := by
  unfold gf at hr
  cases ho : ops[i]? with
  | none => rw [ho] at hr; cases hr
  | some o =>
    rw [ho] at hr
    simp only at hr
    rw [Array.all_eq_true'] at hr
    refine ⟨o, rfl, fun e he hb y hy q => ?_⟩
    have := hr e he
    rw [hb, Bool.not_true, Bool.false_or, Bool.not_eq_true', List.any_eq_false] at this
    exact this y hy (by rw [q]; simp)
def jp (P : Program) (ops : Array Oper) (Kend : Act → World → Prop) : Nat → List (Nat × Md) → Act → World → Prop
  | 0, U, a, w => U = [] ∧ Kend a w
  | n + 1, U, a, w => (U = [] → Kend a w) ∧ ∀ x ∈ U, gf ops U x.1 = true → ∃ o, ops[x.1]? = some o ∧ bK P ops x.2 o a w (jp P ops Kend n (del U x.1))
/-- The edges point back. -/
def jq (ops : Array Oper) : Bool := (List.range ops.size).all fun i => match ops[i]? with
  | some o => o.after.all fun e => !Region.binds .any e || Nat.blt e.on i
  | none => true
theorem low_at (h : jq ops = true) {i : Nat} {o : Oper} (hi : ops[i]? = some o) : ∀ e ∈ o.after, Region.binds .any e = true → e.on < i := by
  intro e he hb
  have hlt : i < ops.size := by
    rcases Nat.lt_or_ge i ops.size with q | q
    · exact q
    · rw [Array.getElem?_eq_none q] at hi; cases hi
  have := List.all_eq_true.1 h i (List.mem_range.2 hlt)
  rw [hi] at this
  have := Array.all_eq_true'.1 this e he
  rw [hb, Bool.not_true, Bool.false_or, Nat.blt_eq] at this
  exact this
theorem rdy_ex (hlow : jq ops = true) {U : List (Nat × Md)} (hU : ∀ y ∈ U, y.1 < ops.size) : ∀ k m, (k, m) ∈ U → ∃ x ∈ U, gf ops U x.1 = true := by
  intro k
  induction k using Nat.strongRecOn with
  | _ k ih =>
    intro m hm
    by_cases hr : gf ops U k = true
    · exact ⟨_, hm, hr⟩
    · have hk := hU _ hm
      have ho : ops[k]? = some ops[k] := Array.getElem?_eq_getElem hk
      unfold gf at hr
      rw [ho] at hr
      simp only at hr
      rw [Array.all_eq_true'] at hr
      have : ∃ e ∈ ops[k].after, ¬ (!Region.binds .any e || !(U.any fun y => Nat.beq y.1 e.on)) = true := by
        refine Classical.byContradiction fun hc => hr fun e he => ?_
        exact Classical.byContradiction fun hn => hc ⟨e, he, hn⟩
      obtain ⟨e, he, hn⟩ := this
      rw [Bool.or_eq_true, not_or] at hn
      obtain ⟨h1, h2⟩ := hn
      have hb : Region.binds .any e = true := by simpa using h1
      have h3 : (U.any fun y => Nat.beq y.1 e.on) = true := by simpa using h2
      obtain ⟨y, hy, hyb⟩ := List.any_eq_true.1 h3
      have hye := Nat.eq_of_beq_eq_true hyb
      obtain ⟨y1, y2⟩ := y
      simp only at hye
      exact ih y1 (by rw [hye]; exact low_at hlow ho e he hb) y2 hy
theorem wpAny_of_allo {Q : Exit → Act → World → Prop} (hQ : ∀ a w, Kend a w → Q .normal a w) (hlow : jq ops = true) :
    ∀ (n : Nat) (U : List (Nat × Md)) (listed : Array Bool) (a : Act) (w : World), listed.size = ops.size → (∀ i, listed.getD i true = false ↔ ∃ m, (i, m) ∈ U) → (∀ y ∈ U, y.1 < ops.size) → jp P ops Kend n U a w → wpAny P .any ops Q n listed a w := by
  intro n
  induction n with
  | zero =>
    intro U listed a w _ hl _ h
    obtain ⟨rfl, h⟩ := h
    refine ⟨List.eq_nil_iff_forall_not_mem.2 fun i hi => ?_, hQ _ _ h⟩
    obtain ⟨m, hm⟩ := (hl i).1 (mem_ready.1 hi).1
    cases hm
  | succ n ih =>
    intro U listed a w hsz hl hU h
    obtain ⟨h1, h2⟩ := h
    have hrd : ∀ i, listed.getD i true = false → (∀ (o : Oper), ops[i]? = some o → ∀ e ∈ o.after, Region.binds .any e = true → listed.getD e.on false = true) → (∃ o, ops[i]? = some o) → gf ops U i = true := by
      rintro i _ hd ⟨o, ho⟩
      unfold gf
      rw [ho]
      simp only
      rw [Array.all_eq_true']
      intro e he
      cases hb : Region.binds .any e with
      | false => rfl
      | true =>
        rw [Bool.not_true, Bool.false_or, Bool.not_eq_true', List.any_eq_false]
        intro y hy hyb
        have hye := Nat.eq_of_beq_eq_true hyb
        have h3 := hd o ho e he hb
        have h4 := (hl y.1).2 ⟨y.2, hy⟩
        rw [hye] at h4
        rcases Nat.lt_or_ge e.on listed.size with q | q
        · simp only [Array.getD, q, dite_true] at h3 h4
          rw [h3] at h4; cases h4
        · simp [Array.getD, Nat.not_lt.2 q] at h3
    refine ⟨fun hr => ?_, fun i hi => ?_⟩
    · refine hQ _ _ (h1 (List.eq_nil_iff_forall_not_mem.2 fun x hx => ?_))
      obtain ⟨y, hy, hyr⟩ := rdy_ex hlow hU x.1 x.2 hx
      obtain ⟨o, ho, hd⟩ := rdy_some hyr
      have : y.1 ∈ Region.ready .any ops listed := mem_ready.2 ⟨(hl y.1).2 ⟨y.2, hy⟩, o, ho, fun e he hb => by
        have hne := hd e he hb
        have hlt : e.on < listed.size := by
          have := low_at hlow ho e he hb
          have := hU y hy
          omega
        have h5 : ¬ listed.getD e.on true = false := fun g => by
          obtain ⟨m, hm⟩ := (hl e.on).1 g
          exact hne _ hm rfl
        simp only [Array.getD, hlt, dite_true] at h5 ⊢
        simpa using h5⟩
      rw [hr] at this
      cases this
    · obtain ⟨hun, oi, hoi, hdeps⟩ := mem_ready.1 hi
      obtain ⟨m, hm⟩ := (hl i).1 hun
      have hr := hrd i hun (fun o ho => by rw [hoi] at ho; obtain rfl := Option.some.inj ho; exact hdeps) ⟨oi, hoi⟩
      obtain ⟨o, ho, hst⟩ := h2 (i, m) hm hr
      have hilt : i < listed.size := by rw [hsz]; exact hU _ hm
      refine eB ho (bY (fun a w hh => ?_) hst)
      refine ih (del U i) (listed.setIfInBounds i true) a w (by simpa using hsz) ?_ (fun y hy => hU y (mem_del.1 hy).1) hh
      intro j
      by_cases hji : j = i
      · subst hji
        constructor
        · intro hf; simp [Array.getD, hilt] at hf
        · rintro ⟨m', hm'⟩; exact absurd rfl (mem_del.1 hm').2
      · rw [getD_set_ne true (Ne.symm hji), hl j]
        constructor
        · rintro ⟨m', hm'⟩; exact ⟨m', mem_del.2 ⟨hm', hji⟩⟩
        · rintro ⟨m', hm'⟩; exact ⟨m', (mem_del.1 hm').1⟩
theorem rstep_ex {m : Md} {o : Oper} {a : Act} {w : World} {K : Act → World → Prop} (h : bK P ops m o a w K) : ∃ a' w', K a' w' := by
  unfold bK at h
  split at h
  · cases m with
    | pure => obtain ⟨v, _, h⟩ := h; exact ⟨_, _, h⟩
    | read => obtain ⟨v, _, h⟩ := h; exact ⟨_, _, h⟩
    | grow => obtain ⟨v, w', h⟩ := io h; exact ⟨_, _, h.2⟩
    | free => obtain ⟨v, w', h⟩ := io h; exact ⟨_, _, h⟩
  · exact ⟨_, _, h⟩
/-- y waits for i, by operations that are left. -/
inductive Bl (ops : Array Oper) (U : List (Nat × Md)) (i : Nat) : Nat → Prop
  | one {y : Nat} {o : Oper} {e : Edge} : ops[y]? = some o → e ∈ o.after → Region.binds .any e = true → e.on = i → Bl ops U i y
  | far {y : Nat} {o : Oper} {e : Edge} {z : Nat × Md} : ops[y]? = some o → e ∈ o.after → Region.binds .any e = true → e.on = z.1 → z ∈ U → Bl ops U i z.1 → Bl ops U i y
theorem Bl.rdy {i : Nat} {m : Md} {U : List (Nat × Md)} (hm : (i, m) ∈ U) {y : Nat} (h : Bl ops U i y) : gf ops U y ≠ true := by
  intro hr
  obtain ⟨o, ho, hd⟩ := rdy_some hr
  cases h with
  | one h1 h2 h3 h4 =>
    rw [ho] at h1
    obtain rfl := Option.some.inj h1
    exact hd _ h2 h3 _ hm h4.symm
  | far h1 h2 h3 h4 h5 _ =>
    rw [ho] at h1
    obtain rfl := Option.some.inj h1
    exact hd _ h2 h3 _ h5 h4.symm
theorem Bl.del {i : Nat} {m : Md} {U : List (Nat × Md)} (hm : (i, m) ∈ U) {x : Nat} (hx : gf ops U x = true) {y : Nat} (h : Bl ops U i y) : Bl ops (del U x) i y := by
  induction h with
  | one h1 h2 h3 h4 => exact .one h1 h2 h3 h4
  | far h1 h2 h3 h4 h5 h6 ih => exact .far h1 h2 h3 h4 (mem_del.2 ⟨h5, fun e => h6.rdy hm (by rw [e]; exact hx)⟩) ih
def blb (ops : Array Oper) (U : List (Nat × Md)) (i : Nat) : Nat → Nat → Bool
  | 0, _ => false
  | n + 1, y => match ops[y]? with
    | some o => o.after.any fun e => Region.binds .any e && (Nat.beq e.on i || ((U.any fun z => Nat.beq z.1 e.on) && blb ops U i n e.on))
    | none => false
theorem blb_sound {U : List (Nat × Md)} {i : Nat} : ∀ (n y : Nat), blb ops U i n y = true → Bl ops U i y := by
  intro n
  induction n with
  | zero => intro y h; cases h
  | succ n ih =>
    intro y h
    unfold blb at h
    cases ho : ops[y]? with
    | none => rw [ho] at h; cases h
    | some o =>
      rw [ho] at h
      simp only at h
      rw [Array.any_eq_true'] at h
      obtain ⟨e, he, hq⟩ := h
      rw [Bool.and_eq_true, Bool.or_eq_true, Bool.and_eq_true] at hq
      obtain ⟨hb, q | ⟨q, r⟩⟩ := hq
      · exact .one ho he hb (Nat.eq_of_beq_eq_true q)
      · obtain ⟨z, hz, hzb⟩ := List.any_eq_true.1 q
        have e2 := Nat.eq_of_beq_eq_true hzb
        exact .far ho he hb e2.symm hz (by rw [e2]; exact ih _ r)
/-- May (i, m) be taken first? -/
def iV (ops : Array Oper) (x : Nat × Md) (U : List (Nat × Md)) : Bool :=
  gf ops U x.1 && (U.any fun y => Nat.beq y.1 x.1) && U.all fun y => (Nat.beq y.1 x.1 && decide (y.2 = x.2)) || (!Nat.beq y.1 x.1 && (blb ops U x.1 6 y.1 || cz ops x y))
theorem allo_front (hs : f7 ops) {i : Nat} {m : Md} {oi : Oper} (hi : ops[i]? = some oi) :
    ∀ (n : Nat) (U : List (Nat × Md)) (a : Act) (w : World), (i, m) ∈ U → gf ops U i = true → (∀ y ∈ U, y.1 = i → y.2 = m) →
      (∀ y ∈ U, y.1 ≠ i → Bl ops U i y.1 ∨ cz ops (i, m) y = true) →
      bK P ops m oi a w (jp P ops Kend n (del U i)) → jp P ops Kend (n + 1) U a w := by
  intro n
  induction n with
  | zero =>
    intro U a w hm hr hu hsw h
    refine ⟨fun e => (by rw [e] at hm; cases hm), fun x hx hxr => ?_⟩
    by_cases hxi : x.1 = i
    · obtain ⟨x1, x2⟩ := x
      simp only at hxi
      subst hxi
      obtain rfl := hu _ hx rfl
      exact ⟨oi, hi, h⟩
    · exfalso
      obtain ⟨_, _, h3, _⟩ := rstep_ex h
      have := mem_del.2 ⟨hx, hxi⟩
      rw [h3] at this
      cases this
  | succ n ih =>
    intro U a w hm hr hu hsw h
    refine ⟨fun e => (by rw [e] at hm; cases hm), fun x hx hxr => ?_⟩
    by_cases hxi : x.1 = i
    · obtain ⟨x1, x2⟩ := x
      simp only at hxi
      subst hxi
      obtain rfl := hu _ hx rfl
      exact ⟨oi, hi, h⟩
    · obtain ⟨ox, hox, hxd⟩ := rdy_some hxr
      have hsx : cz ops (i, m) x = true := by
        rcases hsw x hx hxi with q | q
        · exact absurd hxr (q.rdy hm)
        · exact q
      refine ⟨ox, hox, ?_⟩
      have h1 : bK P ops m oi a w (fun a w => bK P ops x.2 ox a w (jp P ops Kend n (del (del U i) x.1))) := bY (fun a w g => by
        obtain ⟨o, ho, g⟩ := g.2 x (mem_del.2 ⟨hx, hxi⟩) (rdy_mono (fun y hy => (mem_del.1 hy).1) hxr)
        rw [hox] at ho
        obtain rfl := Option.some.inj ho
        exact g) h
      obtain ⟨x1, x2⟩ := x
      have h2 := jm hi hox (fun cs b => hs i oi cs b hi) (fun cs b => hs x1 ox cs b hox) hsx h1
      refine bY (fun a w g => ?_) h2
      rw [del_comm] at g
      exact ih (del U x1) a w (mem_del.2 ⟨hm, Ne.symm hxi⟩) (rdy_mono (fun y hy => (mem_del.1 hy).1) hr) (fun y hy => hu y (mem_del.1 hy).1) (fun y hy hne => (hsw y (mem_del.1 hy).1 hne).imp (fun q => q.del hm hxr) id) g
end
/-- A region's walk, those of U not yet carried out. -/
structure Wz (P : Program) (ops : Array Oper) (Kend : Act → World → Prop) (n : Nat) (U : List (Nat × Md)) (N : Nat) (ρ : Nat → Value) (w : World) : Prop where
  out : f7 ops → jp P ops Kend n U (act N ρ) w
def je (P : Program) (ops : Array Oper) (Kend : Act → World → Prop) (n : Nat) (U' : List (Nat × Md)) (x : Nat × Md) (N : Nat) (ρ : Nat → Value) (w : World) : Prop :=
  f7 ops → ∃ o, ops[x.1]? = some o ∧ bK P ops x.2 o (act N ρ) w (jp P ops Kend n U')
def zallOk (ops : Array Oper) (n : Nat) (U : List (Nat × Md)) : Bool :=
  Nat.beq ops.size n && decide (U.map (·.1) = List.range n) && jq ops && ops.all fun o => match o.op with | .select .. => false | _ => true
section
variable {P : Program} {N : Nat} {ρ : Nat → Value} {w0 w : World} {Q : Exit → Act → World → Prop} {ops : Array Oper} {H : List Blk} {Kend : Act → World → Prop} {i n : Nat} {o : Oper} {U U' : List (Nat × Md)}
theorem c_all {id : Nat} {l : List Oper} (n : Nat) (U : List (Nat × Md)) (hm : P.follows .mixedOrders = true) (hchk : zallOk l.toArray n U = true) (hS : St w0 w H)
    (h : ∀ w', St w0 w' H → Below w.heap.size w w' → Wz P l.toArray (Q .normal) n U N ρ w') : (Code.region id l.toArray true).wp P Q (act N ρ) w := by
  simp only [zallOk, Bool.and_eq_true, decide_eq_true_eq] at hchk
  obtain ⟨⟨⟨h1, h2⟩, h3⟩, h6⟩ := hchk
  have hsz := Nat.eq_of_beq_eq_true h1
  have hs : f7 l.toArray := by
    intro i o cs b hi hsel
    have := Array.all_eq_true'.1 h6 o (Array.mem_of_getElem? hi)
    rw [hsel] at this
    cases this
  have hbd : Below w.heap.size w { w with drawn := w.drawn + 1 } := (Below.refl _ w).drew
  have hUm : ∀ i, (∃ m, (i, m) ∈ U) ↔ i < n := by
    intro i
    rw [← List.mem_range, ← h2, List.mem_map]
    constructor
    · rintro ⟨m, hm⟩; exact ⟨_, hm, rfl⟩
    · rintro ⟨⟨a, m⟩, hm, rfl⟩; exact ⟨m, hm⟩
  refine wp_region_any hm ?_
  rw [hsz]
  refine wpAny_of_allo (fun _ _ h => h) h3 n U _ _ _ (by simp; simpa using hsz.symm) ?_ (fun y hy => by rw [hsz]; exact (hUm y.1).1 ⟨y.2, hy⟩) ((h _ (hS.grow hbd) hbd).out hs)
  intro i
  rw [hUm]
  constructor
  · intro hf
    rcases Nat.lt_or_ge i n with q | q
    · exact q
    · simp [Array.getD, Nat.not_lt.2 q] at hf
  · intro q
    simp [Array.getD, q]
theorem z_end (h : Kend (act N ρ) w) : Wz P ops Kend n [] N ρ w := ⟨fun _ => by
  cases n with
  | zero => exact ⟨rfl, h⟩
  | succ n => exact ⟨fun _ => h, fun x hx => by cases hx⟩⟩
theorem zfront_spec {x : Nat × Md} (h : iV ops x U = true) : x ∈ U ∧ gf ops U x.1 = true ∧ (∀ y ∈ U, y.1 = x.1 → y.2 = x.2) ∧
    ∀ y ∈ U, y.1 ≠ x.1 → Bl ops U x.1 y.1 ∨ cz ops x y = true := by
  simp only [iV, Bool.and_eq_true] at h
  obtain ⟨⟨h1, h2⟩, h3⟩ := h
  have hu : ∀ y ∈ U, y.1 = x.1 → y.2 = x.2 := fun y hy e => by
    have := List.all_eq_true.1 h3 y hy
    rw [e] at this
    simp at this
    exact this
  refine ⟨?_, h1, hu, fun y hy hne => ?_⟩
  · obtain ⟨y, hy, hb⟩ := List.any_eq_true.1 h2
    have e := Nat.eq_of_beq_eq_true hb
    have e2 := hu y hy e
    obtain ⟨y1, y2⟩ := y
    obtain ⟨x1, x2⟩ := x
    simp only at e e2
    rw [← e, ← e2]; exact hy
  · have := List.all_eq_true.1 h3 y hy
    have hb : Nat.beq y.1 x.1 = false := by
      cases hb : Nat.beq y.1 x.1 with
      | false => rfl
      | true => exact absurd (Nat.eq_of_beq_eq_true hb) hne
    rw [hb, Bool.false_and, Bool.false_or, Bool.not_false, Bool.true_and, Bool.or_eq_true] at this
    rcases this with q | q
    · exact .inl (blb_sound _ _ q)
    · exact .inr q
theorem z_pure {d : Option Tmp} {p : Op} {ty : TypeId} {pos : String} {aft : Array Edge} {g : Option (Nat × Bool)} (hf : iV ops (i, .pure) U = true) (hd : del U i = U') (ho : ops[i]? = some ⟨d, p, ty, pos, aft, g⟩) (hg : gd ops N ρ g = true)
    (h : bP P N ρ ⟨d, p, ty, pos, aft, g⟩ fun v => Wz P ops Kend n U' N (ga ρ d v) w) : Wz P ops Kend (n + 1) U N ρ w := by
  subst hd
  obtain ⟨f1, f2, f3, f4⟩ := zfront_spec hf
  refine ⟨fun hs => allo_front hs ho n U _ _ f1 f2 f3 f4 ?_⟩
  rw [cy (cY ops N ρ ⟨d, p, ty, pos, aft, g⟩ hg), cT]
  obtain ⟨v, h1, h2⟩ := h
  exact ⟨v, h1, by rw [dc]; exact h2.out hs⟩
theorem z_read {d : Option Tmp} {p : Op} {ty : TypeId} {pos : String} {aft : Array Edge} {g : Option (Nat × Bool)} (hf : iV ops (i, .read) U = true) (hd : del U i = U') (ho : ops[i]? = some ⟨d, p, ty, pos, aft, g⟩) (hg : gd ops N ρ g = true)
    (h : eL P N ρ w ⟨d, p, ty, pos, aft, g⟩ fun v => Wz P ops Kend n U' N (ga ρ d v) w) : Wz P ops Kend (n + 1) U N ρ w := by
  subst hd
  obtain ⟨f1, f2, f3, f4⟩ := zfront_spec hf
  refine ⟨fun hs => allo_front hs ho n U _ _ f1 f2 f3 f4 ?_⟩
  rw [en (cY ops N ρ ⟨d, p, ty, pos, aft, g⟩ hg), cT]
  obtain ⟨v, h1, h2⟩ := h
  exact ⟨v, h1, by rw [dc]; exact h2.out hs⟩
theorem i4 {d : Option Tmp} {p : Op} {ty : TypeId} {pos : String} {aft : Array Edge} {g : Option (Nat × Bool)} (ho : ops[i]? = some ⟨d, p, ty, pos, aft, g⟩) (hg : gd ops N ρ g = true)
    (h : Hup1 P N ρ w ⟨d, p, ty, pos, aft, g⟩ fun v w' => Below w.heap.size w w' ∧ Wz P ops Kend n U' N (ga ρ d v) w') : je P ops Kend n U' (i, .grow) N ρ w := fun hs => by
  refine ⟨_, ho, ?_⟩
  rw [dU (cY ops N ρ ⟨d, p, ty, pos, aft, g⟩ hg), cT]
  simp only [dc]
  exact cQ (fun v w h => ⟨h.1, h.2.out hs⟩) h.out
theorem ja {d : Option Tmp} {p : Op} {ty : TypeId} {pos : String} {aft : Array Edge} {g : Option (Nat × Bool)} (ho : ops[i]? = some ⟨d, p, ty, pos, aft, g⟩) (hg : gd ops N ρ g = true)
    (h : Hup1 P N ρ w ⟨d, p, ty, pos, aft, g⟩ fun v w' => Wz P ops Kend n U' N (ga ρ d v) w') : je P ops Kend n U' (i, .free) N ρ w := fun hs => by
  refine ⟨_, ho, ?_⟩
  rw [em (cY ops N ρ ⟨d, p, ty, pos, aft, g⟩ hg), cT]
  simp only [dc]
  exact cQ (fun v w h => Wz.out h hs) h.out
theorem iS {x : Nat × Md} (hR : (U.filter fun y => gf ops U y.1) = [x]) (hd : del U x.1 = U') (h : je P ops Kend n U' x N ρ w) : Wz P ops Kend (n + 1) U N ρ w := by
  subst hd
  refine ⟨fun hs => ⟨fun e => (by rw [e] at hR; cases hR), fun y hy hr => ?_⟩⟩
  have : y ∈ [x] := by rw [← hR]; exact List.mem_filter.2 ⟨hy, hr⟩
  obtain rfl := List.mem_singleton.1 this
  exact h hs
theorem z_two {x y : Nat × Md} {U'' : List (Nat × Md)} (hR : (U.filter fun y => gf ops U y.1) = [x, y]) (hd : del U x.1 = U') (hd' : del U y.1 = U'') (h : je P ops Kend n U' x N ρ w) (h' : je P ops Kend n U'' y N ρ w) : Wz P ops Kend (n + 1) U N ρ w := by
  subst hd hd'
  refine ⟨fun hs => ⟨fun e => (by rw [e] at hR; cases hR), fun z hz hr => ?_⟩⟩
  have : z ∈ [x, y] := by rw [← hR]; exact List.mem_filter.2 ⟨hz, hr⟩
  rcases List.mem_cons.1 this with rfl | this
  · exact h hs
  · obtain rfl := List.mem_singleton.1 this
    exact h' hs
end
end Go.Sx
