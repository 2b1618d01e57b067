/-
  The law of the residue: its walk.
-/
import Derived.Test.YtmapmdldlcfjhaaDoorLawVd
namespace Go.Sx
open Go Go.RowKit
section
variable {P : Program} {ops : Array Oper} {Kend : Act → World → Prop}
/-- Does operation i wait for none of those that are left? -/
def rdyU (ops : Array Oper) (U : List (Nat × Md)) (i : Nat) : Bool := match ops[i]? with
  | some o => o.after.all fun e => !Region.binds .any e || !(U.any fun y => Nat.beq y.1 e.on)
  | none => false
def del (U : List (Nat × Md)) (i : Nat) : List (Nat × Md) := U.filter fun y => !Nat.beq y.1 i
theorem mem_del {U : List (Nat × Md)} {i : Nat} {y : Nat × Md} : y ∈ del U i ↔ y ∈ U ∧ y.1 ≠ i := by
  unfold del
  rw [List.mem_filter]
  constructor
  · rintro ⟨h1, h2⟩
    refine ⟨h1, fun e => ?_⟩
    rw [e] at h2
    simp at h2
  · rintro ⟨h1, h2⟩
    refine ⟨h1, ?_⟩
    rw [Bool.not_eq_true']
    cases hb : Nat.beq y.1 i with
    | false => rfl
    | true => exact absurd (Nat.eq_of_beq_eq_true hb) h2
theorem del_comm (U : List (Nat × Md)) (i j : Nat) : del (del U i) j = del (del U j) i := by
  unfold del
  rw [List.filter_filter, List.filter_filter]
  congr 1
  funext y
  exact Bool.and_comm _ _
theorem rdy_mono {U V : List (Nat × Md)} (h : ∀ y ∈ V, y ∈ U) {i : Nat} (hr : rdyU ops U i = true) : rdyU ops V i = true := by
  unfold rdyU at *
  cases ho : ops[i]? with
  | none => rw [ho] at hr; cases hr
  | some o =>
    rw [ho] at hr
    simp only at hr ⊢
    rw [Array.all_eq_true'] at hr ⊢
    intro e he
    have := hr e he
    rw [Bool.or_eq_true] at this ⊢
    rcases this with q | q
    · exact .inl q
    · right
      rw [Bool.not_eq_true'] at q ⊢
      rw [List.any_eq_false] at q ⊢
      exact fun y hy => q y (h y hy)
theorem rdy_some {U : List (Nat × Md)} {i : Nat} (hr : rdyU ops U i = true) : ∃ o, ops[i]? = some o ∧ ∀ e ∈ o.after, Region.binds .any e = true → ∀ y ∈ U, y.1 ≠ e.on := by
  unfold rdyU at hr
  cases ho : ops[i]? with
  | none => rw [ho] at hr; cases hr
  | some o =>
    rw [ho] at hr
    simp only at hr
    rw [Array.all_eq_true'] at hr
    refine ⟨o, rfl, fun e he hb y hy q => ?_⟩
    have := hr e he
    rw [hb, Bool.not_true, Bool.false_or, Bool.not_eq_true', List.any_eq_false] at this
    exact this y hy (by rw [q]; simp)
def allo (P : Program) (ops : Array Oper) (Kend : Act → World → Prop) : Nat → List (Nat × Md) → Act → World → Prop
  | 0, U, a, w => U = [] ∧ Kend a w
  | n + 1, U, a, w => (U = [] → Kend a w) ∧ ∀ x ∈ U, rdyU ops U x.1 = true → ∃ o, ops[x.1]? = some o ∧ rstep P ops x.2 o a w (allo P ops Kend n (del U x.1))
/-- The edges point back. -/
def lowOk (ops : Array Oper) : Bool := (List.range ops.size).all fun i => match ops[i]? with
  | some o => o.after.all fun e => !Region.binds .any e || Nat.blt e.on i
  | none => true
theorem low_at (h : lowOk ops = true) {i : Nat} {o : Oper} (hi : ops[i]? = some o) : ∀ e ∈ o.after, Region.binds .any e = true → e.on < i := by
  intro e he hb
  have hlt : i < ops.size := by
    rcases Nat.lt_or_ge i ops.size with q | q
    · exact q
    · rw [Array.getElem?_eq_none q] at hi; cases hi
  have := List.all_eq_true.1 h i (List.mem_range.2 hlt)
  rw [hi] at this
  have := Array.all_eq_true'.1 this e he
  rw [hb, Bool.not_true, Bool.false_or, Nat.blt_eq] at this
  exact this
theorem rdy_ex (hlow : lowOk ops = true) {U : List (Nat × Md)} (hU : ∀ y ∈ U, y.1 < ops.size) : ∀ k m, (k, m) ∈ U → ∃ x ∈ U, rdyU ops U x.1 = true := by
  intro k
  induction k using Nat.strongRecOn with
  | _ k ih =>
    intro m hm
    by_cases hr : rdyU ops U k = true
    · exact ⟨_, hm, hr⟩
    · have hk := hU _ hm
      have ho : ops[k]? = some ops[k] := Array.getElem?_eq_getElem hk
      unfold rdyU at hr
      rw [ho] at hr
      simp only at hr
      rw [Array.all_eq_true'] at hr
      have : ∃ e ∈ ops[k].after, ¬ (!Region.binds .any e || !(U.any fun y => Nat.beq y.1 e.on)) = true := by
        refine Classical.byContradiction fun hc => hr fun e he => ?_
        exact Classical.byContradiction fun hn => hc ⟨e, he, hn⟩
      obtain ⟨e, he, hn⟩ := this
      rw [Bool.or_eq_true, not_or] at hn
      obtain ⟨h1, h2⟩ := hn
      have hb : Region.binds .any e = true := by simpa using h1
      have h3 : (U.any fun y => Nat.beq y.1 e.on) = true := by simpa using h2
      obtain ⟨y, hy, hyb⟩ := List.any_eq_true.1 h3
      have hye := Nat.eq_of_beq_eq_true hyb
      obtain ⟨y1, y2⟩ := y
      simp only at hye
      exact ih y1 (by rw [hye]; exact low_at hlow ho e he hb) y2 hy
theorem wpAny_of_allo {Q : Exit → Act → World → Prop} (hQ : ∀ a w, Kend a w → Q .normal a w) (hlow : lowOk ops = true) :
    ∀ (n : Nat) (U : List (Nat × Md)) (listed : Array Bool) (a : Act) (w : World), listed.size = ops.size → (∀ i, listed.getD i true = false ↔ ∃ m, (i, m) ∈ U) → (∀ y ∈ U, y.1 < ops.size) → allo P ops Kend n U a w → wpAny P .any ops Q n listed a w := by
  intro n
  induction n with
  | zero =>
    intro U listed a w _ hl _ h
    obtain ⟨rfl, h⟩ := h
    refine ⟨List.eq_nil_iff_forall_not_mem.2 fun i hi => ?_, hQ _ _ h⟩
    obtain ⟨m, hm⟩ := (hl i).1 (mem_ready.1 hi).1
    cases hm
  | succ n ih =>
    intro U listed a w hsz hl hU h
    obtain ⟨h1, h2⟩ := h
    have hrd : ∀ i, listed.getD i true = false → (∀ (o : Oper), ops[i]? = some o → ∀ e ∈ o.after, Region.binds .any e = true → listed.getD e.on false = true) → (∃ o, ops[i]? = some o) → rdyU ops U i = true := by
      rintro i _ hd ⟨o, ho⟩
      unfold rdyU
      rw [ho]
      simp only
      rw [Array.all_eq_true']
      intro e he
      cases hb : Region.binds .any e with
      | false => rfl
      | true =>
        rw [Bool.not_true, Bool.false_or, Bool.not_eq_true', List.any_eq_false]
        intro y hy hyb
        have hye := Nat.eq_of_beq_eq_true hyb
        have h3 := hd o ho e he hb
        have h4 := (hl y.1).2 ⟨y.2, hy⟩
        rw [hye] at h4
        rcases Nat.lt_or_ge e.on listed.size with q | q
        · simp only [Array.getD, q, dite_true] at h3 h4
          rw [h3] at h4; cases h4
        · simp [Array.getD, Nat.not_lt.2 q] at h3
    refine ⟨fun hr => ?_, fun i hi => ?_⟩
    · refine hQ _ _ (h1 (List.eq_nil_iff_forall_not_mem.2 fun x hx => ?_))
      obtain ⟨y, hy, hyr⟩ := rdy_ex hlow hU x.1 x.2 hx
      obtain ⟨o, ho, hd⟩ := rdy_some hyr
      have : y.1 ∈ Region.ready .any ops listed := mem_ready.2 ⟨(hl y.1).2 ⟨y.2, hy⟩, o, ho, fun e he hb => by
        have hne := hd e he hb
        have hlt : e.on < listed.size := by
          have := low_at hlow ho e he hb
          have := hU y hy
          omega
        have h5 : ¬ listed.getD e.on true = false := fun g => by
          obtain ⟨m, hm⟩ := (hl e.on).1 g
          exact hne _ hm rfl
        simp only [Array.getD, hlt, dite_true] at h5 ⊢
        simpa using h5⟩
      rw [hr] at this
      cases this
    · obtain ⟨hun, oi, hoi, hdeps⟩ := mem_ready.1 hi
      obtain ⟨m, hm⟩ := (hl i).1 hun
      have hr := hrd i hun (fun o ho => by rw [hoi] at ho; obtain rfl := Option.some.inj ho; exact hdeps) ⟨oi, hoi⟩
      obtain ⟨o, ho, hst⟩ := h2 (i, m) hm hr
      have hilt : i < listed.size := by rw [hsz]; exact hU _ hm
      refine wpOp_of_rstep ho (rstep_mono (fun a w hh => ?_) hst)
      refine ih (del U i) (listed.setIfInBounds i true) a w (by simpa using hsz) ?_ (fun y hy => hU y (mem_del.1 hy).1) hh
      intro j
      by_cases hji : j = i
      · subst hji
        constructor
        · intro hf; simp [Array.getD, hilt] at hf
        · rintro ⟨m', hm'⟩; exact absurd rfl (mem_del.1 hm').2
      · rw [getD_set_ne true (Ne.symm hji), hl j]
        constructor
        · rintro ⟨m', hm'⟩; exact ⟨m', mem_del.2 ⟨hm', hji⟩⟩
        · rintro ⟨m', hm'⟩; exact ⟨m', (mem_del.1 hm').1⟩
theorem rstep_ex {m : Md} {o : Oper} {a : Act} {w : World} {K : Act → World → Prop} (h : rstep P ops m o a w K) : ∃ a' w', K a' w' := by
  unfold rstep at h
  split at h
  · cases m with
    | pure => obtain ⟨v, _, h⟩ := h; exact ⟨_, _, h⟩
    | read => obtain ⟨v, _, h⟩ := h; exact ⟨_, _, h⟩
    | grow => obtain ⟨v, w', h⟩ := hup_some h; exact ⟨_, _, h.2⟩
    | free => obtain ⟨v, w', h⟩ := hup_some h; exact ⟨_, _, h⟩
  · exact ⟨_, _, h⟩
/-- y waits for i, by operations that are left. -/
inductive Bl (ops : Array Oper) (U : List (Nat × Md)) (i : Nat) : Nat → Prop
  | one {y : Nat} {o : Oper} {e : Edge} : ops[y]? = some o → e ∈ o.after → Region.binds .any e = true → e.on = i → Bl ops U i y
  | far {y : Nat} {o : Oper} {e : Edge} {z : Nat × Md} : ops[y]? = some o → e ∈ o.after → Region.binds .any e = true → e.on = z.1 → z ∈ U → Bl ops U i z.1 → Bl ops U i y
theorem Bl.rdy {i : Nat} {m : Md} {U : List (Nat × Md)} (hm : (i, m) ∈ U) {y : Nat} (h : Bl ops U i y) : rdyU ops U y ≠ true := by
  intro hr
  obtain ⟨o, ho, hd⟩ := rdy_some hr
  cases h with
  | one h1 h2 h3 h4 =>
    rw [ho] at h1
    obtain rfl := Option.some.inj h1
    exact hd _ h2 h3 _ hm h4.symm
  | far h1 h2 h3 h4 h5 _ =>
    rw [ho] at h1
    obtain rfl := Option.some.inj h1
    exact hd _ h2 h3 _ h5 h4.symm
theorem Bl.del {i : Nat} {m : Md} {U : List (Nat × Md)} (hm : (i, m) ∈ U) {x : Nat} (hx : rdyU ops U x = true) {y : Nat} (h : Bl ops U i y) : Bl ops (del U x) i y := by
  induction h with
  | one h1 h2 h3 h4 => exact .one h1 h2 h3 h4
  | far h1 h2 h3 h4 h5 h6 ih => exact .far h1 h2 h3 h4 (mem_del.2 ⟨h5, fun e => h6.rdy hm (by rw [e]; exact hx)⟩) ih
def blb (ops : Array Oper) (U : List (Nat × Md)) (i : Nat) : Nat → Nat → Bool
  | 0, _ => false
  | n + 1, y => match ops[y]? with
    | some o => o.after.any fun e => Region.binds .any e && (Nat.beq e.on i || ((U.any fun z => Nat.beq z.1 e.on) && blb ops U i n e.on))
    | none => false
theorem blb_sound {U : List (Nat × Md)} {i : Nat} : ∀ (n y : Nat), blb ops U i n y = true → Bl ops U i y := by
  intro n
  induction n with
  | zero => intro y h; cases h
  | succ n ih =>
    intro y h
    unfold blb at h
    cases ho : ops[y]? with
    | none => rw [ho] at h; cases h
    | some o =>
      rw [ho] at h
      simp only at h
      rw [Array.any_eq_true'] at h
      obtain ⟨e, he, hq⟩ := h
      rw [Bool.and_eq_true, Bool.or_eq_true, Bool.and_eq_true] at hq
      obtain ⟨hb, q | ⟨q, r⟩⟩ := hq
      · exact .one ho he hb (Nat.eq_of_beq_eq_true q)
      · obtain ⟨z, hz, hzb⟩ := List.any_eq_true.1 q
        have e2 := Nat.eq_of_beq_eq_true hzb
        exact .far ho he hb e2.symm hz (by rw [e2]; exact ih _ r)
/-- May (i, m) be taken first? -/
def zfront (ops : Array Oper) (x : Nat × Md) (U : List (Nat × Md)) : Bool :=
  rdyU ops U x.1 && (U.any fun y => Nat.beq y.1 x.1) && U.all fun y => (Nat.beq y.1 x.1 && decide (y.2 = x.2)) || (!Nat.beq y.1 x.1 && (blb ops U x.1 6 y.1 || swapOk ops x y))
theorem allo_front (hs : noSel ops) {i : Nat} {m : Md} {oi : Oper} (hi : ops[i]? = some oi) :
    ∀ (n : Nat) (U : List (Nat × Md)) (a : Act) (w : World), (i, m) ∈ U → rdyU ops U i = true → (∀ y ∈ U, y.1 = i → y.2 = m) →
      (∀ y ∈ U, y.1 ≠ i → Bl ops U i y.1 ∨ swapOk ops (i, m) y = true) →
      rstep P ops m oi a w (allo P ops Kend n (del U i)) → allo P ops Kend (n + 1) U a w := by
  intro n
  induction n with
  | zero =>
    intro U a w hm hr hu hsw h
    refine ⟨fun e => (by rw [e] at hm; cases hm), fun x hx hxr => ?_⟩
    by_cases hxi : x.1 = i
    · obtain ⟨x1, x2⟩ := x
      simp only at hxi
      subst hxi
      obtain rfl := hu _ hx rfl
      exact ⟨oi, hi, h⟩
    · exfalso
      obtain ⟨_, _, h3, _⟩ := rstep_ex h
      have := mem_del.2 ⟨hx, hxi⟩
      rw [h3] at this
      cases this
  | succ n ih =>
    intro U a w hm hr hu hsw h
    refine ⟨fun e => (by rw [e] at hm; cases hm), fun x hx hxr => ?_⟩
    by_cases hxi : x.1 = i
    · obtain ⟨x1, x2⟩ := x
      simp only at hxi
      subst hxi
      obtain rfl := hu _ hx rfl
      exact ⟨oi, hi, h⟩
    · obtain ⟨ox, hox, hxd⟩ := rdy_some hxr
      have hsx : swapOk ops (i, m) x = true := by
        rcases hsw x hx hxi with q | q
        · exact absurd hxr (q.rdy hm)
        · exact q
      refine ⟨ox, hox, ?_⟩
      have h1 : rstep P ops m oi a w (fun a w => rstep P ops x.2 ox a w (allo P ops Kend n (del (del U i) x.1))) := rstep_mono (fun a w g => by
        obtain ⟨o, ho, g⟩ := g.2 x (mem_del.2 ⟨hx, hxi⟩) (rdy_mono (fun y hy => (mem_del.1 hy).1) hxr)
        rw [hox] at ho
        obtain rfl := Option.some.inj ho
        exact g) h
      obtain ⟨x1, x2⟩ := x
      have h2 := rswap hi hox (fun cs b => hs i oi cs b hi) (fun cs b => hs x1 ox cs b hox) hsx h1
      refine rstep_mono (fun a w g => ?_) h2
      rw [del_comm] at g
      exact ih (del U x1) a w (mem_del.2 ⟨hm, Ne.symm hxi⟩) (rdy_mono (fun y hy => (mem_del.1 hy).1) hr) (fun y hy => hu y (mem_del.1 hy).1) (fun y hy hne => (hsw y (mem_del.1 hy).1 hne).imp (fun q => q.del hm hxr) id) g
end
/-- A region's walk, those of U not yet carried out. -/
structure Wz (P : Program) (ops : Array Oper) (Kend : Act → World → Prop) (n : Nat) (U : List (Nat × Md)) (N : Nat) (ρ : Nat → Value) (w : World) : Prop where
  out : noSel ops → allo P ops Kend n U (act N ρ) w
def zstep (P : Program) (ops : Array Oper) (Kend : Act → World → Prop) (n : Nat) (U' : List (Nat × Md)) (x : Nat × Md) (N : Nat) (ρ : Nat → Value) (w : World) : Prop :=
  noSel ops → ∃ o, ops[x.1]? = some o ∧ rstep P ops x.2 o (act N ρ) w (allo P ops Kend n U')
def zallOk (ops : Array Oper) (n : Nat) (U : List (Nat × Md)) : Bool :=
  Nat.beq ops.size n && decide (U.map (·.1) = List.range n) && lowOk ops && ops.all fun o => match o.op with | .select .. => false | _ => true
section
variable {P : Program} {N : Nat} {ρ : Nat → Value} {w0 w : World} {Q : Exit → Act → World → Prop} {ops : Array Oper} {H : List Blk} {Kend : Act → World → Prop} {i n : Nat} {o : Oper} {U U' : List (Nat × Md)}
theorem c_all {id : Nat} {l : List Oper} (n : Nat) (U : List (Nat × Md)) (hm : P.follows .mixedOrders = true) (hchk : zallOk l.toArray n U = true) (hS : St w0 w H)
    (h : ∀ w', St w0 w' H → Below w.heap.size w w' → Wz P l.toArray (Q .normal) n U N ρ w') : (Code.region id l.toArray true).wp P Q (act N ρ) w := by
  simp only [zallOk, Bool.and_eq_true, decide_eq_true_eq] at hchk
  obtain ⟨⟨⟨h1, h2⟩, h3⟩, h6⟩ := hchk
  have hsz := Nat.eq_of_beq_eq_true h1
  have hs : noSel l.toArray := by
    intro i o cs b hi hsel
    have := Array.all_eq_true'.1 h6 o (Array.mem_of_getElem? hi)
    rw [hsel] at this
    cases this
  have hbd : Below w.heap.size w { w with drawn := w.drawn + 1 } := (Below.refl _ w).drew
  have hUm : ∀ i, (∃ m, (i, m) ∈ U) ↔ i < n := by
    intro i
    rw [← List.mem_range, ← h2, List.mem_map]
    constructor
    · rintro ⟨m, hm⟩; exact ⟨_, hm, rfl⟩
    · rintro ⟨⟨a, m⟩, hm, rfl⟩; exact ⟨m, hm⟩
  refine wp_region_any hm ?_
  rw [hsz]
  refine wpAny_of_allo (fun _ _ h => h) h3 n U _ _ _ (by simp; simpa using hsz.symm) ?_ (fun y hy => by rw [hsz]; exact (hUm y.1).1 ⟨y.2, hy⟩) ((h _ (hS.grow hbd) hbd).out hs)
  intro i
  rw [hUm]
  constructor
  · intro hf
    rcases Nat.lt_or_ge i n with q | q
    · exact q
    · simp [Array.getD, Nat.not_lt.2 q] at hf
  · intro q
    simp [Array.getD, q]
theorem z_end (h : Kend (act N ρ) w) : Wz P ops Kend n [] N ρ w := ⟨fun _ => by
  cases n with
  | zero => exact ⟨rfl, h⟩
  | succ n => exact ⟨fun _ => h, fun x hx => by cases hx⟩⟩
theorem zfront_spec {x : Nat × Md} (h : zfront ops x U = true) : x ∈ U ∧ rdyU ops U x.1 = true ∧ (∀ y ∈ U, y.1 = x.1 → y.2 = x.2) ∧
    ∀ y ∈ U, y.1 ≠ x.1 → Bl ops U x.1 y.1 ∨ swapOk ops x y = true := by
  simp only [zfront, Bool.and_eq_true] at h
  obtain ⟨⟨h1, h2⟩, h3⟩ := h
  have hu : ∀ y ∈ U, y.1 = x.1 → y.2 = x.2 := fun y hy e => by
    have := List.all_eq_true.1 h3 y hy
    rw [e] at this
    simp at this
    exact this
  refine ⟨?_, h1, hu, fun y hy hne => ?_⟩
  · obtain ⟨y, hy, hb⟩ := List.any_eq_true.1 h2
    have e := Nat.eq_of_beq_eq_true hb
    have e2 := hu y hy e
    obtain ⟨y1, y2⟩ := y
    obtain ⟨x1, x2⟩ := x
    simp only at e e2
    rw [← e, ← e2]; exact hy
  · have := List.all_eq_true.1 h3 y hy
    have hb : Nat.beq y.1 x.1 = false := by
      cases hb : Nat.beq y.1 x.1 with
      | false => rfl
      | true => exact absurd (Nat.eq_of_beq_eq_true hb) hne
    rw [hb, Bool.false_and, Bool.false_or, Bool.not_false, Bool.true_and, Bool.or_eq_true] at this
    rcases this with q | q
    · exact .inl (blb_sound _ _ q)
    · exact .inr q
theorem z_pure {d : Option Tmp} {p : Op} {ty : TypeId} {pos : String} {aft : Array Edge} {g : Option (Nat × Bool)} (hf : zfront ops (i, .pure) U = true) (hd : del U i = U') (ho : ops[i]? = some ⟨d, p, ty, pos, aft, g⟩) (hg : gd ops N ρ g = true)
    (h : Pure1 P N ρ ⟨d, p, ty, pos, aft, g⟩ fun v => Wz P ops Kend n U' N (updo ρ d v) w) : Wz P ops Kend (n + 1) U N ρ w := by
  subst hd
  obtain ⟨f1, f2, f3, f4⟩ := zfront_spec hf
  refine ⟨fun hs => allo_front hs ho n U _ _ f1 f2 f3 f4 ?_⟩
  rw [rstep_pure (gd_wanted ops N ρ ⟨d, p, ty, pos, aft, g⟩ hg), act_eval]
  obtain ⟨v, h1, h2⟩ := h
  exact ⟨v, h1, by rw [act_put]; exact h2.out hs⟩
theorem z_read {d : Option Tmp} {p : Op} {ty : TypeId} {pos : String} {aft : Array Edge} {g : Option (Nat × Bool)} (hf : zfront ops (i, .read) U = true) (hd : del U i = U') (ho : ops[i]? = some ⟨d, p, ty, pos, aft, g⟩) (hg : gd ops N ρ g = true)
    (h : Read1 P N ρ w ⟨d, p, ty, pos, aft, g⟩ fun v => Wz P ops Kend n U' N (updo ρ d v) w) : Wz P ops Kend (n + 1) U N ρ w := by
  subst hd
  obtain ⟨f1, f2, f3, f4⟩ := zfront_spec hf
  refine ⟨fun hs => allo_front hs ho n U _ _ f1 f2 f3 f4 ?_⟩
  rw [rstep_read (gd_wanted ops N ρ ⟨d, p, ty, pos, aft, g⟩ hg), act_eval]
  obtain ⟨v, h1, h2⟩ := h
  exact ⟨v, h1, by rw [act_put]; exact h2.out hs⟩
theorem z_grow {d : Option Tmp} {p : Op} {ty : TypeId} {pos : String} {aft : Array Edge} {g : Option (Nat × Bool)} (ho : ops[i]? = some ⟨d, p, ty, pos, aft, g⟩) (hg : gd ops N ρ g = true)
    (h : Hup1 P N ρ w ⟨d, p, ty, pos, aft, g⟩ fun v w' => Below w.heap.size w w' ∧ Wz P ops Kend n U' N (updo ρ d v) w') : zstep P ops Kend n U' (i, .grow) N ρ w := fun hs => by
  refine ⟨_, ho, ?_⟩
  rw [rstep_grow (gd_wanted ops N ρ ⟨d, p, ty, pos, aft, g⟩ hg), act_eval]
  simp only [act_put]
  exact hup_mono (fun v w h => ⟨h.1, h.2.out hs⟩) h.out
theorem z_free {d : Option Tmp} {p : Op} {ty : TypeId} {pos : String} {aft : Array Edge} {g : Option (Nat × Bool)} (ho : ops[i]? = some ⟨d, p, ty, pos, aft, g⟩) (hg : gd ops N ρ g = true)
    (h : Hup1 P N ρ w ⟨d, p, ty, pos, aft, g⟩ fun v w' => Wz P ops Kend n U' N (updo ρ d v) w') : zstep P ops Kend n U' (i, .free) N ρ w := fun hs => by
  refine ⟨_, ho, ?_⟩
  rw [rstep_free (gd_wanted ops N ρ ⟨d, p, ty, pos, aft, g⟩ hg), act_eval]
  simp only [act_put]
  exact hup_mono (fun v w h => Wz.out h hs) h.out
theorem z_one {x : Nat × Md} (hR : (U.filter fun y => rdyU ops U y.1) = [x]) (hd : del U x.1 = U') (h : zstep P ops Kend n U' x N ρ w) : Wz P ops Kend (n + 1) U N ρ w := by
  subst hd
  refine ⟨fun hs => ⟨fun e => (by rw [e] at hR; cases hR), fun y hy hr => ?_⟩⟩
  have : y ∈ [x] := by rw [← hR]; exact List.mem_filter.2 ⟨hy, hr⟩
  obtain rfl := List.mem_singleton.1 this
  exact h hs
theorem z_two {x y : Nat × Md} {U'' : List (Nat × Md)} (hR : (U.filter fun y => rdyU ops U y.1) = [x, y]) (hd : del U x.1 = U') (hd' : del U y.1 = U'') (h : zstep P ops Kend n U' x N ρ w) (h' : zstep P ops Kend n U'' y N ρ w) : Wz P ops Kend (n + 1) U N ρ w := by
  subst hd hd'
  refine ⟨fun hs => ⟨fun e => (by rw [e] at hR; cases hR), fun z hz hr => ?_⟩⟩
  have : z ∈ [x, y] := by rw [← hR]; exact List.mem_filter.2 ⟨hz, hr⟩
  rcases List.mem_cons.1 this with rfl | this
  · exact h hs
  · obtain rfl := List.mem_singleton.1 this
    exact h' hs
theorem z_three {x y z : Nat × Md} {U1 U2 U3 : List (Nat × Md)} (hR : (U.filter fun y => rdyU ops U y.1) = [x, y, z]) (hd1 : del U x.1 = U1) (hd2 : del U y.1 = U2) (hd3 : del U z.1 = U3)
    (h1 : zstep P ops Kend n U1 x N ρ w) (h2 : zstep P ops Kend n U2 y N ρ w) (h3 : zstep P ops Kend n U3 z N ρ w) : Wz P ops Kend (n + 1) U N ρ w := by
  subst hd1 hd2 hd3
  refine ⟨fun hs => ⟨fun e => (by rw [e] at hR; cases hR), fun t ht hr => ?_⟩⟩
  have : t ∈ [x, y, z] := by rw [← hR]; exact List.mem_filter.2 ⟨ht, hr⟩
  rcases List.mem_cons.1 this with rfl | this
  · exact h1 hs
  · rcases List.mem_cons.1 this with rfl | this
    · exact h2 hs
    · obtain rfl := List.mem_singleton.1 this
      exact h3 hs
end
end Go.Sx
namespace Go.Proofs.YtmapmdldlcfjhaaDoor
open Go Go.RowKit Go.Sx

theorem Amounts_gl (v : Value) (l : List Nat) (n : Nat) (w : World) (hv : Sl (uk .u16) 1 w v l) (hl : ∀ x ∈ l, x < 65536) (hn : n ≤ 1000) :
    Ret Tryd.prog 7 #[v, .int .i64 n] w fun r w' => ∃ LO, Gl encR 31 3 r (amts l n) LO ∧ St w w' LO := by
  have hmax := hv.maxLen
  have hS := St.init w
  refine enter Tryd.func7 rfl Tryd.ntmps7 rfl ?_
  repeat (with_reducible first | refine c_seq ?_ | refine c_block ?_ | refine c_skip ?_ | refine x_then ?_ | refine x_block ?_)
  refine c_reg ?_
  refine l_pure rfl (s_asg  rfl ?_)
  refine l_nil ?_
  repeat (with_reducible first | refine c_seq ?_ | refine c_block ?_ | refine c_skip ?_ | refine x_then ?_ | refine x_block ?_)
  refine c_reg ?_
  refine l_pure rfl (s_asg  rfl ?_)
  refine l_nil ?_
  repeat (with_reducible first | refine c_seq ?_ | refine c_block ?_ | refine c_skip ?_ | refine x_then ?_ | refine x_block ?_)
  refine c_reg ?_
  refine l_pure rfl (s_asg  rfl ?_)
  refine l_nil ?_
  repeat (with_reducible first | refine c_seq ?_ | refine c_block ?_ | refine c_skip ?_ | refine x_then ?_ | refine x_block ?_)
  refine c_loop (σ := Nat) (fun i ρ w' => i ≤ l.length ∧ i ≤ n ∧ ρ 0 = v ∧ ρ 1 = .int .i64 n ∧ ρ 6 = .int .i64 i ∧ ∃ sO LO, ρ 5 = sO ∧ Gl encR 31 3 sO (amts l i) LO ∧ St w w' ([] ++ LO)) (fun i => l.length - i) 0
    ⟨Nat.zero_le _, Nat.zero_le _, rfl, rfl, rfl, ⟨_, [], rfl, Gl.nil _ _ _, hS⟩⟩ ?_
  clear hS
  rintro i ρ w2 ⟨hi, hin, h0, h1, h6, sO, LO, h5, hG, hS⟩
  have hal := amts_len l i
  repeat (with_reducible first | refine c_seq ?_ | refine c_block ?_ | refine c_skip ?_ | refine x_then ?_ | refine x_block ?_)
  by_cases hlt : i < l.length
  · by_cases hlt2 : i < n
    · repeat (with_reducible first | refine c_seq ?_ | refine c_block ?_ | refine c_skip ?_ | refine x_then ?_ | refine x_block ?_)
      refine c_reg ?_
      refine l_pure rfl (s_move  h6 ?_)
      refine l_pure rfl (s_move  h0 ?_)
      refine l_pure rfl (s_lenr  rfl (hv.below hS.below) ⟨_, Tryd.underlying23⟩ ?_)
      refine l_pure rfl (s_lss  rfl rfl ?_)
      refine l_pure rfl (s_move  rfl ?_)
      refine l_pure (gd_yes 11 (by kernel_rfl) rfl (decide_eq_true (by omega))) (s_move  h6 ?_)
      refine l_pure (gd_yes 11 (by kernel_rfl) rfl (decide_eq_true (by omega))) (s_move  h1 ?_)
      refine l_pure (gd_yes 11 (by kernel_rfl) rfl (decide_eq_true (by omega))) (s_lss  rfl rfl ?_)
      refine l_pure rfl (s_pick (vb rfl (decide_eq_true (by omega))) rfl ?_)
      refine l_nil ?_
      repeat (with_reducible first | refine c_seq ?_ | refine c_block ?_ | refine c_skip ?_ | refine x_then ?_ | refine x_block ?_)
      refine c_yes rfl (decide_eq_true (by omega)) ?_
      repeat (with_reducible first | refine c_seq ?_ | refine c_block ?_ | refine c_skip ?_ | refine x_then ?_ | refine x_block ?_)
      have hx := hl _ (getD_mem l i 0 hlt)
      repeat (with_reducible first | refine c_seq ?_ | refine c_block ?_ | refine c_skip ?_ | refine x_then ?_ | refine x_block ?_)
      refine c_reg ?_
      refine l_pure rfl (s_move  h5 ?_)
      refine l_pure rfl (s_move  h0 ?_)
      refine l_pure rfl (s_move  h6 ?_)
      refine l_pure rfl (s_ixr (i := i)  rfl rfl (hv.below hS.below) (by omega) (by first | omega | (simp; done) | (simp; omega)) si_23 ?_)
      refine l_read rfl (s_lde (i := i) 0  rfl vi_42 (hv.below hS.below) (by first | omega | (simp; done) | (simp; omega)) rfl rfl (.inr rfl) ?_)
      refine l_heavy rfl (s_call Tryd.call23 rfl (Amount_ok (l.getD i 0) _ hx) ?_)
      rintro r w3 ⟨rfl, hB3⟩
      replace hS := hS.grow hB3
      refine l_heavy rfl (s_bsl (vs := [aggR (amR (l.getD i 0))])  rfl si_24 rfl (by decide) (by decide) (by decide) (by simp [Value.cells, aggR]) rfl hS ?_)
      intro bx wz1 hS hBz1
      refine l_heavy rfl (s_appl [amR (l.getD i 0)]  rfl rfl si_24 (by decide) hG hS rfl rfl encR_len (encR_one [amR (l.getD i 0)]) (by first | omega | (simp only [List.length_cons, List.length_nil]; omega)) (by first | omega | (simp only [List.length_cons, List.length_nil]; omega)) ?_)
      intro va2 La2 wa2 hG hS hga2
      refine l_pure rfl (s_asg  rfl ?_)
      refine l_nil ?_
      repeat (with_reducible first | refine c_seq ?_ | refine c_block ?_ | refine c_skip ?_ | refine x_then ?_ | refine x_block ?_)
      rw [← amts_succ l hlt] at hG
      repeat (with_reducible first | refine c_seq ?_ | refine c_block ?_ | refine c_skip ?_ | refine x_then ?_ | refine x_block ?_)
      refine c_reg ?_
      refine l_pure rfl (s_move  h6 ?_)
      refine l_pure rfl (s_add  rfl rfl (IntWalk.i64_in _ (by omega)) ?_)
      refine l_pure rfl (s_asg  rfl ?_)
      refine l_nil ?_
      repeat (with_reducible first | refine c_seq ?_ | refine c_block ?_ | refine c_skip ?_ | refine x_then ?_ | refine x_block ?_)
      exact ⟨i + 1, _, rfl, ⟨hlt, hlt2, h0, h1, vi rfl (by omega), ⟨_, _, rfl, hG, hS⟩⟩, by omega⟩
    · repeat (with_reducible first | refine c_seq ?_ | refine c_block ?_ | refine c_skip ?_ | refine x_then ?_ | refine x_block ?_)
      refine c_reg ?_
      refine l_pure rfl (s_move  h6 ?_)
      refine l_pure rfl (s_move  h0 ?_)
      refine l_pure rfl (s_lenr  rfl (hv.below hS.below) ⟨_, Tryd.underlying23⟩ ?_)
      refine l_pure rfl (s_lss  rfl rfl ?_)
      refine l_pure rfl (s_move  rfl ?_)
      refine l_pure (gd_yes 11 (by kernel_rfl) rfl (decide_eq_true (by omega))) (s_move  h6 ?_)
      refine l_pure (gd_yes 11 (by kernel_rfl) rfl (decide_eq_true (by omega))) (s_move  h1 ?_)
      refine l_pure (gd_yes 11 (by kernel_rfl) rfl (decide_eq_true (by omega))) (s_lss  rfl rfl ?_)
      refine l_pure rfl (s_pick (vb rfl (decide_eq_true (by omega))) rfl ?_)
      refine l_nil ?_
      repeat (with_reducible first | refine c_seq ?_ | refine c_block ?_ | refine c_skip ?_ | refine x_then ?_ | refine x_block ?_)
      refine c_no rfl (decide_eq_false (by omega)) ?_
      repeat (with_reducible first | refine c_seq ?_ | refine c_block ?_ | refine c_skip ?_ | refine x_then ?_ | refine x_block ?_)
      refine c_exit ?_
      repeat (with_reducible first | refine x_then_exit ?_ | refine x_block_exit ?_ | refine x_block_pass rfl ?_)
      repeat (with_reducible first | refine c_seq ?_ | refine c_block ?_ | refine c_skip ?_ | refine x_then ?_ | refine x_block ?_)
      obtain rfl : i = n := by omega
      repeat (with_reducible first | refine c_seq ?_ | refine c_block ?_ | refine c_skip ?_ | refine x_then ?_ | refine x_block ?_)
      refine c_reg ?_
      refine l_pure rfl (s_move  h5 ?_)
      refine l_pure rfl (s_asg  rfl ?_)
      refine l_nil ?_
      repeat (with_reducible first | refine c_seq ?_ | refine c_block ?_ | refine c_skip ?_ | refine x_then ?_ | refine x_block ?_)
      refine c_ret ?_
      repeat (with_reducible first | refine x_then_ret ?_ | refine x_block_ret ?_)
      refine r_one rfl rfl ?_
      exact ⟨_, hG, hS⟩
  · repeat (with_reducible first | refine c_seq ?_ | refine c_block ?_ | refine c_skip ?_ | refine x_then ?_ | refine x_block ?_)
    refine c_reg ?_
    refine l_pure rfl (s_move  h6 ?_)
    refine l_pure rfl (s_move  h0 ?_)
    refine l_pure rfl (s_lenr  rfl (hv.below hS.below) ⟨_, Tryd.underlying23⟩ ?_)
    refine l_pure rfl (s_lss  rfl rfl ?_)
    refine l_pure rfl (s_move  rfl ?_)
    refine l_no (gno_yes 11 (by kernel_rfl) rfl (decide_eq_false (by omega))) ?_
    refine l_no (gno_yes 11 (by kernel_rfl) rfl (decide_eq_false (by omega))) ?_
    refine l_no (gno_yes 11 (by kernel_rfl) rfl (decide_eq_false (by omega))) ?_
    refine l_pure rfl (s_pick (vb rfl (decide_eq_false (by omega))) rfl ?_)
    refine l_nil ?_
    repeat (with_reducible first | refine c_seq ?_ | refine c_block ?_ | refine c_skip ?_ | refine x_then ?_ | refine x_block ?_)
    refine c_no rfl (rfl) ?_
    repeat (with_reducible first | refine c_seq ?_ | refine c_block ?_ | refine c_skip ?_ | refine x_then ?_ | refine x_block ?_)
    refine c_exit ?_
    repeat (with_reducible first | refine x_then_exit ?_ | refine x_block_exit ?_ | refine x_block_pass rfl ?_)
    repeat (with_reducible first | refine c_seq ?_ | refine c_block ?_ | refine c_skip ?_ | refine x_then ?_ | refine x_block ?_)
    have e : amts l i = amts l n := by unfold amts; rw [List.take_of_length_le (by omega), List.take_of_length_le (by omega)]
    rw [e] at hG
    repeat (with_reducible first | refine c_seq ?_ | refine c_block ?_ | refine c_skip ?_ | refine x_then ?_ | refine x_block ?_)
    refine c_reg ?_
    refine l_pure rfl (s_move  h5 ?_)
    refine l_pure rfl (s_asg  rfl ?_)
    refine l_nil ?_
    repeat (with_reducible first | refine c_seq ?_ | refine c_block ?_ | refine c_skip ?_ | refine x_then ?_ | refine x_block ?_)
    refine c_ret ?_
    repeat (with_reducible first | refine x_then_ret ?_ | refine x_block_ret ?_)
    refine r_one rfl rfl ?_
    exact ⟨_, hG, hS⟩
theorem amtQ_le (x : Nat) : amtQ x ≤ ((30 : Int) : Rat) := by
  unfold amtQ
  split
  · refine Rat.not_lt.1 fun h => ?_
    rw [Rat.mkRat_eq_div, Rat.lt_div_iff (Rat.natCast_pos.2 (by omega))] at h
    have h2 : (((30 * (1 + x / 115 % 6) : Nat) : Int) : Rat) < (((x / 5 % 23 : Nat) : Int) : Rat) := by
      rw [Int.natCast_mul, Rat.intCast_mul]
      exact h
    have := Rat.intCast_lt_intCast.1 h2
    omega
  · split
    · exact Rat.intCast_le_intCast.2 (by omega)
    · exact Rat.intCast_le_intCast.2 (by omega)
theorem amts_le (l : List Nat) (n : Nat) : sumQ ((amts l n).map toQ) ≤ (((30 * n : Nat) : Int) : Rat) := by
  have key : ∀ L : List Nat, sumQ ((L.map amR).map toQ) ≤ (((30 * L.length : Nat) : Int) : Rat) := by
    intro L
    induction L with
    | nil => exact Rat.le_refl
    | cons x L ih =>
      rw [List.map_cons, List.map_cons, sumQ_cons]
      have h1 := amtQ_le x
      have e : (((30 * (x :: L).length : Nat) : Int) : Rat) = (((30 * L.length : Nat) : Int) : Rat) + ((30 : Int) : Rat) := by
        rw [← Rat.intCast_add, List.length_cons]; congr 1
      rw [e]
      unfold amR
      rw [toQ_ofQ]
      unfold amR at ih
      grind
  refine Rat.le_trans (key (l.take n)) (Rat.intCast_le_intCast.2 ?_)
  have : (l.take n).length ≤ n := by rw [List.length_take]; omega
  omega
theorem ofQ_inj {p q : Rat} (h : ofQ p = ofQ q) : p = q := by rw [← toQ_ofQ p, h, toQ_ofQ]
/-! ### What is left over goes into one more -/
def upQ (s : Rat) : Int := -(-s).floor
theorem upQ_ge (s : Rat) : s ≤ ((upQ s : Int) : Rat) := by
  have h := (frQ_range (fun _ => -s) 0).1
  unfold frQ at h
  unfold upQ
  rw [Rat.intCast_neg]
  grind
theorem upQ_le {s : Rat} {B : Int} (h : s ≤ (B : Rat)) : upQ s ≤ B := by
  have : -B ≤ (-s).floor := Rat.le_floor_iff.2 (by rw [Rat.intCast_neg]; grind)
  unfold upQ
  omega
def restL (ws : List RR) : List RR := ws ++ [ofQ (((upQ (sumQ (ws.map toQ)) : Int) : Rat) - sumQ (ws.map toQ))]
theorem restL_sum (ws : List RR) : sumQ ((restL ws).map toQ) = ((upQ (sumQ (ws.map toQ)) : Int) : Rat) := by
  unfold restL
  rw [List.map_append, sumQ_append, List.map_cons, List.map_nil, toQ_ofQ, sumQ_cons]
  have : sumQ ([] : List Rat) = 0 := rfl
  rw [this]
  grind
theorem restL_negs {ws : List RR} (h : negs ws = false) : negs (restL ws) = false := negs_of fun q hq => by
  unfold restL at hq
  rw [List.map_append] at hq
  rcases List.mem_append.1 hq with g | g
  · obtain ⟨r, hr, rfl⟩ := List.mem_map.1 g
    unfold negs at h
    rw [List.any_eq_false] at h
    have := h r hr
    rw [decide_eq_true_eq] at this
    exact Rat.not_lt.1 this
  · rw [List.map_cons, List.map_nil, toQ_ofQ] at g
    rw [List.mem_singleton.1 g]
    have := upQ_ge (sumQ (ws.map toQ))
    grind
/-- What rounding a list with an integer sum gives. -/
theorem lg_facts {ws : List RR} {U : Int} (h0 : negs ws = false) (hs : sumQ (ws.map toQ) = (U : Rat)) (hn : ws.length ≤ 1024) (hU : U ≤ 9223372036854775807) :
    lgE ws = 0 ∧ lgL ws = tab ws.length (resA ws) ∧ (∀ i, i < ws.length → 0 ≤ resA ws i ∧ resA ws i ≤ U) ∧ sumZ (resA ws) ws.length = U ∧ 0 ≤ U := by
  have ho := ordG_ord ws
  have hS : sumR (qA ws) ws.length = (U : Rat) := by rw [← qA_sum, hs]
  have hU0 : 0 ≤ U := by
    have := sumQ_nn h0
    rw [hs] at this
    exact Rat.intCast_nonneg.1 this
  have he : lgE ws = 0 := by
    unfold lgE
    have e : i64V (U : Rat) = (U, true) := by rw [i64V_int, if_pos ⟨by omega, hU⟩]
    rw [if_neg (by omega), h0, if_neg (by decide), hs, e]
    exact if_neg (fun g => by cases g)
  refine ⟨he, ?_, fun i hi => ⟨res_nonneg ho (negs_get h0 i), res_le ho hS (fun j _ => negs_get h0 j) hi⟩, ?_, hU0⟩
  · unfold lgL; rw [if_pos he]
  · have := res_sum ho
    rw [hS, Rat.floor_intCast] at this
    exact this
/-- Who is rounded up has no smaller fraction than who is rounded down. -/
theorem fr_facts (ws : List RR) {i k : Nat} (hk : k < ws.length) (hi : toQ (ws.getD i zRR) < ((resA ws i : Int) : Rat)) (hd : ((resA ws k : Int) : Rat) < toQ (ws.getD k zRR)) :
    ¬ frQ (qA ws) i < frQ (qA ws) k ∧ (frQ (qA ws) i = frQ (qA ws) k → ¬ k < i) := by
  have ho := ordG_ord ws
  have h1 := res_up ho i hi
  have h2 := res_down ho k hd
  exact ⟨fun g => h2 (ho.before hk (.inl g) h1), fun g q => h2 (ho.before hk (.inr ⟨g.symm, q⟩) h1)⟩
set_option maxHeartbeats 4000000 in
theorem ApportionRest_ok (vl : Value) (l : List Nat) (w : World) (hl : Sl (uk .u16) 1 w vl l) (hlb : ∀ x ∈ l, x < 65536) :
    Ret Tryd.prog 6 #[vl] w fun v w' => v = .bool true ∧ Below w.heap.size w w' := by
  have hM : MX = 1099511627776 := rfl
  have hS := St.init w
  obtain ⟨w0, hw0⟩ : ∃ w0, w0 = amts l 12 := ⟨_, rfl⟩
  have hRB0 : RB 1 w0 := by rw [hw0]; exact amts_RB l 12
  have hl0 : w0.length ≤ 12 := by rw [hw0, amts_len]; omega
  have hng0 : negs w0 = false := by rw [hw0]; exact amts_negs l 12
  obtain ⟨s, hs⟩ : ∃ s, s = sumQ (w0.map toQ) := ⟨_, rfl⟩
  have hsl := sumL_le hRB0
  have hLs := L_sumQ w0
  have hs30 : s ≤ (((30 * 12 : Nat) : Int) : Rat) := by rw [hs, hw0]; exact amts_le l 12
  obtain ⟨U, hU⟩ : ∃ U, U = upQ s := ⟨_, rfl⟩
  have hU9 : U ≤ 360 := by rw [hU]; exact upQ_le hs30
  have hUe : ((U : Int) : Rat) = -(((-s).floor : Int) : Rat) := by rw [hU]; unfold upQ; rw [Rat.intCast_neg]
  have hLn := L_neg s
  have hLf := L_floor (-s)
  have hLfn := L_neg (((-s).floor : Int) : Rat)
  rw [← hUe] at hLfn
  obtain ⟨r, hr⟩ : ∃ r, r = ((U : Int) : Rat) - s := ⟨_, rfl⟩
  have hLr := L_sub ((U : Int) : Rat) s
  rw [← hr] at hLr
  obtain ⟨ws, hws⟩ : ∃ ws, ws = restL w0 := ⟨_, rfl⟩
  have hwsr : ws = w0 ++ [ofQ r] := by rw [hws, hr, hU, hs]; rfl
  rw [← hs] at hLs
  have hRB : RB 60 ws := fun q hq => by
    rw [hwsr] at hq
    rcases List.mem_append.1 hq with g | g
    · exact Nat.le_trans (hRB0 q g) (by decide)
    · rw [List.mem_singleton.1 g, Lr_ofQ]; omega
  have hwl : ws.length = w0.length + 1 := by rw [hwsr, List.length_append]; rfl
  have hwU : sumQ (ws.map toQ) = (U : Rat) := by rw [hws, hU, hs]; exact restL_sum w0
  have hng : negs ws = false := by rw [hws]; exact restL_negs hng0
  obtain ⟨he, hL, hrb, hrs, hU0⟩ := lg_facts hng hwU (by omega) (by omega)
  have hfr := fun i k hk h1 h2 => fr_facts ws (i := i) (k := k) hk h1 h2
  have hfq : ∀ i, frQ (qA ws) i = toQ (ws.getD i zRR) - (((toQ (ws.getD i zRR)).floor : Int) : Rat) := fun i => rfl
  obtain ⟨res, hre⟩ : ∃ f, f = resA ws := ⟨_, rfl⟩
  obtain ⟨n, hn⟩ : ∃ n, n = ws.length := ⟨_, rfl⟩
  rw [← hre, ← hn] at hL hrb
  rw [← hre, ← hn] at hrs
  rw [← hre, ← hn] at hfr
  have htl := tab_len n res
  have hrg := sumZ_range (fun i hi => (hrb i hi).1) hrs (by omega)
  have hsum := fun (v : Value) (w : World) h => QSum_ok v w0 w h (by omega)
  rw [← hs] at hsum
  have hneg := fun w => QNegate_ok (ofQ s) w (by rw [Lr_ofQ]; omega)
  rw [toQ_ofQ] at hneg
  have hflo := fun w => QFloor_ok (ofQ (-s)) w (by rw [Lr_ofQ]; omega)
  rw [toQ_ofQ] at hflo
  have hneg2 := fun w => QNegate_ok (ofQ (((-s).floor : Int) : Rat)) w (by rw [Lr_ofQ]; omega)
  rw [toQ_ofQ, ← hUe] at hneg2
  have hsub := fun w => QSubtract_ok (ofQ ((U : Int) : Rat)) (ofQ s) w (by rw [Lr_ofQ, Lr_ofQ]; omega)
  rw [toQ_ofQ, toQ_ofQ, ← hr] at hsub
  refine enter Tryd.func6 rfl Tryd.ntmps6 rfl ?_
  repeat (with_reducible first | refine c_seq ?_ | refine c_block ?_ | refine c_skip ?_ | refine x_then ?_ | refine x_block ?_)
  refine c_reg ?_
  refine l_pure rfl (s_asg  rfl ?_)
  refine l_nil ?_
  repeat (with_reducible first | refine c_seq ?_ | refine c_block ?_ | refine c_skip ?_ | refine x_then ?_ | refine x_block ?_)
  refine c_reg ?_
  refine l_pure rfl (s_move  rfl ?_)
  refine l_heavy rfl (s_call Tryd.call7 rfl (Amounts_gl vl l 12 _ (hl.below hS.below) hlb (by decide)) ?_)
  rintro x w1 ⟨LW, hG, hSw⟩
  rw [← hw0] at hG
  replace hS := (hS.join hSw).cast (List.append_nil LW)
  refine l_pure rfl (s_asg  rfl ?_)
  refine l_nil ?_
  repeat (with_reducible first | refine c_seq ?_ | refine c_block ?_ | refine c_skip ?_ | refine x_then ?_ | refine x_block ?_)
  refine c_reg ?_
  refine l_pure rfl (s_move  rfl ?_)
  refine l_heavy rfl (s_call Tryd.call9 rfl (hsum x _ (hG.sl (H := []) hS encR_len)) ?_)
  rintro _ wc1 ⟨rfl, hBc1⟩
  replace hS := hS.grow hBc1
  refine l_heavy rfl (s_call Tryd.call20 rfl (hneg _) ?_)
  rintro _ wc2 ⟨rfl, hBc2⟩
  replace hS := hS.grow hBc2
  refine l_heavy rfl (s_call Tryd.call21 rfl (hflo _) ?_)
  rintro _ wc3 ⟨rfl, hBc3⟩
  replace hS := hS.grow hBc3
  refine l_heavy rfl (s_call Tryd.call20 rfl (hneg2 _) ?_)
  rintro _ wc4 ⟨rfl, hBc4⟩
  replace hS := hS.grow hBc4
  refine l_heavy rfl (s_alloc  vi_31 hS ?_)
  intro b4 wz5 hS hBz5
  refine l_heavy rfl (s_sta (k := 0)  rfl rfl vi_31 hS rfl rfl rfl (Nat.le_of_ble_eq_true rfl) rfl ?_)
  intro wz6 hS
  refine l_nil ?_
  repeat (with_reducible first | refine c_seq ?_ | refine c_block ?_ | refine c_skip ?_ | refine x_then ?_ | refine x_block ?_)
  replace hS : St w _ ([(b4, 31, encR (ofQ ((U : Int) : Rat)))] ++ LW) := hS
  repeat (with_reducible first | refine c_seq ?_ | refine c_block ?_ | refine c_skip ?_ | refine x_then ?_ | refine x_block ?_)
  refine c_draw [(0, .pure), (1, .read), (2, .pure), (3, .grow), (4, .grow), (5, .grow), (6, .free), (7, .pure)] (by kernel_rfl) (by kernel_rfl) hS ?_
  intro wz7 hS hBz7
  refine w_pure rfl rfl (s_move  rfl ?_)
  refine w_read rfl rfl (s_ldo (k := 0)  rfl vi_31 hS rfl rfl rfl (.inl rfl) ?_)
  refine w_pure rfl rfl (s_move  rfl ?_)
  refine w_grow rfl rfl (s_call Tryd.call9 rfl (hsum x _ (hG.sl hS encR_len)) ?_)
  rintro _ wc8 ⟨rfl, hBc8⟩
  replace hS := hS.grow hBc8
  refine ⟨hBc8, ?_⟩
  refine w_grow rfl rfl (s_call Tryd.call16 rfl (hsub _) ?_)
  rintro _ wc9 ⟨rfl, hBc9⟩
  replace hS := hS.grow hBc9
  refine ⟨hBc9, ?_⟩
  refine w_grow rfl rfl (s_bsl (vs := [aggR (ofQ r)])  rfl si_24 rfl (by decide) (by decide) (by decide) (by simp [Value.cells, aggR]) rfl hS ?_)
  intro bx wz10 hS hBz10
  refine ⟨hBz10, ?_⟩
  refine w_free rfl rfl (s_appl [ofQ r]  rfl rfl si_24 (by decide) hG hS rfl rfl encR_len (encR_one [ofQ r]) (by first | omega | (simp only [List.length_cons, List.length_nil]; omega)) (by first | omega | (simp only [List.length_cons, List.length_nil]; omega)) ?_)
  intro va11 La11 wa11 hG hS hga11
  refine w_pure rfl rfl (s_asg  rfl ?_)
  refine w_end ?_
  repeat (with_reducible first | refine c_seq ?_ | refine c_block ?_ | refine c_skip ?_ | refine x_then ?_ | refine x_block ?_)
  rw [← hwsr] at hG
  repeat (with_reducible first | refine c_seq ?_ | refine c_block ?_ | refine c_skip ?_ | refine x_then ?_ | refine x_block ?_)
  refine c_reg ?_
  refine l_pure rfl (s_move  rfl ?_)
  refine l_heavy rfl (s_call Tryd.call22 rfl (Largest_ok _ ws 60 _ (hG.sl hS encR_len) hRB (by omega) (by omega)) ?_)
  rintro q w5 ⟨⟨va, rfl, hva⟩, hB5⟩
  rw [he]
  rw [hL] at hva
  replace hS := hS.grow hB5
  have hat4 : At w5 ⟨b4, 0, none⟩ (encR (ofQ ((U : Int) : Rat))) := hS.at (k := 0) rfl 0 3
  have hvx := hG.sl hS encR_len
  have hW := hS.below
  clear hS
  have hS := St.init w5
  refine l_pure rfl (s_move  rfl ?_)
  refine l_pure rfl (s_ext  rfl rfl ?_)
  refine l_pure rfl (s_ext  rfl rfl ?_)
  refine l_pure rfl (s_asg  rfl ?_)
  refine l_pure rfl (s_asg  rfl ?_)
  refine l_nil ?_
  repeat (with_reducible first | refine c_seq ?_ | refine c_block ?_ | refine c_skip ?_ | refine x_then ?_ | refine x_block ?_)
  have hlsum := fun v w h => lsum_ok v res n w h hrg
  rw [hrs] at hlsum
  have hqi := fun w => QInt_ok U w (by omega) (by omega)
  repeat (with_reducible first | refine c_seq ?_ | refine c_block ?_ | refine c_skip ?_ | refine x_then ?_ | refine x_block ?_)
  refine c_draw [(0, .pure), (1, .pure), (2, .pure), (3, .pure), (4, .pure), (5, .pure), (6, .pure), (7, .pure), (8, .pure), (9, .pure), (10, .pure), (13, .read), (11, .grow), (12, .grow), (14, .pure), (15, .pure)] (by kernel_rfl) (by kernel_rfl) hS ?_
  intro wz12 hS hBz12
  refine w_pure rfl rfl (s_move  rfl ?_)
  refine w_pure rfl rfl (s_neq  rfl rfl ?_)
  refine w_pure rfl rfl (s_move  rfl ?_)
  refine w_pure rfl (gd_yes 34 (by kernel_rfl) rfl (decide_eq_false (by decide))) (s_move  rfl ?_)
  refine w_pure rfl (gd_yes 34 (by kernel_rfl) rfl (decide_eq_false (by decide))) (s_lenr  rfl (hva.below hS.below) ⟨_, Tryd.underlying26⟩ ?_)
  refine w_pure rfl (gd_yes 34 (by kernel_rfl) rfl (decide_eq_false (by decide))) (s_move  rfl ?_)
  refine w_pure rfl (gd_yes 34 (by kernel_rfl) rfl (decide_eq_false (by decide))) (s_lenr  rfl (hvx.below hS.below) ⟨_, Tryd.underlying24⟩ ?_)
  refine w_pure rfl (gd_yes 34 (by kernel_rfl) rfl (decide_eq_false (by decide))) (s_neq  rfl rfl ?_)
  refine w_pure rfl rfl (s_pick (vb rfl (decide_eq_false (by decide))) rfl ?_)
  refine w_pure rfl rfl (s_move  rfl ?_)
  refine w_pure rfl (gd_yes 41 (by kernel_rfl) rfl (decide_eq_false (by omega))) (s_move  rfl ?_)
  refine w_read rfl (gd_yes 41 (by kernel_rfl) rfl (decide_eq_false (by omega))) (s_ld  rfl vi_31 (hat4.below hS.below) rfl rfl (.inl rfl) ?_)
  refine w_grow rfl (gd_yes 41 (by kernel_rfl) rfl (decide_eq_false (by omega))) (s_call Tryd.call12 rfl (hlsum _ _ (hva.below hS.below)) ?_)
  rintro _ wq13 ⟨rfl, hq13⟩
  replace hq13 := hq13.symm
  subst hq13
  refine ⟨Below.refl _ _, ?_⟩
  refine w_grow rfl (gd_yes 41 (by kernel_rfl) rfl (decide_eq_false (by omega))) (s_call Tryd.call15 rfl (hqi _) ?_)
  rintro _ wc14 ⟨rfl, hBc14⟩
  replace hS := hS.grow hBc14
  refine ⟨hBc14, ?_⟩
  refine w_pure rfl (gd_yes 41 (by kernel_rfl) rfl (decide_eq_false (by omega))) (s_neR  rfl rfl ?_)
  refine w_pure rfl rfl (s_pick (vb rfl (decide_eq_false (by omega))) rfl ?_)
  refine w_end ?_
  repeat (with_reducible first | refine c_seq ?_ | refine c_block ?_ | refine c_skip ?_ | refine x_then ?_ | refine x_block ?_)
  refine c_no rfl (decide_eq_false (fun g => g rfl)) ?_
  repeat (with_reducible first | refine c_seq ?_ | refine c_block ?_ | refine c_skip ?_ | refine x_then ?_ | refine x_block ?_)
  refine c_forget (fun ρ' => ρ' 3 = va11 ∧ ρ' 5 = va ∧ True) ⟨rfl, rfl, trivial⟩ ?_
  rintro ρk15 ⟨hk15_3, hk15_5, -⟩
  repeat (with_reducible first | refine c_seq ?_ | refine c_block ?_ | refine c_skip ?_ | refine x_then ?_ | refine x_block ?_)
  refine c_reg ?_
  refine l_pure rfl (s_move  hk15_5 ?_)
  refine l_pure rfl (s_lenr  rfl (hva.below hS.below) ⟨_, Tryd.underlying26⟩ ?_)
  refine l_pure rfl (s_move  rfl ?_)
  refine l_nil ?_
  repeat (with_reducible first | refine c_seq ?_ | refine c_block ?_ | refine c_skip ?_ | refine x_then ?_ | refine x_block ?_)
  refine c_loop (σ := Nat) (fun i ρ w' => i ≤ n ∧ ρ 3 = va11 ∧ ρ 5 = va ∧ ρ 49 = .int .i64 n ∧ ρ 50 = .int .i64 i ∧ St w5 w' []) (fun i => n - i) 0
    ⟨Nat.zero_le _, by assumption, by assumption, vi rfl (by omega), rfl, hS⟩ ?_
  clear hS
  rintro i ρ w6 ⟨hi, h3, h5, h49, h50, hS⟩
  repeat (with_reducible first | refine c_seq ?_ | refine c_block ?_ | refine c_skip ?_ | refine x_then ?_ | refine x_block ?_)
  refine c_reg ?_
  refine l_pure rfl (s_lss  h50 h49 ?_)
  refine l_nil ?_
  repeat (with_reducible first | refine c_seq ?_ | refine c_block ?_ | refine c_skip ?_ | refine x_then ?_ | refine x_block ?_)
  by_cases hlt : i < n
  · refine c_yes rfl (decide_eq_true (by omega)) ?_
    repeat (with_reducible first | refine c_seq ?_ | refine c_block ?_ | refine c_skip ?_ | refine x_then ?_ | refine x_block ?_)
    refine c_reg ?_
    refine l_pure rfl (s_move  h50 ?_)
    refine l_pure rfl (s_asg  rfl ?_)
    refine l_nil ?_
    repeat (with_reducible first | refine c_seq ?_ | refine c_block ?_ | refine c_skip ?_ | refine x_then ?_ | refine x_block ?_)
    refine c_reg ?_
    refine l_pure rfl (s_move  h5 ?_)
    refine l_pure rfl (s_lenr  rfl (hva.below hS.below) ⟨_, Tryd.underlying26⟩ ?_)
    refine l_pure rfl (s_move  rfl ?_)
    refine l_nil ?_
    repeat (with_reducible first | refine c_seq ?_ | refine c_skip ?_ | refine x_then ?_ | refine x_block ?_)
    refine c_cut1 (fun ρ w' => ρ 3 = va11 ∧ ρ 5 = va ∧ ρ 49 = .int .i64 n ∧ ρ 50 = .int .i64 i ∧ St w5 w' []) ?_ ?_
    · repeat (with_reducible first | refine c_seq ?_ | refine c_block ?_ | refine c_skip ?_ | refine x_then ?_ | refine x_block ?_)
      refine c_loop (σ := Nat) (fun k ρ w' => k ≤ n ∧ ρ 3 = va11 ∧ ρ 5 = va ∧ ρ 49 = .int .i64 n ∧ ρ 50 = .int .i64 i ∧ ρ 7 = .int .i64 i ∧ ρ 54 = .int .i64 n ∧ ρ 55 = .int .i64 k ∧ St w5 w' []) (fun k => n - k) 0
        ⟨Nat.zero_le _, by assumption, by assumption, by assumption, by assumption, rfl, vi rfl (by omega), rfl, hS⟩ ?_
      clear hS h3 h5 h49 h50
      rintro k ρ w7 ⟨hk, h3, h5, h49, h50, h7, h54, h55, hS⟩
      repeat (with_reducible first | refine c_seq ?_ | refine c_block ?_ | refine c_skip ?_ | refine x_then ?_ | refine x_block ?_)
      refine c_reg ?_
      refine l_pure rfl (s_lss  h55 h54 ?_)
      refine l_nil ?_
      repeat (with_reducible first | refine c_seq ?_ | refine c_block ?_ | refine c_skip ?_ | refine x_then ?_ | refine x_block ?_)
      by_cases hkt : k < n
      · refine c_yes rfl (decide_eq_true (by omega)) ?_
        repeat (with_reducible first | refine c_seq ?_ | refine c_block ?_ | refine c_skip ?_ | refine x_then ?_ | refine x_block ?_)
        obtain ⟨wi, hwi⟩ : ∃ q, q = ws.getD i zRR := ⟨_, rfl⟩
        obtain ⟨wk, hwk⟩ : ∃ q, q = ws.getD k zRR := ⟨_, rfl⟩
        have hLi : Lr wi ≤ 60 := by rw [hwi]; exact hRB _ (getD_mem ws i zRR (by omega))
        have hLk : Lr wk ≤ 60 := by rw [hwk]; exact hRB _ (getD_mem ws k zRR (by omega))
        obtain ⟨qi, hqi'⟩ : ∃ q, q = toQ wi := ⟨_, rfl⟩
        obtain ⟨qk, hqk'⟩ : ∃ q, q = toQ wk := ⟨_, rfl⟩
        have hLqi := L_toQ wi
        have hLqk := L_toQ wk
        have hf1 := fun w => QFloor_ok wi w (by omega)
        have hf2 := fun w => QFloor_ok wk w (by omega)
        have hffi := L_floor (toQ wi)
        have hffk := L_floor (toQ wk)
        have hs1 := fun w => QSubtract_ok wi (ofQ ((toQ wi).floor : Rat)) w (by rw [Lr_ofQ]; omega)
        have hs2 := fun w => QSubtract_ok wk (ofQ ((toQ wk).floor : Rat)) w (by rw [Lr_ofQ]; omega)
        rw [toQ_ofQ] at hs1 hs2
        have hLfi := L_sub (toQ wi) ((toQ wi).floor : Rat)
        have hLfk := L_sub (toQ wk) ((toQ wk).floor : Rat)
        have hfi' := hfq i
        have hfk' := hfq k
        obtain ⟨g1, g2⟩ : (∀ _ : qi < ((res i : Int) : Rat), ∀ _ : ((res k : Int) : Rat) < qk, ¬ frQ (qA ws) i < frQ (qA ws) k) ∧ (∀ _ : qi < ((res i : Int) : Rat), ∀ _ : ((res k : Int) : Rat) < qk, frQ (qA ws) i = frQ (qA ws) k → ¬ k < i) := by
          rw [hqi', hqk', hwi, hwk]
          exact ⟨fun a b => (hfr i k hkt a b).1, fun a b => (hfr i k hkt a b).2⟩
        rw [← hwi] at hfi'
        rw [← hwk] at hfk'
        rw [hfi', hfk'] at g1 g2
        obtain ⟨fi, hfi⟩ : ∃ q, q = toQ wi - (((toQ wi).floor : Int) : Rat) := ⟨_, rfl⟩
        obtain ⟨fk, hfk⟩ : ∃ q, q = toQ wk - (((toQ wk).floor : Int) : Rat) := ⟨_, rfl⟩
        rw [← hfi] at hs1 hLfi
        rw [← hfk] at hs2 hLfk
        rw [← hfi, ← hfk] at g1 g2
        clear hfi' hfk'
        repeat (with_reducible first | refine c_seq ?_ | refine c_block ?_ | refine c_skip ?_ | refine x_then ?_ | refine x_block ?_)
        refine c_reg ?_
        refine l_pure rfl (s_move  h55 ?_)
        refine l_pure rfl (s_asg  rfl ?_)
        refine l_nil ?_
        repeat (with_reducible first | refine c_seq ?_ | refine c_block ?_ | refine c_skip ?_ | refine x_then ?_ | refine x_block ?_)
        refine c_cut1 (fun ρ w' => ρ 3 = va11 ∧ ρ 5 = va ∧ ρ 49 = .int .i64 n ∧ ρ 50 = .int .i64 i ∧ ρ 7 = .int .i64 i ∧ ρ 8 = .int .i64 k ∧ ρ 54 = .int .i64 n ∧ ρ 55 = .int .i64 k ∧ ∃ b9 b10, ρ 9 = .pointer (some ⟨b9, 0, none⟩) ∧ ρ 10 = .pointer (some ⟨b10, 0, none⟩) ∧ St w5 w' [(b9, 31, encR (ofQ fi)), (b10, 31, encR (ofQ fk))]) ?_ ?_
        · repeat (with_reducible first | refine c_seq ?_ | refine c_block ?_ | refine c_skip ?_ | refine x_then ?_ | refine x_block ?_)
          refine c_all 24 [(0, .pure), (1, .pure), (2, .pure), (3, .read), (4, .pure), (5, .pure), (6, .pure), (7, .read), (8, .grow), (9, .grow), (10, .pure), (11, .pure), (12, .pure), (13, .read), (14, .pure), (15, .pure), (16, .pure), (17, .read), (18, .grow), (19, .grow), (20, .grow), (21, .grow), (22, .free), (23, .free)] (by kernel_rfl) (by kernel_rfl) hS ?_
          intro wz16 hS hBz16
          refine z_pure (i := 0) (U' := [(1, .pure), (2, .pure), (3, .read), (4, .pure), (5, .pure), (6, .pure), (7, .read), (8, .grow), (9, .grow), (10, .pure), (11, .pure), (12, .pure), (13, .read), (14, .pure), (15, .pure), (16, .pure), (17, .read), (18, .grow), (19, .grow), (20, .grow), (21, .grow), (22, .free), (23, .free)]) (by kernel_rfl) (by kernel_rfl) rfl rfl (s_move  h3 ?_)
          refine z_pure (i := 1) (U' := [(2, .pure), (3, .read), (4, .pure), (5, .pure), (6, .pure), (7, .read), (8, .grow), (9, .grow), (10, .pure), (11, .pure), (12, .pure), (13, .read), (14, .pure), (15, .pure), (16, .pure), (17, .read), (18, .grow), (19, .grow), (20, .grow), (21, .grow), (22, .free), (23, .free)]) (by kernel_rfl) (by kernel_rfl) rfl rfl (s_move  h7 ?_)
          refine z_pure (i := 2) (U' := [(3, .read), (4, .pure), (5, .pure), (6, .pure), (7, .read), (8, .grow), (9, .grow), (10, .pure), (11, .pure), (12, .pure), (13, .read), (14, .pure), (15, .pure), (16, .pure), (17, .read), (18, .grow), (19, .grow), (20, .grow), (21, .grow), (22, .free), (23, .free)]) (by kernel_rfl) (by kernel_rfl) rfl rfl (s_ixr (i := i)  rfl rfl (hvx.below hS.below) (by omega) (by first | omega | (simp; done) | (simp; omega)) si_24 ?_)
          refine z_read (i := 3) (U' := [(4, .pure), (5, .pure), (6, .pure), (7, .read), (8, .grow), (9, .grow), (10, .pure), (11, .pure), (12, .pure), (13, .read), (14, .pure), (15, .pure), (16, .pure), (17, .read), (18, .grow), (19, .grow), (20, .grow), (21, .grow), (22, .free), (23, .free)]) (by kernel_rfl) (by kernel_rfl) rfl rfl (s_lde (i := i) zRR  rfl vi_31 (hvx.below hS.below) (by first | omega | (simp; done) | (simp; omega)) rfl rfl (.inl rfl) ?_)
          refine z_pure (i := 4) (U' := [(5, .pure), (6, .pure), (7, .read), (8, .grow), (9, .grow), (10, .pure), (11, .pure), (12, .pure), (13, .read), (14, .pure), (15, .pure), (16, .pure), (17, .read), (18, .grow), (19, .grow), (20, .grow), (21, .grow), (22, .free), (23, .free)]) (by kernel_rfl) (by kernel_rfl) rfl rfl (s_move  h3 ?_)
          refine z_pure (i := 5) (U' := [(6, .pure), (7, .read), (8, .grow), (9, .grow), (10, .pure), (11, .pure), (12, .pure), (13, .read), (14, .pure), (15, .pure), (16, .pure), (17, .read), (18, .grow), (19, .grow), (20, .grow), (21, .grow), (22, .free), (23, .free)]) (by kernel_rfl) (by kernel_rfl) rfl rfl (s_move  h7 ?_)
          refine z_pure (i := 6) (U' := [(7, .read), (8, .grow), (9, .grow), (10, .pure), (11, .pure), (12, .pure), (13, .read), (14, .pure), (15, .pure), (16, .pure), (17, .read), (18, .grow), (19, .grow), (20, .grow), (21, .grow), (22, .free), (23, .free)]) (by kernel_rfl) (by kernel_rfl) rfl rfl (s_ixr (i := i)  rfl rfl (hvx.below hS.below) (by omega) (by first | omega | (simp; done) | (simp; omega)) si_24 ?_)
          refine z_read (i := 7) (U' := [(8, .grow), (9, .grow), (10, .pure), (11, .pure), (12, .pure), (13, .read), (14, .pure), (15, .pure), (16, .pure), (17, .read), (18, .grow), (19, .grow), (20, .grow), (21, .grow), (22, .free), (23, .free)]) (by kernel_rfl) (by kernel_rfl) rfl rfl (s_lde (i := i) zRR  rfl vi_31 (hvx.below hS.below) (by first | omega | (simp; done) | (simp; omega)) rfl rfl (.inl rfl) ?_)
          refine z_pure (i := 10) (U' := [(8, .grow), (9, .grow), (11, .pure), (12, .pure), (13, .read), (14, .pure), (15, .pure), (16, .pure), (17, .read), (18, .grow), (19, .grow), (20, .grow), (21, .grow), (22, .free), (23, .free)]) (by kernel_rfl) (by kernel_rfl) rfl rfl (s_move  h3 ?_)
          refine z_pure (i := 11) (U' := [(8, .grow), (9, .grow), (12, .pure), (13, .read), (14, .pure), (15, .pure), (16, .pure), (17, .read), (18, .grow), (19, .grow), (20, .grow), (21, .grow), (22, .free), (23, .free)]) (by kernel_rfl) (by kernel_rfl) rfl rfl (s_move  rfl ?_)
          refine z_pure (i := 12) (U' := [(8, .grow), (9, .grow), (13, .read), (14, .pure), (15, .pure), (16, .pure), (17, .read), (18, .grow), (19, .grow), (20, .grow), (21, .grow), (22, .free), (23, .free)]) (by kernel_rfl) (by kernel_rfl) rfl rfl (s_ixr (i := k)  rfl rfl (hvx.below hS.below) (by omega) (by first | omega | (simp; done) | (simp; omega)) si_24 ?_)
          refine z_read (i := 13) (U' := [(8, .grow), (9, .grow), (14, .pure), (15, .pure), (16, .pure), (17, .read), (18, .grow), (19, .grow), (20, .grow), (21, .grow), (22, .free), (23, .free)]) (by kernel_rfl) (by kernel_rfl) rfl rfl (s_lde (i := k) zRR  rfl vi_31 (hvx.below hS.below) (by first | omega | (simp; done) | (simp; omega)) rfl rfl (.inl rfl) ?_)
          refine z_pure (i := 14) (U' := [(8, .grow), (9, .grow), (15, .pure), (16, .pure), (17, .read), (18, .grow), (19, .grow), (20, .grow), (21, .grow), (22, .free), (23, .free)]) (by kernel_rfl) (by kernel_rfl) rfl rfl (s_move  h3 ?_)
          refine z_pure (i := 15) (U' := [(8, .grow), (9, .grow), (16, .pure), (17, .read), (18, .grow), (19, .grow), (20, .grow), (21, .grow), (22, .free), (23, .free)]) (by kernel_rfl) (by kernel_rfl) rfl rfl (s_move  rfl ?_)
          refine z_pure (i := 16) (U' := [(8, .grow), (9, .grow), (17, .read), (18, .grow), (19, .grow), (20, .grow), (21, .grow), (22, .free), (23, .free)]) (by kernel_rfl) (by kernel_rfl) rfl rfl (s_ixr (i := k)  rfl rfl (hvx.below hS.below) (by omega) (by first | omega | (simp; done) | (simp; omega)) si_24 ?_)
          refine z_read (i := 17) (U' := [(8, .grow), (9, .grow), (18, .grow), (19, .grow), (20, .grow), (21, .grow), (22, .free), (23, .free)]) (by kernel_rfl) (by kernel_rfl) rfl rfl (s_lde (i := k) zRR  rfl vi_31 (hvx.below hS.below) (by first | omega | (simp; done) | (simp; omega)) rfl rfl (.inl rfl) ?_)
          rw [← hwi, ← hwk]
          refine z_three (x := (8, .grow)) (y := (20, .grow)) (z := (21, .grow)) (U1 := [(9, .grow), (18, .grow), (19, .grow), (20, .grow), (21, .grow), (22, .free), (23, .free)]) (U2 := [(8, .grow), (9, .grow), (18, .grow), (19, .grow), (21, .grow), (22, .free), (23, .free)]) (U3 := [(8, .grow), (9, .grow), (18, .grow), (19, .grow), (20, .grow), (22, .free), (23, .free)]) (by kernel_rfl) (by kernel_rfl) (by kernel_rfl) (by kernel_rfl) ?_ ?_ ?_
          · refine z_grow rfl rfl (s_call Tryd.call21 rfl (hf1 _) ?_)
            rintro r wt2 ⟨rfl, hBt2⟩
            refine ⟨hBt2, ?_⟩
            replace hS := hS.grow hBt2
            refine z_three (x := (9, .grow)) (y := (20, .grow)) (z := (21, .grow)) (U1 := [(18, .grow), (19, .grow), (20, .grow), (21, .grow), (22, .free), (23, .free)]) (U2 := [(9, .grow), (18, .grow), (19, .grow), (21, .grow), (22, .free), (23, .free)]) (U3 := [(9, .grow), (18, .grow), (19, .grow), (20, .grow), (22, .free), (23, .free)]) (by kernel_rfl) (by kernel_rfl) (by kernel_rfl) (by kernel_rfl) ?_ ?_ ?_
            · refine z_grow rfl rfl (s_call Tryd.call16 rfl (hs1 _) ?_)
              rintro r wt4 ⟨rfl, hBt4⟩
              refine ⟨hBt4, ?_⟩
              replace hS := hS.grow hBt4
              refine z_three (x := (18, .grow)) (y := (20, .grow)) (z := (21, .grow)) (U1 := [(19, .grow), (20, .grow), (21, .grow), (22, .free), (23, .free)]) (U2 := [(18, .grow), (19, .grow), (21, .grow), (22, .free), (23, .free)]) (U3 := [(18, .grow), (19, .grow), (20, .grow), (22, .free), (23, .free)]) (by kernel_rfl) (by kernel_rfl) (by kernel_rfl) (by kernel_rfl) ?_ ?_ ?_
              · refine z_grow rfl rfl (s_call Tryd.call21 rfl (hf2 _) ?_)
                rintro r wt6 ⟨rfl, hBt6⟩
                refine ⟨hBt6, ?_⟩
                replace hS := hS.grow hBt6
                refine z_three (x := (19, .grow)) (y := (20, .grow)) (z := (21, .grow)) (U1 := [(20, .grow), (21, .grow), (22, .free), (23, .free)]) (U2 := [(19, .grow), (21, .grow), (22, .free), (23, .free)]) (U3 := [(19, .grow), (20, .grow), (22, .free), (23, .free)]) (by kernel_rfl) (by kernel_rfl) (by kernel_rfl) (by kernel_rfl) ?_ ?_ ?_
                · refine z_grow rfl rfl (s_call Tryd.call16 rfl (hs2 _) ?_)
                  rintro r wt8 ⟨rfl, hBt8⟩
                  refine ⟨hBt8, ?_⟩
                  replace hS := hS.grow hBt8
                  refine z_two (x := (20, .grow)) (y := (21, .grow)) (U' := [(21, .grow), (22, .free), (23, .free)]) (U'' := [(20, .grow), (22, .free), (23, .free)]) (by kernel_rfl) (by kernel_rfl) (by kernel_rfl) ?_ ?_
                  · refine z_grow rfl rfl (s_alloc  vi_31 hS ?_)
                    intro b9 wz17 hS hBz17
                    refine ⟨hBz17, ?_⟩
                    refine z_one (x := (21, .grow)) (U' := [(22, .free), (23, .free)]) (by kernel_rfl) (by kernel_rfl) ?_
                    refine z_grow rfl rfl (s_alloc  vi_31 hS ?_)
                    intro b10 wz18 hS hBz18
                    refine ⟨hBz18, ?_⟩
                    refine z_one (x := (22, .free)) (U' := [(23, .free)]) (by kernel_rfl) (by kernel_rfl) ?_
                    refine z_free rfl rfl (s_sta (k := 1)  rfl rfl vi_31 hS rfl rfl rfl (Nat.le_of_ble_eq_true rfl) rfl ?_)
                    intro wz19 hS
                    refine z_one (x := (23, .free)) (U' := []) (by kernel_rfl) (by kernel_rfl) ?_
                    refine z_free rfl rfl (s_sta (k := 0)  rfl rfl vi_31 hS rfl rfl rfl (Nat.le_of_ble_eq_true rfl) rfl ?_)
                    intro wz20 hS
                    refine z_end ?_
                    repeat (with_reducible first | refine c_seq ?_ | refine c_block ?_ | refine c_skip ?_ | refine x_then ?_ | refine x_block ?_)
                    replace hS := hS.perm (List.Perm.swap _ _ _)
                    replace hS : St w5 _ [(b9, 31, encR (ofQ fi)), (b10, 31, encR (ofQ fk))] := hS
                    exact ⟨_, rfl, by assumption, by assumption, by assumption, by assumption, by assumption, rfl, by assumption, by assumption, b9, b10, rfl, rfl, hS⟩
                  · refine z_grow rfl rfl (s_alloc  vi_31 hS ?_)
                    intro b10 wz21 hS hBz21
                    refine ⟨hBz21, ?_⟩
                    refine z_one (x := (20, .grow)) (U' := [(22, .free), (23, .free)]) (by kernel_rfl) (by kernel_rfl) ?_
                    refine z_grow rfl rfl (s_alloc  vi_31 hS ?_)
                    intro b9 wz22 hS hBz22
                    refine ⟨hBz22, ?_⟩
                    refine z_one (x := (22, .free)) (U' := [(23, .free)]) (by kernel_rfl) (by kernel_rfl) ?_
                    refine z_free rfl rfl (s_sta (k := 0)  rfl rfl vi_31 hS rfl rfl rfl (Nat.le_of_ble_eq_true rfl) rfl ?_)
                    intro wz23 hS
                    refine z_one (x := (23, .free)) (U' := []) (by kernel_rfl) (by kernel_rfl) ?_
                    refine z_free rfl rfl (s_sta (k := 1)  rfl rfl vi_31 hS rfl rfl rfl (Nat.le_of_ble_eq_true rfl) rfl ?_)
                    intro wz24 hS
                    refine z_end ?_
                    repeat (with_reducible first | refine c_seq ?_ | refine c_block ?_ | refine c_skip ?_ | refine x_then ?_ | refine x_block ?_)
                    replace hS : St w5 _ [(b9, 31, encR (ofQ fi)), (b10, 31, encR (ofQ fk))] := hS
                    exact ⟨_, rfl, by assumption, by assumption, by assumption, by assumption, by assumption, rfl, by assumption, by assumption, b9, b10, rfl, rfl, hS⟩
                · refine z_grow rfl rfl (s_alloc  vi_31 hS ?_)
                  intro b9 wz25 hS hBz25
                  refine ⟨hBz25, ?_⟩
                  refine z_two (x := (19, .grow)) (y := (21, .grow)) (U' := [(21, .grow), (22, .free), (23, .free)]) (U'' := [(19, .grow), (22, .free), (23, .free)]) (by kernel_rfl) (by kernel_rfl) (by kernel_rfl) ?_ ?_
                  · refine z_grow rfl rfl (s_call Tryd.call16 rfl (hs2 _) ?_)
                    rintro r wt20 ⟨rfl, hBt20⟩
                    refine ⟨hBt20, ?_⟩
                    replace hS := hS.grow hBt20
                    refine z_one (x := (21, .grow)) (U' := [(22, .free), (23, .free)]) (by kernel_rfl) (by kernel_rfl) ?_
                    refine z_grow rfl rfl (s_alloc  vi_31 hS ?_)
                    intro b10 wz26 hS hBz26
                    refine ⟨hBz26, ?_⟩
                    refine z_one (x := (22, .free)) (U' := [(23, .free)]) (by kernel_rfl) (by kernel_rfl) ?_
                    refine z_free rfl rfl (s_sta (k := 1)  rfl rfl vi_31 hS rfl rfl rfl (Nat.le_of_ble_eq_true rfl) rfl ?_)
                    intro wz27 hS
                    refine z_one (x := (23, .free)) (U' := []) (by kernel_rfl) (by kernel_rfl) ?_
                    refine z_free rfl rfl (s_sta (k := 0)  rfl rfl vi_31 hS rfl rfl rfl (Nat.le_of_ble_eq_true rfl) rfl ?_)
                    intro wz28 hS
                    refine z_end ?_
                    repeat (with_reducible first | refine c_seq ?_ | refine c_block ?_ | refine c_skip ?_ | refine x_then ?_ | refine x_block ?_)
                    replace hS := hS.perm (List.Perm.swap _ _ _)
                    replace hS : St w5 _ [(b9, 31, encR (ofQ fi)), (b10, 31, encR (ofQ fk))] := hS
                    exact ⟨_, rfl, by assumption, by assumption, by assumption, by assumption, by assumption, rfl, by assumption, by assumption, b9, b10, rfl, rfl, hS⟩
                  · refine z_grow rfl rfl (s_alloc  vi_31 hS ?_)
                    intro b10 wz29 hS hBz29
                    refine ⟨hBz29, ?_⟩
                    refine z_one (x := (19, .grow)) (U' := [(22, .free), (23, .free)]) (by kernel_rfl) (by kernel_rfl) ?_
                    refine z_grow rfl rfl (s_call Tryd.call16 rfl (hs2 _) ?_)
                    rintro r wt25 ⟨rfl, hBt25⟩
                    refine ⟨hBt25, ?_⟩
                    replace hS := hS.grow hBt25
                    refine z_one (x := (22, .free)) (U' := [(23, .free)]) (by kernel_rfl) (by kernel_rfl) ?_
                    refine z_free rfl rfl (s_sta (k := 1)  rfl rfl vi_31 hS rfl rfl rfl (Nat.le_of_ble_eq_true rfl) rfl ?_)
                    intro wz30 hS
                    refine z_one (x := (23, .free)) (U' := []) (by kernel_rfl) (by kernel_rfl) ?_
                    refine z_free rfl rfl (s_sta (k := 0)  rfl rfl vi_31 hS rfl rfl rfl (Nat.le_of_ble_eq_true rfl) rfl ?_)
                    intro wz31 hS
                    refine z_end ?_
                    repeat (with_reducible first | refine c_seq ?_ | refine c_block ?_ | refine c_skip ?_ | refine x_then ?_ | refine x_block ?_)
                    replace hS := hS.perm (List.Perm.swap _ _ _)
                    replace hS : St w5 _ [(b9, 31, encR (ofQ fi)), (b10, 31, encR (ofQ fk))] := hS
                    exact ⟨_, rfl, by assumption, by assumption, by assumption, by assumption, by assumption, rfl, by assumption, by assumption, b9, b10, rfl, rfl, hS⟩
                · refine z_grow rfl rfl (s_alloc  vi_31 hS ?_)
                  intro b10 wz32 hS hBz32
                  refine ⟨hBz32, ?_⟩
                  refine z_two (x := (19, .grow)) (y := (20, .grow)) (U' := [(20, .grow), (22, .free), (23, .free)]) (U'' := [(19, .grow), (22, .free), (23, .free)]) (by kernel_rfl) (by kernel_rfl) (by kernel_rfl) ?_ ?_
                  · refine z_grow rfl rfl (s_call Tryd.call16 rfl (hs2 _) ?_)
                    rintro r wt30 ⟨rfl, hBt30⟩
                    refine ⟨hBt30, ?_⟩
                    replace hS := hS.grow hBt30
                    refine z_one (x := (20, .grow)) (U' := [(22, .free), (23, .free)]) (by kernel_rfl) (by kernel_rfl) ?_
                    refine z_grow rfl rfl (s_alloc  vi_31 hS ?_)
                    intro b9 wz33 hS hBz33
                    refine ⟨hBz33, ?_⟩
                    refine z_one (x := (22, .free)) (U' := [(23, .free)]) (by kernel_rfl) (by kernel_rfl) ?_
                    refine z_free rfl rfl (s_sta (k := 0)  rfl rfl vi_31 hS rfl rfl rfl (Nat.le_of_ble_eq_true rfl) rfl ?_)
                    intro wz34 hS
                    refine z_one (x := (23, .free)) (U' := []) (by kernel_rfl) (by kernel_rfl) ?_
                    refine z_free rfl rfl (s_sta (k := 1)  rfl rfl vi_31 hS rfl rfl rfl (Nat.le_of_ble_eq_true rfl) rfl ?_)
                    intro wz35 hS
                    refine z_end ?_
                    repeat (with_reducible first | refine c_seq ?_ | refine c_block ?_ | refine c_skip ?_ | refine x_then ?_ | refine x_block ?_)
                    replace hS : St w5 _ [(b9, 31, encR (ofQ fi)), (b10, 31, encR (ofQ fk))] := hS
                    exact ⟨_, rfl, by assumption, by assumption, by assumption, by assumption, by assumption, rfl, by assumption, by assumption, b9, b10, rfl, rfl, hS⟩
                  · refine z_grow rfl rfl (s_alloc  vi_31 hS ?_)
                    intro b9 wz36 hS hBz36
                    refine ⟨hBz36, ?_⟩
                    refine z_one (x := (19, .grow)) (U' := [(22, .free), (23, .free)]) (by kernel_rfl) (by kernel_rfl) ?_
                    refine z_grow rfl rfl (s_call Tryd.call16 rfl (hs2 _) ?_)
                    rintro r wt35 ⟨rfl, hBt35⟩
                    refine ⟨hBt35, ?_⟩
                    replace hS := hS.grow hBt35
                    refine z_one (x := (22, .free)) (U' := [(23, .free)]) (by kernel_rfl) (by kernel_rfl) ?_
                    refine z_free rfl rfl (s_sta (k := 0)  rfl rfl vi_31 hS rfl rfl rfl (Nat.le_of_ble_eq_true rfl) rfl ?_)
                    intro wz37 hS
                    refine z_one (x := (23, .free)) (U' := []) (by kernel_rfl) (by kernel_rfl) ?_
                    refine z_free rfl rfl (s_sta (k := 1)  rfl rfl vi_31 hS rfl rfl rfl (Nat.le_of_ble_eq_true rfl) rfl ?_)
                    intro wz38 hS
                    refine z_end ?_
                    repeat (with_reducible first | refine c_seq ?_ | refine c_block ?_ | refine c_skip ?_ | refine x_then ?_ | refine x_block ?_)
                    replace hS : St w5 _ [(b9, 31, encR (ofQ fi)), (b10, 31, encR (ofQ fk))] := hS
                    exact ⟨_, rfl, by assumption, by assumption, by assumption, by assumption, by assumption, rfl, by assumption, by assumption, b9, b10, rfl, rfl, hS⟩
              · refine z_grow rfl rfl (s_alloc  vi_31 hS ?_)
                intro b9 wz39 hS hBz39
                refine ⟨hBz39, ?_⟩
                refine z_two (x := (18, .grow)) (y := (21, .grow)) (U' := [(19, .grow), (21, .grow), (22, .free), (23, .free)]) (U'' := [(18, .grow), (19, .grow), (22, .free), (23, .free)]) (by kernel_rfl) (by kernel_rfl) (by kernel_rfl) ?_ ?_
                · refine z_grow rfl rfl (s_call Tryd.call21 rfl (hf2 _) ?_)
                  rintro r wt40 ⟨rfl, hBt40⟩
                  refine ⟨hBt40, ?_⟩
                  replace hS := hS.grow hBt40
                  refine z_two (x := (19, .grow)) (y := (21, .grow)) (U' := [(21, .grow), (22, .free), (23, .free)]) (U'' := [(19, .grow), (22, .free), (23, .free)]) (by kernel_rfl) (by kernel_rfl) (by kernel_rfl) ?_ ?_
                  · refine z_grow rfl rfl (s_call Tryd.call16 rfl (hs2 _) ?_)
                    rintro r wt42 ⟨rfl, hBt42⟩
                    refine ⟨hBt42, ?_⟩
                    replace hS := hS.grow hBt42
                    refine z_one (x := (21, .grow)) (U' := [(22, .free), (23, .free)]) (by kernel_rfl) (by kernel_rfl) ?_
                    refine z_grow rfl rfl (s_alloc  vi_31 hS ?_)
                    intro b10 wz40 hS hBz40
                    refine ⟨hBz40, ?_⟩
                    refine z_one (x := (22, .free)) (U' := [(23, .free)]) (by kernel_rfl) (by kernel_rfl) ?_
                    refine z_free rfl rfl (s_sta (k := 1)  rfl rfl vi_31 hS rfl rfl rfl (Nat.le_of_ble_eq_true rfl) rfl ?_)
                    intro wz41 hS
                    refine z_one (x := (23, .free)) (U' := []) (by kernel_rfl) (by kernel_rfl) ?_
                    refine z_free rfl rfl (s_sta (k := 0)  rfl rfl vi_31 hS rfl rfl rfl (Nat.le_of_ble_eq_true rfl) rfl ?_)
                    intro wz42 hS
                    refine z_end ?_
                    repeat (with_reducible first | refine c_seq ?_ | refine c_block ?_ | refine c_skip ?_ | refine x_then ?_ | refine x_block ?_)
                    replace hS := hS.perm (List.Perm.swap _ _ _)
                    replace hS : St w5 _ [(b9, 31, encR (ofQ fi)), (b10, 31, encR (ofQ fk))] := hS
                    exact ⟨_, rfl, by assumption, by assumption, by assumption, by assumption, by assumption, rfl, by assumption, by assumption, b9, b10, rfl, rfl, hS⟩
                  · refine z_grow rfl rfl (s_alloc  vi_31 hS ?_)
                    intro b10 wz43 hS hBz43
                    refine ⟨hBz43, ?_⟩
                    refine z_one (x := (19, .grow)) (U' := [(22, .free), (23, .free)]) (by kernel_rfl) (by kernel_rfl) ?_
                    refine z_grow rfl rfl (s_call Tryd.call16 rfl (hs2 _) ?_)
                    rintro r wt47 ⟨rfl, hBt47⟩
                    refine ⟨hBt47, ?_⟩
                    replace hS := hS.grow hBt47
                    refine z_one (x := (22, .free)) (U' := [(23, .free)]) (by kernel_rfl) (by kernel_rfl) ?_
                    refine z_free rfl rfl (s_sta (k := 1)  rfl rfl vi_31 hS rfl rfl rfl (Nat.le_of_ble_eq_true rfl) rfl ?_)
                    intro wz44 hS
                    refine z_one (x := (23, .free)) (U' := []) (by kernel_rfl) (by kernel_rfl) ?_
                    refine z_free rfl rfl (s_sta (k := 0)  rfl rfl vi_31 hS rfl rfl rfl (Nat.le_of_ble_eq_true rfl) rfl ?_)
                    intro wz45 hS
                    refine z_end ?_
                    repeat (with_reducible first | refine c_seq ?_ | refine c_block ?_ | refine c_skip ?_ | refine x_then ?_ | refine x_block ?_)
                    replace hS := hS.perm (List.Perm.swap _ _ _)
                    replace hS : St w5 _ [(b9, 31, encR (ofQ fi)), (b10, 31, encR (ofQ fk))] := hS
                    exact ⟨_, rfl, by assumption, by assumption, by assumption, by assumption, by assumption, rfl, by assumption, by assumption, b9, b10, rfl, rfl, hS⟩
                · refine z_grow rfl rfl (s_alloc  vi_31 hS ?_)
                  intro b10 wz46 hS hBz46
                  refine ⟨hBz46, ?_⟩
                  refine z_one (x := (18, .grow)) (U' := [(19, .grow), (22, .free), (23, .free)]) (by kernel_rfl) (by kernel_rfl) ?_
                  refine z_grow rfl rfl (s_call Tryd.call21 rfl (hf2 _) ?_)
                  rintro r wt51 ⟨rfl, hBt51⟩
                  refine ⟨hBt51, ?_⟩
                  replace hS := hS.grow hBt51
                  refine z_one (x := (19, .grow)) (U' := [(22, .free), (23, .free)]) (by kernel_rfl) (by kernel_rfl) ?_
                  refine z_grow rfl rfl (s_call Tryd.call16 rfl (hs2 _) ?_)
                  rintro r wt52 ⟨rfl, hBt52⟩
                  refine ⟨hBt52, ?_⟩
                  replace hS := hS.grow hBt52
                  refine z_one (x := (22, .free)) (U' := [(23, .free)]) (by kernel_rfl) (by kernel_rfl) ?_
                  refine z_free rfl rfl (s_sta (k := 1)  rfl rfl vi_31 hS rfl rfl rfl (Nat.le_of_ble_eq_true rfl) rfl ?_)
                  intro wz47 hS
                  refine z_one (x := (23, .free)) (U' := []) (by kernel_rfl) (by kernel_rfl) ?_
                  refine z_free rfl rfl (s_sta (k := 0)  rfl rfl vi_31 hS rfl rfl rfl (Nat.le_of_ble_eq_true rfl) rfl ?_)
                  intro wz48 hS
                  refine z_end ?_
                  repeat (with_reducible first | refine c_seq ?_ | refine c_block ?_ | refine c_skip ?_ | refine x_then ?_ | refine x_block ?_)
                  replace hS := hS.perm (List.Perm.swap _ _ _)
                  replace hS : St w5 _ [(b9, 31, encR (ofQ fi)), (b10, 31, encR (ofQ fk))] := hS
                  exact ⟨_, rfl, by assumption, by assumption, by assumption, by assumption, by assumption, rfl, by assumption, by assumption, b9, b10, rfl, rfl, hS⟩
              · refine z_grow rfl rfl (s_alloc  vi_31 hS ?_)
                intro b10 wz49 hS hBz49
                refine ⟨hBz49, ?_⟩
                refine z_two (x := (18, .grow)) (y := (20, .grow)) (U' := [(19, .grow), (20, .grow), (22, .free), (23, .free)]) (U'' := [(18, .grow), (19, .grow), (22, .free), (23, .free)]) (by kernel_rfl) (by kernel_rfl) (by kernel_rfl) ?_ ?_
                · refine z_grow rfl rfl (s_call Tryd.call21 rfl (hf2 _) ?_)
                  rintro r wt57 ⟨rfl, hBt57⟩
                  refine ⟨hBt57, ?_⟩
                  replace hS := hS.grow hBt57
                  refine z_two (x := (19, .grow)) (y := (20, .grow)) (U' := [(20, .grow), (22, .free), (23, .free)]) (U'' := [(19, .grow), (22, .free), (23, .free)]) (by kernel_rfl) (by kernel_rfl) (by kernel_rfl) ?_ ?_
                  · refine z_grow rfl rfl (s_call Tryd.call16 rfl (hs2 _) ?_)
                    rintro r wt59 ⟨rfl, hBt59⟩
                    refine ⟨hBt59, ?_⟩
                    replace hS := hS.grow hBt59
                    refine z_one (x := (20, .grow)) (U' := [(22, .free), (23, .free)]) (by kernel_rfl) (by kernel_rfl) ?_
                    refine z_grow rfl rfl (s_alloc  vi_31 hS ?_)
                    intro b9 wz50 hS hBz50
                    refine ⟨hBz50, ?_⟩
                    refine z_one (x := (22, .free)) (U' := [(23, .free)]) (by kernel_rfl) (by kernel_rfl) ?_
                    refine z_free rfl rfl (s_sta (k := 0)  rfl rfl vi_31 hS rfl rfl rfl (Nat.le_of_ble_eq_true rfl) rfl ?_)
                    intro wz51 hS
                    refine z_one (x := (23, .free)) (U' := []) (by kernel_rfl) (by kernel_rfl) ?_
                    refine z_free rfl rfl (s_sta (k := 1)  rfl rfl vi_31 hS rfl rfl rfl (Nat.le_of_ble_eq_true rfl) rfl ?_)
                    intro wz52 hS
                    refine z_end ?_
                    repeat (with_reducible first | refine c_seq ?_ | refine c_block ?_ | refine c_skip ?_ | refine x_then ?_ | refine x_block ?_)
                    replace hS : St w5 _ [(b9, 31, encR (ofQ fi)), (b10, 31, encR (ofQ fk))] := hS
                    exact ⟨_, rfl, by assumption, by assumption, by assumption, by assumption, by assumption, rfl, by assumption, by assumption, b9, b10, rfl, rfl, hS⟩
                  · refine z_grow rfl rfl (s_alloc  vi_31 hS ?_)
                    intro b9 wz53 hS hBz53
                    refine ⟨hBz53, ?_⟩
                    refine z_one (x := (19, .grow)) (U' := [(22, .free), (23, .free)]) (by kernel_rfl) (by kernel_rfl) ?_
                    refine z_grow rfl rfl (s_call Tryd.call16 rfl (hs2 _) ?_)
                    rintro r wt64 ⟨rfl, hBt64⟩
                    refine ⟨hBt64, ?_⟩
                    replace hS := hS.grow hBt64
                    refine z_one (x := (22, .free)) (U' := [(23, .free)]) (by kernel_rfl) (by kernel_rfl) ?_
                    refine z_free rfl rfl (s_sta (k := 0)  rfl rfl vi_31 hS rfl rfl rfl (Nat.le_of_ble_eq_true rfl) rfl ?_)
                    intro wz54 hS
                    refine z_one (x := (23, .free)) (U' := []) (by kernel_rfl) (by kernel_rfl) ?_
                    refine z_free rfl rfl (s_sta (k := 1)  rfl rfl vi_31 hS rfl rfl rfl (Nat.le_of_ble_eq_true rfl) rfl ?_)
                    intro wz55 hS
                    refine z_end ?_
                    repeat (with_reducible first | refine c_seq ?_ | refine c_block ?_ | refine c_skip ?_ | refine x_then ?_ | refine x_block ?_)
                    replace hS : St w5 _ [(b9, 31, encR (ofQ fi)), (b10, 31, encR (ofQ fk))] := hS
                    exact ⟨_, rfl, by assumption, by assumption, by assumption, by assumption, by assumption, rfl, by assumption, by assumption, b9, b10, rfl, rfl, hS⟩
                · refine z_grow rfl rfl (s_alloc  vi_31 hS ?_)
                  intro b9 wz56 hS hBz56
                  refine ⟨hBz56, ?_⟩
                  refine z_one (x := (18, .grow)) (U' := [(19, .grow), (22, .free), (23, .free)]) (by kernel_rfl) (by kernel_rfl) ?_
                  refine z_grow rfl rfl (s_call Tryd.call21 rfl (hf2 _) ?_)
                  rintro r wt68 ⟨rfl, hBt68⟩
                  refine ⟨hBt68, ?_⟩
                  replace hS := hS.grow hBt68
                  refine z_one (x := (19, .grow)) (U' := [(22, .free), (23, .free)]) (by kernel_rfl) (by kernel_rfl) ?_
                  refine z_grow rfl rfl (s_call Tryd.call16 rfl (hs2 _) ?_)
                  rintro r wt69 ⟨rfl, hBt69⟩
                  refine ⟨hBt69, ?_⟩
                  replace hS := hS.grow hBt69
                  refine z_one (x := (22, .free)) (U' := [(23, .free)]) (by kernel_rfl) (by kernel_rfl) ?_
                  refine z_free rfl rfl (s_sta (k := 0)  rfl rfl vi_31 hS rfl rfl rfl (Nat.le_of_ble_eq_true rfl) rfl ?_)
                  intro wz57 hS
                  refine z_one (x := (23, .free)) (U' := []) (by kernel_rfl) (by kernel_rfl) ?_
                  refine z_free rfl rfl (s_sta (k := 1)  rfl rfl vi_31 hS rfl rfl rfl (Nat.le_of_ble_eq_true rfl) rfl ?_)
                  intro wz58 hS
                  refine z_end ?_
                  repeat (with_reducible first | refine c_seq ?_ | refine c_block ?_ | refine c_skip ?_ | refine x_then ?_ | refine x_block ?_)
                  replace hS : St w5 _ [(b9, 31, encR (ofQ fi)), (b10, 31, encR (ofQ fk))] := hS
                  exact ⟨_, rfl, by assumption, by assumption, by assumption, by assumption, by assumption, rfl, by assumption, by assumption, b9, b10, rfl, rfl, hS⟩
            · refine z_grow rfl rfl (s_alloc  vi_31 hS ?_)
              intro b9 wz59 hS hBz59
              refine ⟨hBz59, ?_⟩
              refine z_two (x := (9, .grow)) (y := (21, .grow)) (U' := [(18, .grow), (19, .grow), (21, .grow), (22, .free), (23, .free)]) (U'' := [(9, .grow), (18, .grow), (19, .grow), (22, .free), (23, .free)]) (by kernel_rfl) (by kernel_rfl) (by kernel_rfl) ?_ ?_
              · refine z_grow rfl rfl (s_call Tryd.call16 rfl (hs1 _) ?_)
                rintro r wt74 ⟨rfl, hBt74⟩
                refine ⟨hBt74, ?_⟩
                replace hS := hS.grow hBt74
                refine z_two (x := (18, .grow)) (y := (21, .grow)) (U' := [(19, .grow), (21, .grow), (22, .free), (23, .free)]) (U'' := [(18, .grow), (19, .grow), (22, .free), (23, .free)]) (by kernel_rfl) (by kernel_rfl) (by kernel_rfl) ?_ ?_
                · refine z_grow rfl rfl (s_call Tryd.call21 rfl (hf2 _) ?_)
                  rintro r wt76 ⟨rfl, hBt76⟩
                  refine ⟨hBt76, ?_⟩
                  replace hS := hS.grow hBt76
                  refine z_two (x := (19, .grow)) (y := (21, .grow)) (U' := [(21, .grow), (22, .free), (23, .free)]) (U'' := [(19, .grow), (22, .free), (23, .free)]) (by kernel_rfl) (by kernel_rfl) (by kernel_rfl) ?_ ?_
                  · refine z_grow rfl rfl (s_call Tryd.call16 rfl (hs2 _) ?_)
                    rintro r wt78 ⟨rfl, hBt78⟩
                    refine ⟨hBt78, ?_⟩
                    replace hS := hS.grow hBt78
                    refine z_one (x := (21, .grow)) (U' := [(22, .free), (23, .free)]) (by kernel_rfl) (by kernel_rfl) ?_
                    refine z_grow rfl rfl (s_alloc  vi_31 hS ?_)
                    intro b10 wz60 hS hBz60
                    refine ⟨hBz60, ?_⟩
                    refine z_one (x := (22, .free)) (U' := [(23, .free)]) (by kernel_rfl) (by kernel_rfl) ?_
                    refine z_free rfl rfl (s_sta (k := 1)  rfl rfl vi_31 hS rfl rfl rfl (Nat.le_of_ble_eq_true rfl) rfl ?_)
                    intro wz61 hS
                    refine z_one (x := (23, .free)) (U' := []) (by kernel_rfl) (by kernel_rfl) ?_
                    refine z_free rfl rfl (s_sta (k := 0)  rfl rfl vi_31 hS rfl rfl rfl (Nat.le_of_ble_eq_true rfl) rfl ?_)
                    intro wz62 hS
                    refine z_end ?_
                    repeat (with_reducible first | refine c_seq ?_ | refine c_block ?_ | refine c_skip ?_ | refine x_then ?_ | refine x_block ?_)
                    replace hS := hS.perm (List.Perm.swap _ _ _)
                    replace hS : St w5 _ [(b9, 31, encR (ofQ fi)), (b10, 31, encR (ofQ fk))] := hS
                    exact ⟨_, rfl, by assumption, by assumption, by assumption, by assumption, by assumption, rfl, by assumption, by assumption, b9, b10, rfl, rfl, hS⟩
                  · refine z_grow rfl rfl (s_alloc  vi_31 hS ?_)
                    intro b10 wz63 hS hBz63
                    refine ⟨hBz63, ?_⟩
                    refine z_one (x := (19, .grow)) (U' := [(22, .free), (23, .free)]) (by kernel_rfl) (by kernel_rfl) ?_
                    refine z_grow rfl rfl (s_call Tryd.call16 rfl (hs2 _) ?_)
                    rintro r wt83 ⟨rfl, hBt83⟩
                    refine ⟨hBt83, ?_⟩
                    replace hS := hS.grow hBt83
                    refine z_one (x := (22, .free)) (U' := [(23, .free)]) (by kernel_rfl) (by kernel_rfl) ?_
                    refine z_free rfl rfl (s_sta (k := 1)  rfl rfl vi_31 hS rfl rfl rfl (Nat.le_of_ble_eq_true rfl) rfl ?_)
                    intro wz64 hS
                    refine z_one (x := (23, .free)) (U' := []) (by kernel_rfl) (by kernel_rfl) ?_
                    refine z_free rfl rfl (s_sta (k := 0)  rfl rfl vi_31 hS rfl rfl rfl (Nat.le_of_ble_eq_true rfl) rfl ?_)
                    intro wz65 hS
                    refine z_end ?_
                    repeat (with_reducible first | refine c_seq ?_ | refine c_block ?_ | refine c_skip ?_ | refine x_then ?_ | refine x_block ?_)
                    replace hS := hS.perm (List.Perm.swap _ _ _)
                    replace hS : St w5 _ [(b9, 31, encR (ofQ fi)), (b10, 31, encR (ofQ fk))] := hS
                    exact ⟨_, rfl, by assumption, by assumption, by assumption, by assumption, by assumption, rfl, by assumption, by assumption, b9, b10, rfl, rfl, hS⟩
                · refine z_grow rfl rfl (s_alloc  vi_31 hS ?_)
                  intro b10 wz66 hS hBz66
                  refine ⟨hBz66, ?_⟩
                  refine z_one (x := (18, .grow)) (U' := [(19, .grow), (22, .free), (23, .free)]) (by kernel_rfl) (by kernel_rfl) ?_
                  refine z_grow rfl rfl (s_call Tryd.call21 rfl (hf2 _) ?_)
                  rintro r wt87 ⟨rfl, hBt87⟩
                  refine ⟨hBt87, ?_⟩
                  replace hS := hS.grow hBt87
                  refine z_one (x := (19, .grow)) (U' := [(22, .free), (23, .free)]) (by kernel_rfl) (by kernel_rfl) ?_
                  refine z_grow rfl rfl (s_call Tryd.call16 rfl (hs2 _) ?_)
                  rintro r wt88 ⟨rfl, hBt88⟩
                  refine ⟨hBt88, ?_⟩
                  replace hS := hS.grow hBt88
                  refine z_one (x := (22, .free)) (U' := [(23, .free)]) (by kernel_rfl) (by kernel_rfl) ?_
                  refine z_free rfl rfl (s_sta (k := 1)  rfl rfl vi_31 hS rfl rfl rfl (Nat.le_of_ble_eq_true rfl) rfl ?_)
                  intro wz67 hS
                  refine z_one (x := (23, .free)) (U' := []) (by kernel_rfl) (by kernel_rfl) ?_
                  refine z_free rfl rfl (s_sta (k := 0)  rfl rfl vi_31 hS rfl rfl rfl (Nat.le_of_ble_eq_true rfl) rfl ?_)
                  intro wz68 hS
                  refine z_end ?_
                  repeat (with_reducible first | refine c_seq ?_ | refine c_block ?_ | refine c_skip ?_ | refine x_then ?_ | refine x_block ?_)
                  replace hS := hS.perm (List.Perm.swap _ _ _)
                  replace hS : St w5 _ [(b9, 31, encR (ofQ fi)), (b10, 31, encR (ofQ fk))] := hS
                  exact ⟨_, rfl, by assumption, by assumption, by assumption, by assumption, by assumption, rfl, by assumption, by assumption, b9, b10, rfl, rfl, hS⟩
              · refine z_grow rfl rfl (s_alloc  vi_31 hS ?_)
                intro b10 wz69 hS hBz69
                refine ⟨hBz69, ?_⟩
                refine z_one (x := (9, .grow)) (U' := [(18, .grow), (19, .grow), (22, .free), (23, .free)]) (by kernel_rfl) (by kernel_rfl) ?_
                refine z_grow rfl rfl (s_call Tryd.call16 rfl (hs1 _) ?_)
                rintro r wt92 ⟨rfl, hBt92⟩
                refine ⟨hBt92, ?_⟩
                replace hS := hS.grow hBt92
                refine z_one (x := (18, .grow)) (U' := [(19, .grow), (22, .free), (23, .free)]) (by kernel_rfl) (by kernel_rfl) ?_
                refine z_grow rfl rfl (s_call Tryd.call21 rfl (hf2 _) ?_)
                rintro r wt93 ⟨rfl, hBt93⟩
                refine ⟨hBt93, ?_⟩
                replace hS := hS.grow hBt93
                refine z_one (x := (19, .grow)) (U' := [(22, .free), (23, .free)]) (by kernel_rfl) (by kernel_rfl) ?_
                refine z_grow rfl rfl (s_call Tryd.call16 rfl (hs2 _) ?_)
                rintro r wt94 ⟨rfl, hBt94⟩
                refine ⟨hBt94, ?_⟩
                replace hS := hS.grow hBt94
                refine z_one (x := (22, .free)) (U' := [(23, .free)]) (by kernel_rfl) (by kernel_rfl) ?_
                refine z_free rfl rfl (s_sta (k := 1)  rfl rfl vi_31 hS rfl rfl rfl (Nat.le_of_ble_eq_true rfl) rfl ?_)
                intro wz70 hS
                refine z_one (x := (23, .free)) (U' := []) (by kernel_rfl) (by kernel_rfl) ?_
                refine z_free rfl rfl (s_sta (k := 0)  rfl rfl vi_31 hS rfl rfl rfl (Nat.le_of_ble_eq_true rfl) rfl ?_)
                intro wz71 hS
                refine z_end ?_
                repeat (with_reducible first | refine c_seq ?_ | refine c_block ?_ | refine c_skip ?_ | refine x_then ?_ | refine x_block ?_)
                replace hS := hS.perm (List.Perm.swap _ _ _)
                replace hS : St w5 _ [(b9, 31, encR (ofQ fi)), (b10, 31, encR (ofQ fk))] := hS
                exact ⟨_, rfl, by assumption, by assumption, by assumption, by assumption, by assumption, rfl, by assumption, by assumption, b9, b10, rfl, rfl, hS⟩
            · refine z_grow rfl rfl (s_alloc  vi_31 hS ?_)
              intro b10 wz72 hS hBz72
              refine ⟨hBz72, ?_⟩
              refine z_two (x := (9, .grow)) (y := (20, .grow)) (U' := [(18, .grow), (19, .grow), (20, .grow), (22, .free), (23, .free)]) (U'' := [(9, .grow), (18, .grow), (19, .grow), (22, .free), (23, .free)]) (by kernel_rfl) (by kernel_rfl) (by kernel_rfl) ?_ ?_
              · refine z_grow rfl rfl (s_call Tryd.call16 rfl (hs1 _) ?_)
                rintro r wt99 ⟨rfl, hBt99⟩
                refine ⟨hBt99, ?_⟩
                replace hS := hS.grow hBt99
                refine z_two (x := (18, .grow)) (y := (20, .grow)) (U' := [(19, .grow), (20, .grow), (22, .free), (23, .free)]) (U'' := [(18, .grow), (19, .grow), (22, .free), (23, .free)]) (by kernel_rfl) (by kernel_rfl) (by kernel_rfl) ?_ ?_
                · refine z_grow rfl rfl (s_call Tryd.call21 rfl (hf2 _) ?_)
                  rintro r wt101 ⟨rfl, hBt101⟩
                  refine ⟨hBt101, ?_⟩
                  replace hS := hS.grow hBt101
                  refine z_two (x := (19, .grow)) (y := (20, .grow)) (U' := [(20, .grow), (22, .free), (23, .free)]) (U'' := [(19, .grow), (22, .free), (23, .free)]) (by kernel_rfl) (by kernel_rfl) (by kernel_rfl) ?_ ?_
                  · refine z_grow rfl rfl (s_call Tryd.call16 rfl (hs2 _) ?_)
                    rintro r wt103 ⟨rfl, hBt103⟩
                    refine ⟨hBt103, ?_⟩
                    replace hS := hS.grow hBt103
                    refine z_one (x := (20, .grow)) (U' := [(22, .free), (23, .free)]) (by kernel_rfl) (by kernel_rfl) ?_
                    refine z_grow rfl rfl (s_alloc  vi_31 hS ?_)
                    intro b9 wz73 hS hBz73
                    refine ⟨hBz73, ?_⟩
                    refine z_one (x := (22, .free)) (U' := [(23, .free)]) (by kernel_rfl) (by kernel_rfl) ?_
                    refine z_free rfl rfl (s_sta (k := 0)  rfl rfl vi_31 hS rfl rfl rfl (Nat.le_of_ble_eq_true rfl) rfl ?_)
                    intro wz74 hS
                    refine z_one (x := (23, .free)) (U' := []) (by kernel_rfl) (by kernel_rfl) ?_
                    refine z_free rfl rfl (s_sta (k := 1)  rfl rfl vi_31 hS rfl rfl rfl (Nat.le_of_ble_eq_true rfl) rfl ?_)
                    intro wz75 hS
                    refine z_end ?_
                    repeat (with_reducible first | refine c_seq ?_ | refine c_block ?_ | refine c_skip ?_ | refine x_then ?_ | refine x_block ?_)
                    replace hS : St w5 _ [(b9, 31, encR (ofQ fi)), (b10, 31, encR (ofQ fk))] := hS
                    exact ⟨_, rfl, by assumption, by assumption, by assumption, by assumption, by assumption, rfl, by assumption, by assumption, b9, b10, rfl, rfl, hS⟩
                  · refine z_grow rfl rfl (s_alloc  vi_31 hS ?_)
                    intro b9 wz76 hS hBz76
                    refine ⟨hBz76, ?_⟩
                    refine z_one (x := (19, .grow)) (U' := [(22, .free), (23, .free)]) (by kernel_rfl) (by kernel_rfl) ?_
                    refine z_grow rfl rfl (s_call Tryd.call16 rfl (hs2 _) ?_)
                    rintro r wt108 ⟨rfl, hBt108⟩
                    refine ⟨hBt108, ?_⟩
                    replace hS := hS.grow hBt108
                    refine z_one (x := (22, .free)) (U' := [(23, .free)]) (by kernel_rfl) (by kernel_rfl) ?_
                    refine z_free rfl rfl (s_sta (k := 0)  rfl rfl vi_31 hS rfl rfl rfl (Nat.le_of_ble_eq_true rfl) rfl ?_)
                    intro wz77 hS
                    refine z_one (x := (23, .free)) (U' := []) (by kernel_rfl) (by kernel_rfl) ?_
                    refine z_free rfl rfl (s_sta (k := 1)  rfl rfl vi_31 hS rfl rfl rfl (Nat.le_of_ble_eq_true rfl) rfl ?_)
                    intro wz78 hS
                    refine z_end ?_
                    repeat (with_reducible first | refine c_seq ?_ | refine c_block ?_ | refine c_skip ?_ | refine x_then ?_ | refine x_block ?_)
                    replace hS : St w5 _ [(b9, 31, encR (ofQ fi)), (b10, 31, encR (ofQ fk))] := hS
                    exact ⟨_, rfl, by assumption, by assumption, by assumption, by assumption, by assumption, rfl, by assumption, by assumption, b9, b10, rfl, rfl, hS⟩
                · refine z_grow rfl rfl (s_alloc  vi_31 hS ?_)
                  intro b9 wz79 hS hBz79
                  refine ⟨hBz79, ?_⟩
                  refine z_one (x := (18, .grow)) (U' := [(19, .grow), (22, .free), (23, .free)]) (by kernel_rfl) (by kernel_rfl) ?_
                  refine z_grow rfl rfl (s_call Tryd.call21 rfl (hf2 _) ?_)
                  rintro r wt112 ⟨rfl, hBt112⟩
                  refine ⟨hBt112, ?_⟩
                  replace hS := hS.grow hBt112
                  refine z_one (x := (19, .grow)) (U' := [(22, .free), (23, .free)]) (by kernel_rfl) (by kernel_rfl) ?_
                  refine z_grow rfl rfl (s_call Tryd.call16 rfl (hs2 _) ?_)
                  rintro r wt113 ⟨rfl, hBt113⟩
                  refine ⟨hBt113, ?_⟩
                  replace hS := hS.grow hBt113
                  refine z_one (x := (22, .free)) (U' := [(23, .free)]) (by kernel_rfl) (by kernel_rfl) ?_
                  refine z_free rfl rfl (s_sta (k := 0)  rfl rfl vi_31 hS rfl rfl rfl (Nat.le_of_ble_eq_true rfl) rfl ?_)
                  intro wz80 hS
                  refine z_one (x := (23, .free)) (U' := []) (by kernel_rfl) (by kernel_rfl) ?_
                  refine z_free rfl rfl (s_sta (k := 1)  rfl rfl vi_31 hS rfl rfl rfl (Nat.le_of_ble_eq_true rfl) rfl ?_)
                  intro wz81 hS
                  refine z_end ?_
                  repeat (with_reducible first | refine c_seq ?_ | refine c_block ?_ | refine c_skip ?_ | refine x_then ?_ | refine x_block ?_)
                  replace hS : St w5 _ [(b9, 31, encR (ofQ fi)), (b10, 31, encR (ofQ fk))] := hS
                  exact ⟨_, rfl, by assumption, by assumption, by assumption, by assumption, by assumption, rfl, by assumption, by assumption, b9, b10, rfl, rfl, hS⟩
              · refine z_grow rfl rfl (s_alloc  vi_31 hS ?_)
                intro b9 wz82 hS hBz82
                refine ⟨hBz82, ?_⟩
                refine z_one (x := (9, .grow)) (U' := [(18, .grow), (19, .grow), (22, .free), (23, .free)]) (by kernel_rfl) (by kernel_rfl) ?_
                refine z_grow rfl rfl (s_call Tryd.call16 rfl (hs1 _) ?_)
                rintro r wt117 ⟨rfl, hBt117⟩
                refine ⟨hBt117, ?_⟩
                replace hS := hS.grow hBt117
                refine z_one (x := (18, .grow)) (U' := [(19, .grow), (22, .free), (23, .free)]) (by kernel_rfl) (by kernel_rfl) ?_
                refine z_grow rfl rfl (s_call Tryd.call21 rfl (hf2 _) ?_)
                rintro r wt118 ⟨rfl, hBt118⟩
                refine ⟨hBt118, ?_⟩
                replace hS := hS.grow hBt118
                refine z_one (x := (19, .grow)) (U' := [(22, .free), (23, .free)]) (by kernel_rfl) (by kernel_rfl) ?_
                refine z_grow rfl rfl (s_call Tryd.call16 rfl (hs2 _) ?_)
                rintro r wt119 ⟨rfl, hBt119⟩
                refine ⟨hBt119, ?_⟩
                replace hS := hS.grow hBt119
                refine z_one (x := (22, .free)) (U' := [(23, .free)]) (by kernel_rfl) (by kernel_rfl) ?_
                refine z_free rfl rfl (s_sta (k := 0)  rfl rfl vi_31 hS rfl rfl rfl (Nat.le_of_ble_eq_true rfl) rfl ?_)
                intro wz83 hS
                refine z_one (x := (23, .free)) (U' := []) (by kernel_rfl) (by kernel_rfl) ?_
                refine z_free rfl rfl (s_sta (k := 1)  rfl rfl vi_31 hS rfl rfl rfl (Nat.le_of_ble_eq_true rfl) rfl ?_)
                intro wz84 hS
                refine z_end ?_
                repeat (with_reducible first | refine c_seq ?_ | refine c_block ?_ | refine c_skip ?_ | refine x_then ?_ | refine x_block ?_)
                replace hS : St w5 _ [(b9, 31, encR (ofQ fi)), (b10, 31, encR (ofQ fk))] := hS
                exact ⟨_, rfl, by assumption, by assumption, by assumption, by assumption, by assumption, rfl, by assumption, by assumption, b9, b10, rfl, rfl, hS⟩
          · refine z_grow rfl rfl (s_alloc  vi_31 hS ?_)
            intro b9 wz85 hS hBz85
            refine ⟨hBz85, ?_⟩
            refine z_two (x := (8, .grow)) (y := (21, .grow)) (U' := [(9, .grow), (18, .grow), (19, .grow), (21, .grow), (22, .free), (23, .free)]) (U'' := [(8, .grow), (9, .grow), (18, .grow), (19, .grow), (22, .free), (23, .free)]) (by kernel_rfl) (by kernel_rfl) (by kernel_rfl) ?_ ?_
            · refine z_grow rfl rfl (s_call Tryd.call21 rfl (hf1 _) ?_)
              rintro r wt124 ⟨rfl, hBt124⟩
              refine ⟨hBt124, ?_⟩
              replace hS := hS.grow hBt124
              refine z_two (x := (9, .grow)) (y := (21, .grow)) (U' := [(18, .grow), (19, .grow), (21, .grow), (22, .free), (23, .free)]) (U'' := [(9, .grow), (18, .grow), (19, .grow), (22, .free), (23, .free)]) (by kernel_rfl) (by kernel_rfl) (by kernel_rfl) ?_ ?_
              · refine z_grow rfl rfl (s_call Tryd.call16 rfl (hs1 _) ?_)
                rintro r wt126 ⟨rfl, hBt126⟩
                refine ⟨hBt126, ?_⟩
                replace hS := hS.grow hBt126
                refine z_two (x := (18, .grow)) (y := (21, .grow)) (U' := [(19, .grow), (21, .grow), (22, .free), (23, .free)]) (U'' := [(18, .grow), (19, .grow), (22, .free), (23, .free)]) (by kernel_rfl) (by kernel_rfl) (by kernel_rfl) ?_ ?_
                · refine z_grow rfl rfl (s_call Tryd.call21 rfl (hf2 _) ?_)
                  rintro r wt128 ⟨rfl, hBt128⟩
                  refine ⟨hBt128, ?_⟩
                  replace hS := hS.grow hBt128
                  refine z_two (x := (19, .grow)) (y := (21, .grow)) (U' := [(21, .grow), (22, .free), (23, .free)]) (U'' := [(19, .grow), (22, .free), (23, .free)]) (by kernel_rfl) (by kernel_rfl) (by kernel_rfl) ?_ ?_
                  · refine z_grow rfl rfl (s_call Tryd.call16 rfl (hs2 _) ?_)
                    rintro r wt130 ⟨rfl, hBt130⟩
                    refine ⟨hBt130, ?_⟩
                    replace hS := hS.grow hBt130
                    refine z_one (x := (21, .grow)) (U' := [(22, .free), (23, .free)]) (by kernel_rfl) (by kernel_rfl) ?_
                    refine z_grow rfl rfl (s_alloc  vi_31 hS ?_)
                    intro b10 wz86 hS hBz86
                    refine ⟨hBz86, ?_⟩
                    refine z_one (x := (22, .free)) (U' := [(23, .free)]) (by kernel_rfl) (by kernel_rfl) ?_
                    refine z_free rfl rfl (s_sta (k := 1)  rfl rfl vi_31 hS rfl rfl rfl (Nat.le_of_ble_eq_true rfl) rfl ?_)
                    intro wz87 hS
                    refine z_one (x := (23, .free)) (U' := []) (by kernel_rfl) (by kernel_rfl) ?_
                    refine z_free rfl rfl (s_sta (k := 0)  rfl rfl vi_31 hS rfl rfl rfl (Nat.le_of_ble_eq_true rfl) rfl ?_)
                    intro wz88 hS
                    refine z_end ?_
                    repeat (with_reducible first | refine c_seq ?_ | refine c_block ?_ | refine c_skip ?_ | refine x_then ?_ | refine x_block ?_)
                    replace hS := hS.perm (List.Perm.swap _ _ _)
                    replace hS : St w5 _ [(b9, 31, encR (ofQ fi)), (b10, 31, encR (ofQ fk))] := hS
                    exact ⟨_, rfl, by assumption, by assumption, by assumption, by assumption, by assumption, rfl, by assumption, by assumption, b9, b10, rfl, rfl, hS⟩
                  · refine z_grow rfl rfl (s_alloc  vi_31 hS ?_)
                    intro b10 wz89 hS hBz89
                    refine ⟨hBz89, ?_⟩
                    refine z_one (x := (19, .grow)) (U' := [(22, .free), (23, .free)]) (by kernel_rfl) (by kernel_rfl) ?_
                    refine z_grow rfl rfl (s_call Tryd.call16 rfl (hs2 _) ?_)
                    rintro r wt135 ⟨rfl, hBt135⟩
                    refine ⟨hBt135, ?_⟩
                    replace hS := hS.grow hBt135
                    refine z_one (x := (22, .free)) (U' := [(23, .free)]) (by kernel_rfl) (by kernel_rfl) ?_
                    refine z_free rfl rfl (s_sta (k := 1)  rfl rfl vi_31 hS rfl rfl rfl (Nat.le_of_ble_eq_true rfl) rfl ?_)
                    intro wz90 hS
                    refine z_one (x := (23, .free)) (U' := []) (by kernel_rfl) (by kernel_rfl) ?_
                    refine z_free rfl rfl (s_sta (k := 0)  rfl rfl vi_31 hS rfl rfl rfl (Nat.le_of_ble_eq_true rfl) rfl ?_)
                    intro wz91 hS
                    refine z_end ?_
                    repeat (with_reducible first | refine c_seq ?_ | refine c_block ?_ | refine c_skip ?_ | refine x_then ?_ | refine x_block ?_)
                    replace hS := hS.perm (List.Perm.swap _ _ _)
                    replace hS : St w5 _ [(b9, 31, encR (ofQ fi)), (b10, 31, encR (ofQ fk))] := hS
                    exact ⟨_, rfl, by assumption, by assumption, by assumption, by assumption, by assumption, rfl, by assumption, by assumption, b9, b10, rfl, rfl, hS⟩
                · refine z_grow rfl rfl (s_alloc  vi_31 hS ?_)
                  intro b10 wz92 hS hBz92
                  refine ⟨hBz92, ?_⟩
                  refine z_one (x := (18, .grow)) (U' := [(19, .grow), (22, .free), (23, .free)]) (by kernel_rfl) (by kernel_rfl) ?_
                  refine z_grow rfl rfl (s_call Tryd.call21 rfl (hf2 _) ?_)
                  rintro r wt139 ⟨rfl, hBt139⟩
                  refine ⟨hBt139, ?_⟩
                  replace hS := hS.grow hBt139
                  refine z_one (x := (19, .grow)) (U' := [(22, .free), (23, .free)]) (by kernel_rfl) (by kernel_rfl) ?_
                  refine z_grow rfl rfl (s_call Tryd.call16 rfl (hs2 _) ?_)
                  rintro r wt140 ⟨rfl, hBt140⟩
                  refine ⟨hBt140, ?_⟩
                  replace hS := hS.grow hBt140
                  refine z_one (x := (22, .free)) (U' := [(23, .free)]) (by kernel_rfl) (by kernel_rfl) ?_
                  refine z_free rfl rfl (s_sta (k := 1)  rfl rfl vi_31 hS rfl rfl rfl (Nat.le_of_ble_eq_true rfl) rfl ?_)
                  intro wz93 hS
                  refine z_one (x := (23, .free)) (U' := []) (by kernel_rfl) (by kernel_rfl) ?_
                  refine z_free rfl rfl (s_sta (k := 0)  rfl rfl vi_31 hS rfl rfl rfl (Nat.le_of_ble_eq_true rfl) rfl ?_)
                  intro wz94 hS
                  refine z_end ?_
                  repeat (with_reducible first | refine c_seq ?_ | refine c_block ?_ | refine c_skip ?_ | refine x_then ?_ | refine x_block ?_)
                  replace hS := hS.perm (List.Perm.swap _ _ _)
                  replace hS : St w5 _ [(b9, 31, encR (ofQ fi)), (b10, 31, encR (ofQ fk))] := hS
                  exact ⟨_, rfl, by assumption, by assumption, by assumption, by assumption, by assumption, rfl, by assumption, by assumption, b9, b10, rfl, rfl, hS⟩
              · refine z_grow rfl rfl (s_alloc  vi_31 hS ?_)
                intro b10 wz95 hS hBz95
                refine ⟨hBz95, ?_⟩
                refine z_one (x := (9, .grow)) (U' := [(18, .grow), (19, .grow), (22, .free), (23, .free)]) (by kernel_rfl) (by kernel_rfl) ?_
                refine z_grow rfl rfl (s_call Tryd.call16 rfl (hs1 _) ?_)
                rintro r wt144 ⟨rfl, hBt144⟩
                refine ⟨hBt144, ?_⟩
                replace hS := hS.grow hBt144
                refine z_one (x := (18, .grow)) (U' := [(19, .grow), (22, .free), (23, .free)]) (by kernel_rfl) (by kernel_rfl) ?_
                refine z_grow rfl rfl (s_call Tryd.call21 rfl (hf2 _) ?_)
                rintro r wt145 ⟨rfl, hBt145⟩
                refine ⟨hBt145, ?_⟩
                replace hS := hS.grow hBt145
                refine z_one (x := (19, .grow)) (U' := [(22, .free), (23, .free)]) (by kernel_rfl) (by kernel_rfl) ?_
                refine z_grow rfl rfl (s_call Tryd.call16 rfl (hs2 _) ?_)
                rintro r wt146 ⟨rfl, hBt146⟩
                refine ⟨hBt146, ?_⟩
                replace hS := hS.grow hBt146
                refine z_one (x := (22, .free)) (U' := [(23, .free)]) (by kernel_rfl) (by kernel_rfl) ?_
                refine z_free rfl rfl (s_sta (k := 1)  rfl rfl vi_31 hS rfl rfl rfl (Nat.le_of_ble_eq_true rfl) rfl ?_)
                intro wz96 hS
                refine z_one (x := (23, .free)) (U' := []) (by kernel_rfl) (by kernel_rfl) ?_
                refine z_free rfl rfl (s_sta (k := 0)  rfl rfl vi_31 hS rfl rfl rfl (Nat.le_of_ble_eq_true rfl) rfl ?_)
                intro wz97 hS
                refine z_end ?_
                repeat (with_reducible first | refine c_seq ?_ | refine c_block ?_ | refine c_skip ?_ | refine x_then ?_ | refine x_block ?_)
                replace hS := hS.perm (List.Perm.swap _ _ _)
                replace hS : St w5 _ [(b9, 31, encR (ofQ fi)), (b10, 31, encR (ofQ fk))] := hS
                exact ⟨_, rfl, by assumption, by assumption, by assumption, by assumption, by assumption, rfl, by assumption, by assumption, b9, b10, rfl, rfl, hS⟩
            · refine z_grow rfl rfl (s_alloc  vi_31 hS ?_)
              intro b10 wz98 hS hBz98
              refine ⟨hBz98, ?_⟩
              refine z_one (x := (8, .grow)) (U' := [(9, .grow), (18, .grow), (19, .grow), (22, .free), (23, .free)]) (by kernel_rfl) (by kernel_rfl) ?_
              refine z_grow rfl rfl (s_call Tryd.call21 rfl (hf1 _) ?_)
              rintro r wt150 ⟨rfl, hBt150⟩
              refine ⟨hBt150, ?_⟩
              replace hS := hS.grow hBt150
              refine z_one (x := (9, .grow)) (U' := [(18, .grow), (19, .grow), (22, .free), (23, .free)]) (by kernel_rfl) (by kernel_rfl) ?_
              refine z_grow rfl rfl (s_call Tryd.call16 rfl (hs1 _) ?_)
              rintro r wt151 ⟨rfl, hBt151⟩
              refine ⟨hBt151, ?_⟩
              replace hS := hS.grow hBt151
              refine z_one (x := (18, .grow)) (U' := [(19, .grow), (22, .free), (23, .free)]) (by kernel_rfl) (by kernel_rfl) ?_
              refine z_grow rfl rfl (s_call Tryd.call21 rfl (hf2 _) ?_)
              rintro r wt152 ⟨rfl, hBt152⟩
              refine ⟨hBt152, ?_⟩
              replace hS := hS.grow hBt152
              refine z_one (x := (19, .grow)) (U' := [(22, .free), (23, .free)]) (by kernel_rfl) (by kernel_rfl) ?_
              refine z_grow rfl rfl (s_call Tryd.call16 rfl (hs2 _) ?_)
              rintro r wt153 ⟨rfl, hBt153⟩
              refine ⟨hBt153, ?_⟩
              replace hS := hS.grow hBt153
              refine z_one (x := (22, .free)) (U' := [(23, .free)]) (by kernel_rfl) (by kernel_rfl) ?_
              refine z_free rfl rfl (s_sta (k := 1)  rfl rfl vi_31 hS rfl rfl rfl (Nat.le_of_ble_eq_true rfl) rfl ?_)
              intro wz99 hS
              refine z_one (x := (23, .free)) (U' := []) (by kernel_rfl) (by kernel_rfl) ?_
              refine z_free rfl rfl (s_sta (k := 0)  rfl rfl vi_31 hS rfl rfl rfl (Nat.le_of_ble_eq_true rfl) rfl ?_)
              intro wz100 hS
              refine z_end ?_
              repeat (with_reducible first | refine c_seq ?_ | refine c_block ?_ | refine c_skip ?_ | refine x_then ?_ | refine x_block ?_)
              replace hS := hS.perm (List.Perm.swap _ _ _)
              replace hS : St w5 _ [(b9, 31, encR (ofQ fi)), (b10, 31, encR (ofQ fk))] := hS
              exact ⟨_, rfl, by assumption, by assumption, by assumption, by assumption, by assumption, rfl, by assumption, by assumption, b9, b10, rfl, rfl, hS⟩
          · refine z_grow rfl rfl (s_alloc  vi_31 hS ?_)
            intro b10 wz101 hS hBz101
            refine ⟨hBz101, ?_⟩
            refine z_two (x := (8, .grow)) (y := (20, .grow)) (U' := [(9, .grow), (18, .grow), (19, .grow), (20, .grow), (22, .free), (23, .free)]) (U'' := [(8, .grow), (9, .grow), (18, .grow), (19, .grow), (22, .free), (23, .free)]) (by kernel_rfl) (by kernel_rfl) (by kernel_rfl) ?_ ?_
            · refine z_grow rfl rfl (s_call Tryd.call21 rfl (hf1 _) ?_)
              rintro r wt158 ⟨rfl, hBt158⟩
              refine ⟨hBt158, ?_⟩
              replace hS := hS.grow hBt158
              refine z_two (x := (9, .grow)) (y := (20, .grow)) (U' := [(18, .grow), (19, .grow), (20, .grow), (22, .free), (23, .free)]) (U'' := [(9, .grow), (18, .grow), (19, .grow), (22, .free), (23, .free)]) (by kernel_rfl) (by kernel_rfl) (by kernel_rfl) ?_ ?_
              · refine z_grow rfl rfl (s_call Tryd.call16 rfl (hs1 _) ?_)
                rintro r wt160 ⟨rfl, hBt160⟩
                refine ⟨hBt160, ?_⟩
                replace hS := hS.grow hBt160
                refine z_two (x := (18, .grow)) (y := (20, .grow)) (U' := [(19, .grow), (20, .grow), (22, .free), (23, .free)]) (U'' := [(18, .grow), (19, .grow), (22, .free), (23, .free)]) (by kernel_rfl) (by kernel_rfl) (by kernel_rfl) ?_ ?_
                · refine z_grow rfl rfl (s_call Tryd.call21 rfl (hf2 _) ?_)
                  rintro r wt162 ⟨rfl, hBt162⟩
                  refine ⟨hBt162, ?_⟩
                  replace hS := hS.grow hBt162
                  refine z_two (x := (19, .grow)) (y := (20, .grow)) (U' := [(20, .grow), (22, .free), (23, .free)]) (U'' := [(19, .grow), (22, .free), (23, .free)]) (by kernel_rfl) (by kernel_rfl) (by kernel_rfl) ?_ ?_
                  · refine z_grow rfl rfl (s_call Tryd.call16 rfl (hs2 _) ?_)
                    rintro r wt164 ⟨rfl, hBt164⟩
                    refine ⟨hBt164, ?_⟩
                    replace hS := hS.grow hBt164
                    refine z_one (x := (20, .grow)) (U' := [(22, .free), (23, .free)]) (by kernel_rfl) (by kernel_rfl) ?_
                    refine z_grow rfl rfl (s_alloc  vi_31 hS ?_)
                    intro b9 wz102 hS hBz102
                    refine ⟨hBz102, ?_⟩
                    refine z_one (x := (22, .free)) (U' := [(23, .free)]) (by kernel_rfl) (by kernel_rfl) ?_
                    refine z_free rfl rfl (s_sta (k := 0)  rfl rfl vi_31 hS rfl rfl rfl (Nat.le_of_ble_eq_true rfl) rfl ?_)
                    intro wz103 hS
                    refine z_one (x := (23, .free)) (U' := []) (by kernel_rfl) (by kernel_rfl) ?_
                    refine z_free rfl rfl (s_sta (k := 1)  rfl rfl vi_31 hS rfl rfl rfl (Nat.le_of_ble_eq_true rfl) rfl ?_)
                    intro wz104 hS
                    refine z_end ?_
                    repeat (with_reducible first | refine c_seq ?_ | refine c_block ?_ | refine c_skip ?_ | refine x_then ?_ | refine x_block ?_)
                    replace hS : St w5 _ [(b9, 31, encR (ofQ fi)), (b10, 31, encR (ofQ fk))] := hS
                    exact ⟨_, rfl, by assumption, by assumption, by assumption, by assumption, by assumption, rfl, by assumption, by assumption, b9, b10, rfl, rfl, hS⟩
                  · refine z_grow rfl rfl (s_alloc  vi_31 hS ?_)
                    intro b9 wz105 hS hBz105
                    refine ⟨hBz105, ?_⟩
                    refine z_one (x := (19, .grow)) (U' := [(22, .free), (23, .free)]) (by kernel_rfl) (by kernel_rfl) ?_
                    refine z_grow rfl rfl (s_call Tryd.call16 rfl (hs2 _) ?_)
                    rintro r wt169 ⟨rfl, hBt169⟩
                    refine ⟨hBt169, ?_⟩
                    replace hS := hS.grow hBt169
                    refine z_one (x := (22, .free)) (U' := [(23, .free)]) (by kernel_rfl) (by kernel_rfl) ?_
                    refine z_free rfl rfl (s_sta (k := 0)  rfl rfl vi_31 hS rfl rfl rfl (Nat.le_of_ble_eq_true rfl) rfl ?_)
                    intro wz106 hS
                    refine z_one (x := (23, .free)) (U' := []) (by kernel_rfl) (by kernel_rfl) ?_
                    refine z_free rfl rfl (s_sta (k := 1)  rfl rfl vi_31 hS rfl rfl rfl (Nat.le_of_ble_eq_true rfl) rfl ?_)
                    intro wz107 hS
                    refine z_end ?_
                    repeat (with_reducible first | refine c_seq ?_ | refine c_block ?_ | refine c_skip ?_ | refine x_then ?_ | refine x_block ?_)
                    replace hS : St w5 _ [(b9, 31, encR (ofQ fi)), (b10, 31, encR (ofQ fk))] := hS
                    exact ⟨_, rfl, by assumption, by assumption, by assumption, by assumption, by assumption, rfl, by assumption, by assumption, b9, b10, rfl, rfl, hS⟩
                · refine z_grow rfl rfl (s_alloc  vi_31 hS ?_)
                  intro b9 wz108 hS hBz108
                  refine ⟨hBz108, ?_⟩
                  refine z_one (x := (18, .grow)) (U' := [(19, .grow), (22, .free), (23, .free)]) (by kernel_rfl) (by kernel_rfl) ?_
                  refine z_grow rfl rfl (s_call Tryd.call21 rfl (hf2 _) ?_)
                  rintro r wt173 ⟨rfl, hBt173⟩
                  refine ⟨hBt173, ?_⟩
                  replace hS := hS.grow hBt173
                  refine z_one (x := (19, .grow)) (U' := [(22, .free), (23, .free)]) (by kernel_rfl) (by kernel_rfl) ?_
                  refine z_grow rfl rfl (s_call Tryd.call16 rfl (hs2 _) ?_)
                  rintro r wt174 ⟨rfl, hBt174⟩
                  refine ⟨hBt174, ?_⟩
                  replace hS := hS.grow hBt174
                  refine z_one (x := (22, .free)) (U' := [(23, .free)]) (by kernel_rfl) (by kernel_rfl) ?_
                  refine z_free rfl rfl (s_sta (k := 0)  rfl rfl vi_31 hS rfl rfl rfl (Nat.le_of_ble_eq_true rfl) rfl ?_)
                  intro wz109 hS
                  refine z_one (x := (23, .free)) (U' := []) (by kernel_rfl) (by kernel_rfl) ?_
                  refine z_free rfl rfl (s_sta (k := 1)  rfl rfl vi_31 hS rfl rfl rfl (Nat.le_of_ble_eq_true rfl) rfl ?_)
                  intro wz110 hS
                  refine z_end ?_
                  repeat (with_reducible first | refine c_seq ?_ | refine c_block ?_ | refine c_skip ?_ | refine x_then ?_ | refine x_block ?_)
                  replace hS : St w5 _ [(b9, 31, encR (ofQ fi)), (b10, 31, encR (ofQ fk))] := hS
                  exact ⟨_, rfl, by assumption, by assumption, by assumption, by assumption, by assumption, rfl, by assumption, by assumption, b9, b10, rfl, rfl, hS⟩
              · refine z_grow rfl rfl (s_alloc  vi_31 hS ?_)
                intro b9 wz111 hS hBz111
                refine ⟨hBz111, ?_⟩
                refine z_one (x := (9, .grow)) (U' := [(18, .grow), (19, .grow), (22, .free), (23, .free)]) (by kernel_rfl) (by kernel_rfl) ?_
                refine z_grow rfl rfl (s_call Tryd.call16 rfl (hs1 _) ?_)
                rintro r wt178 ⟨rfl, hBt178⟩
                refine ⟨hBt178, ?_⟩
                replace hS := hS.grow hBt178
                refine z_one (x := (18, .grow)) (U' := [(19, .grow), (22, .free), (23, .free)]) (by kernel_rfl) (by kernel_rfl) ?_
                refine z_grow rfl rfl (s_call Tryd.call21 rfl (hf2 _) ?_)
                rintro r wt179 ⟨rfl, hBt179⟩
                refine ⟨hBt179, ?_⟩
                replace hS := hS.grow hBt179
                refine z_one (x := (19, .grow)) (U' := [(22, .free), (23, .free)]) (by kernel_rfl) (by kernel_rfl) ?_
                refine z_grow rfl rfl (s_call Tryd.call16 rfl (hs2 _) ?_)
                rintro r wt180 ⟨rfl, hBt180⟩
                refine ⟨hBt180, ?_⟩
                replace hS := hS.grow hBt180
                refine z_one (x := (22, .free)) (U' := [(23, .free)]) (by kernel_rfl) (by kernel_rfl) ?_
                refine z_free rfl rfl (s_sta (k := 0)  rfl rfl vi_31 hS rfl rfl rfl (Nat.le_of_ble_eq_true rfl) rfl ?_)
                intro wz112 hS
                refine z_one (x := (23, .free)) (U' := []) (by kernel_rfl) (by kernel_rfl) ?_
                refine z_free rfl rfl (s_sta (k := 1)  rfl rfl vi_31 hS rfl rfl rfl (Nat.le_of_ble_eq_true rfl) rfl ?_)
                intro wz113 hS
                refine z_end ?_
                repeat (with_reducible first | refine c_seq ?_ | refine c_block ?_ | refine c_skip ?_ | refine x_then ?_ | refine x_block ?_)
                replace hS : St w5 _ [(b9, 31, encR (ofQ fi)), (b10, 31, encR (ofQ fk))] := hS
                exact ⟨_, rfl, by assumption, by assumption, by assumption, by assumption, by assumption, rfl, by assumption, by assumption, b9, b10, rfl, rfl, hS⟩
            · refine z_grow rfl rfl (s_alloc  vi_31 hS ?_)
              intro b9 wz114 hS hBz114
              refine ⟨hBz114, ?_⟩
              refine z_one (x := (8, .grow)) (U' := [(9, .grow), (18, .grow), (19, .grow), (22, .free), (23, .free)]) (by kernel_rfl) (by kernel_rfl) ?_
              refine z_grow rfl rfl (s_call Tryd.call21 rfl (hf1 _) ?_)
              rintro r wt184 ⟨rfl, hBt184⟩
              refine ⟨hBt184, ?_⟩
              replace hS := hS.grow hBt184
              refine z_one (x := (9, .grow)) (U' := [(18, .grow), (19, .grow), (22, .free), (23, .free)]) (by kernel_rfl) (by kernel_rfl) ?_
              refine z_grow rfl rfl (s_call Tryd.call16 rfl (hs1 _) ?_)
              rintro r wt185 ⟨rfl, hBt185⟩
              refine ⟨hBt185, ?_⟩
              replace hS := hS.grow hBt185
              refine z_one (x := (18, .grow)) (U' := [(19, .grow), (22, .free), (23, .free)]) (by kernel_rfl) (by kernel_rfl) ?_
              refine z_grow rfl rfl (s_call Tryd.call21 rfl (hf2 _) ?_)
              rintro r wt186 ⟨rfl, hBt186⟩
              refine ⟨hBt186, ?_⟩
              replace hS := hS.grow hBt186
              refine z_one (x := (19, .grow)) (U' := [(22, .free), (23, .free)]) (by kernel_rfl) (by kernel_rfl) ?_
              refine z_grow rfl rfl (s_call Tryd.call16 rfl (hs2 _) ?_)
              rintro r wt187 ⟨rfl, hBt187⟩
              refine ⟨hBt187, ?_⟩
              replace hS := hS.grow hBt187
              refine z_one (x := (22, .free)) (U' := [(23, .free)]) (by kernel_rfl) (by kernel_rfl) ?_
              refine z_free rfl rfl (s_sta (k := 0)  rfl rfl vi_31 hS rfl rfl rfl (Nat.le_of_ble_eq_true rfl) rfl ?_)
              intro wz115 hS
              refine z_one (x := (23, .free)) (U' := []) (by kernel_rfl) (by kernel_rfl) ?_
              refine z_free rfl rfl (s_sta (k := 1)  rfl rfl vi_31 hS rfl rfl rfl (Nat.le_of_ble_eq_true rfl) rfl ?_)
              intro wz116 hS
              refine z_end ?_
              repeat (with_reducible first | refine c_seq ?_ | refine c_block ?_ | refine c_skip ?_ | refine x_then ?_ | refine x_block ?_)
              replace hS : St w5 _ [(b9, 31, encR (ofQ fi)), (b10, 31, encR (ofQ fk))] := hS
              exact ⟨_, rfl, by assumption, by assumption, by assumption, by assumption, by assumption, rfl, by assumption, by assumption, b9, b10, rfl, rfl, hS⟩
        clear hS h3 h5 h49 h50 h7 h54 h55
        rintro ρ w8 ⟨h3, h5, h49, h50, h7, h8, h54, h55, b9, b10, h9, h10, hS⟩
        have hgi : (tab n res).getD i 0 = res i := tab_get _ _ hlt
        have hgk : (tab n res).getD k 0 = res k := tab_get _ _ hkt
        have hri := hrb i hlt
        have hrk := hrb k hkt
        obtain ⟨ri, hri'⟩ : ∃ q, q = (tab n res).getD i 0 := ⟨_, rfl⟩
        obtain ⟨rk, hrk'⟩ : ∃ q, q = (tab n res).getD k 0 := ⟨_, rfl⟩
        have e1 : ri = res i := by rw [hri', hgi]
        have e2 : rk = res k := by rw [hrk', hgk]
        rw [← e1, ← e2] at g1 g2
        rw [← e1] at hri
        rw [← e2] at hrk
        have hLri := L_i64 (n := ri) (by omega) (by omega)
        have hLrk := L_i64 (n := rk) (by omega) (by omega)
        have hi1 := fun w => QInt_ok ri w (by omega) (by omega)
        have hi2 := fun w => QInt_ok rk w (by omega) (by omega)
        have hc1 := fun w => QCompare_ok (ofQ (ri : Rat)) wi w (by rw [Lr_ofQ]; omega)
        have hc2 := fun w => QCompare_ok (ofQ (rk : Rat)) wk w (by rw [Lr_ofQ]; omega)
        have hc3 := fun w => QCompare_ok (ofQ fi) (ofQ fk) w (by rw [Lr_ofQ, Lr_ofQ]; omega)
        rw [toQ_ofQ, ← hqi'] at hc1
        rw [toQ_ofQ, ← hqk'] at hc2
        rw [toQ_ofQ, toQ_ofQ] at hc3
        obtain ⟨ci, hci⟩ : ∃ c, c = cmpQ (ri : Rat) qi := ⟨_, rfl⟩
        obtain ⟨ck, hck⟩ : ∃ c, c = cmpQ (rk : Rat) qk := ⟨_, rfl⟩
        obtain ⟨cf, hcf⟩ : ∃ c, c = cmpQ fi fk := ⟨_, rfl⟩
        rw [← hci] at hc1
        rw [← hck] at hc2
        rw [← hcf] at hc3
        repeat (with_reducible first | refine c_seq ?_ | refine c_block ?_ | refine c_skip ?_ | refine x_then ?_ | refine x_block ?_)
        refine c_draw [(0, .pure), (1, .pure), (2, .pure), (3, .read), (5, .pure), (6, .pure), (7, .pure), (8, .read), (4, .grow), (9, .grow), (10, .pure), (11, .pure)] (by kernel_rfl) (by kernel_rfl) hS ?_
        intro wz117 hS hBz117
        refine w_pure rfl rfl (s_move  h5 ?_)
        refine w_pure rfl rfl (s_move  h7 ?_)
        refine w_pure rfl rfl (s_ixr (i := i)  rfl rfl (hva.below hS.below) (by omega) (by first | omega | (simp; done) | (simp; omega)) si_26 ?_)
        refine w_read rfl rfl (s_lde (i := i) 0  rfl vi_2 (hva.below hS.below) (by first | omega | (simp; done) | (simp; omega)) rfl rfl (.inr rfl) ?_)
        refine w_pure rfl rfl (s_move  h3 ?_)
        refine w_pure rfl rfl (s_move  h7 ?_)
        refine w_pure rfl rfl (s_ixr (i := i)  rfl rfl (hvx.below hS.below) (by omega) (by first | omega | (simp; done) | (simp; omega)) si_24 ?_)
        refine w_read rfl rfl (s_lde (i := i) zRR  rfl vi_31 (hvx.below hS.below) (by first | omega | (simp; done) | (simp; omega)) rfl rfl (.inl rfl) ?_)
        rw [← hri', ← hwi]
        refine w_grow rfl rfl (s_call Tryd.call15 rfl (hi1 _) ?_)
        rintro _ wc118 ⟨rfl, hBc118⟩
        replace hS := hS.grow hBc118
        refine ⟨hBc118, ?_⟩
        refine w_grow rfl rfl (s_call Tryd.call17 rfl (hc1 _) ?_)
        rintro _ wc119 ⟨rfl, hBc119⟩
        replace hS := hS.grow hBc119
        refine ⟨hBc119, ?_⟩
        refine w_pure rfl rfl (s_gtr  rfl rfl ?_)
        refine w_pure rfl rfl (s_asg  rfl ?_)
        refine w_end ?_
        repeat (with_reducible first | refine c_seq ?_ | refine c_block ?_ | refine c_skip ?_ | refine x_then ?_ | refine x_block ?_)
        refine c_draw [(0, .pure), (1, .pure), (2, .pure), (3, .read), (5, .pure), (6, .pure), (7, .pure), (8, .read), (4, .grow), (9, .grow), (10, .pure), (11, .pure)] (by kernel_rfl) (by kernel_rfl) hS ?_
        intro wz120 hS hBz120
        refine w_pure rfl rfl (s_move  h5 ?_)
        refine w_pure rfl rfl (s_move  h8 ?_)
        refine w_pure rfl rfl (s_ixr (i := k)  rfl rfl (hva.below hS.below) (by omega) (by first | omega | (simp; done) | (simp; omega)) si_26 ?_)
        refine w_read rfl rfl (s_lde (i := k) 0  rfl vi_2 (hva.below hS.below) (by first | omega | (simp; done) | (simp; omega)) rfl rfl (.inr rfl) ?_)
        refine w_pure rfl rfl (s_move  h3 ?_)
        refine w_pure rfl rfl (s_move  h8 ?_)
        refine w_pure rfl rfl (s_ixr (i := k)  rfl rfl (hvx.below hS.below) (by omega) (by first | omega | (simp; done) | (simp; omega)) si_24 ?_)
        refine w_read rfl rfl (s_lde (i := k) zRR  rfl vi_31 (hvx.below hS.below) (by first | omega | (simp; done) | (simp; omega)) rfl rfl (.inl rfl) ?_)
        rw [← hrk', ← hwk]
        refine w_grow rfl rfl (s_call Tryd.call15 rfl (hi2 _) ?_)
        rintro _ wc121 ⟨rfl, hBc121⟩
        replace hS := hS.grow hBc121
        refine ⟨hBc121, ?_⟩
        refine w_grow rfl rfl (s_call Tryd.call17 rfl (hc2 _) ?_)
        rintro _ wc122 ⟨rfl, hBc122⟩
        replace hS := hS.grow hBc122
        refine ⟨hBc122, ?_⟩
        refine w_pure rfl rfl (s_lss  rfl rfl ?_)
        refine w_pure rfl rfl (s_asg  rfl ?_)
        refine w_end ?_
        repeat (with_reducible first | refine c_seq ?_ | refine c_block ?_ | refine c_skip ?_ | refine x_then ?_ | refine x_block ?_)
        by_cases c1 : 0 < ci
        · by_cases c2 : ck < 0
          · have q1 : qi < (ri : Rat) := cmpQ_pos.1 (by rw [← hci]; exact c1)
            have q2 : (rk : Rat) < qk := cmpQ_neg.1 (by rw [← hck]; exact c2)
            have c3 : 0 ≤ cf := by rw [hcf]; exact cmpQ_ge.2 (Rat.not_lt.1 (g1 q1 q2))
            repeat (with_reducible first | refine c_seq ?_ | refine c_block ?_ | refine c_skip ?_ | refine x_then ?_ | refine x_block ?_)
            refine c_reg ?_
            refine l_pure rfl (s_move  rfl ?_)
            refine l_pure rfl (s_move  rfl ?_)
            refine l_pure (gd_yes 101 (by kernel_rfl) rfl (decide_eq_true (by omega))) (s_move  rfl ?_)
            refine l_pure rfl (s_pick (vb rfl (decide_eq_true (by omega))) rfl ?_)
            refine l_pure rfl (s_move  rfl ?_)
            refine l_read (gd_yes 104 (by kernel_rfl) rfl (decide_eq_true (by omega))) (s_ldo (k := 0)  h9 vi_31 hS rfl rfl rfl (.inl rfl) ?_)
            refine l_read (gd_yes 104 (by kernel_rfl) rfl (decide_eq_true (by omega))) (s_ldo (k := 1)  h10 vi_31 hS rfl rfl rfl (.inl rfl) ?_)
            refine l_heavy (gd_yes 104 (by kernel_rfl) rfl (decide_eq_true (by omega))) (s_call Tryd.call17 rfl (hc3 _) ?_)
            rintro v9 w9 ⟨rfl, hB9⟩
            replace hS := hS.grow hB9
            by_cases hfe : fi = fk
            · have hki := g2 q1 q2 hfe
              refine l_pure (gd_yes 104 (by kernel_rfl) rfl (decide_eq_true (by omega))) (s_lss  rfl rfl ?_)
              refine l_pure (gd_yes 104 (by kernel_rfl) rfl (decide_eq_true (by omega))) (s_move  rfl ?_)
              refine l_read (gd_yes 109 (by kernel_rfl) rfl (decide_eq_false (by omega))) (s_ldo (k := 0)  h9 vi_31 hS rfl rfl rfl (.inl rfl) ?_)
              refine l_read (gd_yes 109 (by kernel_rfl) rfl (decide_eq_false (by omega))) (s_ldo (k := 1)  h10 vi_31 hS rfl rfl rfl (.inl rfl) ?_)
              refine l_pure (gd_yes 109 (by kernel_rfl) rfl (decide_eq_false (by omega))) (s_eqR  rfl rfl ?_)
              refine l_pure (gd_yes 109 (by kernel_rfl) rfl (decide_eq_false (by omega))) (s_move  rfl ?_)
              refine l_pure (gd_yes 113 (by kernel_rfl) rfl (decide_eq_true (by rw [hfe]))) (s_move  h7 ?_)
              refine l_pure (gd_yes 113 (by kernel_rfl) rfl (decide_eq_true (by rw [hfe]))) (s_move  h8 ?_)
              refine l_pure (gd_yes 113 (by kernel_rfl) rfl (decide_eq_true (by rw [hfe]))) (s_gtr  rfl rfl ?_)
              refine l_pure (gd_yes 109 (by kernel_rfl) rfl (decide_eq_false (by omega))) (s_pick (vb rfl (decide_eq_true (by rw [hfe]))) rfl ?_)
              refine l_pure (gd_yes 104 (by kernel_rfl) rfl (decide_eq_true (by omega))) (s_pick (vb rfl (decide_eq_false (by omega))) rfl ?_)
              refine l_pure rfl (s_pick (vb rfl (decide_eq_true (by omega))) rfl ?_)
              refine l_nil ?_
              repeat (with_reducible first | refine c_seq ?_ | refine c_block ?_ | refine c_skip ?_ | refine x_then ?_ | refine x_block ?_)
              refine c_no rfl (decide_eq_false (by omega)) ?_
              repeat (with_reducible first | refine c_seq ?_ | refine c_block ?_ | refine c_skip ?_ | refine x_then ?_ | refine x_block ?_)
              refine c_reg ?_
              refine l_pure rfl (s_add  h55 rfl (IntWalk.i64_in _ (by omega)) ?_)
              refine l_pure rfl (s_move  rfl ?_)
              refine l_nil ?_
              repeat (with_reducible first | refine c_seq ?_ | refine c_block ?_ | refine c_skip ?_ | refine x_then ?_ | refine x_block ?_)
              exact ⟨k + 1, _, rfl, ⟨hkt, by assumption, by assumption, by assumption, by assumption, by assumption, by assumption, vi rfl (by omega), hS.drop (List.nil_sublist _)⟩, by omega⟩
            · refine l_pure (gd_yes 104 (by kernel_rfl) rfl (decide_eq_true (by omega))) (s_lss  rfl rfl ?_)
              refine l_pure (gd_yes 104 (by kernel_rfl) rfl (decide_eq_true (by omega))) (s_move  rfl ?_)
              refine l_read (gd_yes 109 (by kernel_rfl) rfl (decide_eq_false (by omega))) (s_ldo (k := 0)  h9 vi_31 hS rfl rfl rfl (.inl rfl) ?_)
              refine l_read (gd_yes 109 (by kernel_rfl) rfl (decide_eq_false (by omega))) (s_ldo (k := 1)  h10 vi_31 hS rfl rfl rfl (.inl rfl) ?_)
              refine l_pure (gd_yes 109 (by kernel_rfl) rfl (decide_eq_false (by omega))) (s_eqR  rfl rfl ?_)
              refine l_pure (gd_yes 109 (by kernel_rfl) rfl (decide_eq_false (by omega))) (s_move  rfl ?_)
              refine l_no (gno_yes 113 (by kernel_rfl) rfl (decide_eq_false (fun g => hfe (ofQ_inj g)))) ?_
              refine l_no (gno_yes 113 (by kernel_rfl) rfl (decide_eq_false (fun g => hfe (ofQ_inj g)))) ?_
              refine l_no (gno_yes 113 (by kernel_rfl) rfl (decide_eq_false (fun g => hfe (ofQ_inj g)))) ?_
              refine l_pure (gd_yes 109 (by kernel_rfl) rfl (decide_eq_false (by omega))) (s_pick (vb rfl (decide_eq_false (fun g => hfe (ofQ_inj g)))) rfl ?_)
              refine l_pure (gd_yes 104 (by kernel_rfl) rfl (decide_eq_true (by omega))) (s_pick (vb rfl (decide_eq_false (by omega))) rfl ?_)
              refine l_pure rfl (s_pick (vb rfl (decide_eq_true (by omega))) rfl ?_)
              refine l_nil ?_
              repeat (with_reducible first | refine c_seq ?_ | refine c_block ?_ | refine c_skip ?_ | refine x_then ?_ | refine x_block ?_)
              refine c_no rfl (rfl) ?_
              repeat (with_reducible first | refine c_seq ?_ | refine c_block ?_ | refine c_skip ?_ | refine x_then ?_ | refine x_block ?_)
              refine c_reg ?_
              refine l_pure rfl (s_add  h55 rfl (IntWalk.i64_in _ (by omega)) ?_)
              refine l_pure rfl (s_move  rfl ?_)
              refine l_nil ?_
              repeat (with_reducible first | refine c_seq ?_ | refine c_block ?_ | refine c_skip ?_ | refine x_then ?_ | refine x_block ?_)
              exact ⟨k + 1, _, rfl, ⟨hkt, by assumption, by assumption, by assumption, by assumption, by assumption, by assumption, vi rfl (by omega), hS.drop (List.nil_sublist _)⟩, by omega⟩
          · repeat (with_reducible first | refine c_seq ?_ | refine c_block ?_ | refine c_skip ?_ | refine x_then ?_ | refine x_block ?_)
            refine c_reg ?_
            refine l_pure rfl (s_move  rfl ?_)
            refine l_pure rfl (s_move  rfl ?_)
            refine l_pure (gd_yes 101 (by kernel_rfl) rfl (decide_eq_true (by omega))) (s_move  rfl ?_)
            refine l_pure rfl (s_pick (vb rfl (decide_eq_true (by omega))) rfl ?_)
            refine l_pure rfl (s_move  rfl ?_)
            refine l_no (gno_yes 104 (by kernel_rfl) rfl (decide_eq_false (by omega))) ?_
            refine l_no (gno_yes 104 (by kernel_rfl) rfl (decide_eq_false (by omega))) ?_
            refine l_no (gno_yes 104 (by kernel_rfl) rfl (decide_eq_false (by omega))) ?_
            refine l_no (gno_yes 104 (by kernel_rfl) rfl (decide_eq_false (by omega))) ?_
            refine l_no (gno_yes 104 (by kernel_rfl) rfl (decide_eq_false (by omega))) ?_
            refine l_no (gno_un 109 (by kernel_rfl) rfl) ?_
            refine l_no (gno_un 109 (by kernel_rfl) rfl) ?_
            refine l_no (gno_un 109 (by kernel_rfl) rfl) ?_
            refine l_no (gno_un 109 (by kernel_rfl) rfl) ?_
            refine l_no (gno_un 113 (by kernel_rfl) rfl) ?_
            refine l_no (gno_un 113 (by kernel_rfl) rfl) ?_
            refine l_no (gno_un 113 (by kernel_rfl) rfl) ?_
            refine l_no (gno_un 109 (by kernel_rfl) rfl) ?_
            refine l_no (gno_yes 104 (by kernel_rfl) rfl (decide_eq_false (by omega))) ?_
            refine l_pure rfl (s_pick (vb rfl (decide_eq_false (by omega))) rfl ?_)
            refine l_nil ?_
            repeat (with_reducible first | refine c_seq ?_ | refine c_block ?_ | refine c_skip ?_ | refine x_then ?_ | refine x_block ?_)
            refine c_no rfl (rfl) ?_
            repeat (with_reducible first | refine c_seq ?_ | refine c_block ?_ | refine c_skip ?_ | refine x_then ?_ | refine x_block ?_)
            refine c_reg ?_
            refine l_pure rfl (s_add  h55 rfl (IntWalk.i64_in _ (by omega)) ?_)
            refine l_pure rfl (s_move  rfl ?_)
            refine l_nil ?_
            repeat (with_reducible first | refine c_seq ?_ | refine c_block ?_ | refine c_skip ?_ | refine x_then ?_ | refine x_block ?_)
            exact ⟨k + 1, _, rfl, ⟨hkt, by assumption, by assumption, by assumption, by assumption, by assumption, by assumption, vi rfl (by omega), hS.drop (List.nil_sublist _)⟩, by omega⟩
        · repeat (with_reducible first | refine c_seq ?_ | refine c_block ?_ | refine c_skip ?_ | refine x_then ?_ | refine x_block ?_)
          refine c_reg ?_
          refine l_pure rfl (s_move  rfl ?_)
          refine l_pure rfl (s_move  rfl ?_)
          refine l_no (gno_yes 101 (by kernel_rfl) rfl (decide_eq_false (by omega))) ?_
          refine l_pure rfl (s_pick (vb rfl (decide_eq_false (by omega))) rfl ?_)
          refine l_pure rfl (s_move  rfl ?_)
          refine l_no (gno_yes 104 (by kernel_rfl) rfl rfl) ?_
          refine l_no (gno_yes 104 (by kernel_rfl) rfl rfl) ?_
          refine l_no (gno_yes 104 (by kernel_rfl) rfl rfl) ?_
          refine l_no (gno_yes 104 (by kernel_rfl) rfl rfl) ?_
          refine l_no (gno_yes 104 (by kernel_rfl) rfl rfl) ?_
          refine l_no (gno_un 109 (by kernel_rfl) rfl) ?_
          refine l_no (gno_un 109 (by kernel_rfl) rfl) ?_
          refine l_no (gno_un 109 (by kernel_rfl) rfl) ?_
          refine l_no (gno_un 109 (by kernel_rfl) rfl) ?_
          refine l_no (gno_un 113 (by kernel_rfl) rfl) ?_
          refine l_no (gno_un 113 (by kernel_rfl) rfl) ?_
          refine l_no (gno_un 113 (by kernel_rfl) rfl) ?_
          refine l_no (gno_un 109 (by kernel_rfl) rfl) ?_
          refine l_no (gno_yes 104 (by kernel_rfl) rfl rfl) ?_
          refine l_pure rfl (s_pick (vb rfl rfl) rfl ?_)
          refine l_nil ?_
          repeat (with_reducible first | refine c_seq ?_ | refine c_block ?_ | refine c_skip ?_ | refine x_then ?_ | refine x_block ?_)
          refine c_no rfl (rfl) ?_
          repeat (with_reducible first | refine c_seq ?_ | refine c_block ?_ | refine c_skip ?_ | refine x_then ?_ | refine x_block ?_)
          refine c_reg ?_
          refine l_pure rfl (s_add  h55 rfl (IntWalk.i64_in _ (by omega)) ?_)
          refine l_pure rfl (s_move  rfl ?_)
          refine l_nil ?_
          repeat (with_reducible first | refine c_seq ?_ | refine c_block ?_ | refine c_skip ?_ | refine x_then ?_ | refine x_block ?_)
          exact ⟨k + 1, _, rfl, ⟨hkt, by assumption, by assumption, by assumption, by assumption, by assumption, by assumption, vi rfl (by omega), hS.drop (List.nil_sublist _)⟩, by omega⟩
      · refine c_no rfl (decide_eq_false (by omega)) ?_
        repeat (with_reducible first | refine c_seq ?_ | refine c_block ?_ | refine c_skip ?_ | refine x_then ?_ | refine x_block ?_)
        refine c_exit ?_
        repeat (with_reducible first | refine x_then_exit ?_ | refine x_block_exit ?_ | refine x_block_pass rfl ?_)
        repeat (with_reducible first | refine c_seq ?_ | refine c_block ?_ | refine c_skip ?_ | refine x_then ?_ | refine x_block ?_)
        exact ⟨_, rfl, h3, h5, h49, h50, hS⟩
    clear hS h3 h5 h49 h50
    rintro ρ w7 ⟨h3, h5, h49, h50, hS⟩
    repeat (with_reducible first | refine c_seq ?_ | refine c_block ?_ | refine c_skip ?_ | refine x_then ?_ | refine x_block ?_)
    refine c_reg ?_
    refine l_pure rfl (s_add  h50 rfl (IntWalk.i64_in _ (by omega)) ?_)
    refine l_pure rfl (s_move  rfl ?_)
    refine l_nil ?_
    repeat (with_reducible first | refine c_seq ?_ | refine c_block ?_ | refine c_skip ?_ | refine x_then ?_ | refine x_block ?_)
    exact ⟨i + 1, _, rfl, ⟨hlt, by assumption, by assumption, by assumption, vi rfl (by omega), hS⟩, by omega⟩
  · refine c_no rfl (decide_eq_false (by omega)) ?_
    repeat (with_reducible first | refine c_seq ?_ | refine c_block ?_ | refine c_skip ?_ | refine x_then ?_ | refine x_block ?_)
    refine c_exit ?_
    repeat (with_reducible first | refine x_then_exit ?_ | refine x_block_exit ?_ | refine x_block_pass rfl ?_)
    repeat (with_reducible first | refine c_seq ?_ | refine c_block ?_ | refine c_skip ?_ | refine x_then ?_ | refine x_block ?_)
    refine c_reg ?_
    refine l_heavy rfl (s_call Tryd.call11 rfl (Aawake_ok _) ?_)
    rintro _ wc123 ⟨rfl, hBc123⟩
    replace hS := hS.grow hBc123
    refine l_pure rfl (s_asg  rfl ?_)
    refine l_nil ?_
    repeat (with_reducible first | refine c_seq ?_ | refine c_block ?_ | refine c_skip ?_ | refine x_then ?_ | refine x_block ?_)
    refine c_ret ?_
    repeat (with_reducible first | refine x_then_ret ?_ | refine x_block_ret ?_)
    refine r_one rfl rfl ?_
    exact ⟨rfl, bt hW hS.below⟩
end Go.Proofs.YtmapmdldlcfjhaaDoor
