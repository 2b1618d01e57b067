/-
  Part 7 of the texts that the law's proof is made of: the framework and the walks.
-/
import Derived.Test.YtblfipdfklpmmaaGreatDoorPq6
namespace Go.Sx
open Go Go.RowKit
section
variable {P : Program} {ops : Array Oper} {Kend : Act → World → Prop}
/-- Does operation i wait for none of those that are left? -/
def rdyU (ops : Array Oper) (U : List (Nat × Md)) (i : Nat) : Bool := match ops[i]? with
  | some o => o.after.all fun e => !Region.binds .any e || !(U.any fun y => Nat.beq y.1 e.on)
  | none => false
def del (U : List (Nat × Md)) (i : Nat) : List (Nat × Md) := U.filter fun y => !Nat.beq y.1 i
theorem mem_del {U : List (Nat × Md)} {i : Nat} {y : Nat × Md} : y ∈ del U i ↔ y ∈ U ∧ y.1 ≠ i := by
  unfold del
  rw [List.mem_filter]
  constructor
  · rintro ⟨h1, h2⟩
    refine ⟨h1, fun e => ?_⟩
    rw [e] at h2
    simp at h2
  · rintro ⟨h1, h2⟩
    refine ⟨h1, ?_⟩
    rw [Bool.not_eq_true']
    cases hb : Nat.beq y.1 i with
    | false => rfl
    | true => exact absurd (Nat.eq_of_beq_eq_true hb) h2
theorem del_comm (U : List (Nat × Md)) (i j : Nat) : del (del U i) j = del (del U j) i := by
  unfold del
  rw [List.filter_filter, List.filter_filter]
  congr 1
  funext y
  exact Bool.and_comm _ _
theorem rdy_mono {U V : List (Nat × Md)} (h : ∀ y ∈ V, y ∈ U) {i : Nat} (hr : rdyU ops U i = true) : rdyU ops V i = true := by
  unfold rdyU at *
  cases ho : ops[i]? with
  | none => rw [ho] at hr; cases hr
  | some o =>
    rw [ho] at hr
    simp only at hr ⊢
    rw [Array.all_eq_true'] at hr ⊢
    intro e he
    have := hr e he
    rw [Bool.or_eq_true] at this ⊢
    rcases this with q | q
    · exact .inl q
    · right
      rw [Bool.not_eq_true'] at q ⊢
      rw [List.any_eq_false] at q ⊢
      exact fun y hy => q y (h y hy)
theorem rdy_some {U : List (Nat × Md)} {i : Nat} (hr : rdyU ops U i = true) : ∃ o, ops[i]? = some o ∧ ∀ e ∈ o.after, Region.binds .any e = true → ∀ y ∈ U, y.1 ≠ e.on := by
  unfold rdyU at hr
  cases ho : ops[i]? with
  | none => rw [ho] at hr; cases hr
  | some o =>
    rw [ho] at hr
    simp only at hr
    rw [Array.all_eq_true'] at hr
    refine ⟨o, rfl, fun e he hb y hy q => ?_⟩
    have := hr e he
    rw [hb, Bool.not_true, Bool.false_or, Bool.not_eq_true', List.any_eq_false] at this
    exact this y hy (by rw [q]; simp)
def allo (P : Program) (ops : Array Oper) (Kend : Act → World → Prop) : Nat → List (Nat × Md) → Act → World → Prop
  | 0, U, a, w => U = [] ∧ Kend a w
  | n + 1, U, a, w => (U = [] → Kend a w) ∧ ∀ x ∈ U, rdyU ops U x.1 = true → ∃ o, ops[x.1]? = some o ∧ rstep P ops x.2 o a w (allo P ops Kend n (del U x.1))
/-- The edges point back. -/
def lowOk (ops : Array Oper) : Bool := (List.range ops.size).all fun i => match ops[i]? with
  | some o => o.after.all fun e => !Region.binds .any e || Nat.blt e.on i
  | none => true
theorem low_at (h : lowOk ops = true) {i : Nat} {o : Oper} (hi : ops[i]? = some o) : ∀ e ∈ o.after, Region.binds .any e = true → e.on < i := by
  intro e he hb
  have hlt : i < ops.size := by
    rcases Nat.lt_or_ge i ops.size with q | q
    · exact q
    · rw [Array.getElem?_eq_none q] at hi; cases hi
  have := List.all_eq_true.1 h i (List.mem_range.2 hlt)
  rw [hi] at this
  have := Array.all_eq_true'.1 this e he
  rw [hb, Bool.not_true, Bool.false_or, Nat.blt_eq] at this
  exact this
theorem rdy_ex (hlow : lowOk ops = true) {U : List (Nat × Md)} (hU : ∀ y ∈ U, y.1 < ops.size) : ∀ k m, (k, m) ∈ U → ∃ x ∈ U, rdyU ops U x.1 = true := by
  intro k
  induction k using Nat.strongRecOn with
  | _ k ih =>
    intro m hm
    by_cases hr : rdyU ops U k = true
    · exact ⟨_, hm, hr⟩
    · have hk := hU _ hm
      have ho : ops[k]? = some ops[k] := Array.getElem?_eq_getElem hk
      unfold rdyU at hr
      rw [ho] at hr
      simp only at hr
      rw [Array.all_eq_true'] at hr
      have : ∃ e ∈ ops[k].after, ¬ (!Region.binds .any e || !(U.any fun y => Nat.beq y.1 e.on)) = true := by
        refine Classical.byContradiction fun hc => hr fun e he => ?_
        exact Classical.byContradiction fun hn => hc ⟨e, he, hn⟩
      obtain ⟨e, he, hn⟩ := this
      rw [Bool.or_eq_true, not_or] at hn
      obtain ⟨h1, h2⟩ := hn
      have hb : Region.binds .any e = true := by simpa using h1
      have h3 : (U.any fun y => Nat.beq y.1 e.on) = true := by simpa using h2
      obtain ⟨y, hy, hyb⟩ := List.any_eq_true.1 h3
      have hye := Nat.eq_of_beq_eq_true hyb
      obtain ⟨y1, y2⟩ := y
      simp only at hye
      exact ih y1 (by rw [hye]; exact low_at hlow ho e he hb) y2 hy
theorem wpAny_of_allo {Q : Exit → Act → World → Prop} (hQ : ∀ a w, Kend a w → Q .normal a w) (hlow : lowOk ops = true) :
    ∀ (n : Nat) (U : List (Nat × Md)) (listed : Array Bool) (a : Act) (w : World), listed.size = ops.size → (∀ i, listed.getD i true = false ↔ ∃ m, (i, m) ∈ U) → (∀ y ∈ U, y.1 < ops.size) → allo P ops Kend n U a w → wpAny P .any ops Q n listed a w := by
  intro n
  induction n with
  | zero =>
    intro U listed a w _ hl _ h
    obtain ⟨rfl, h⟩ := h
    refine ⟨List.eq_nil_iff_forall_not_mem.2 fun i hi => ?_, hQ _ _ h⟩
    obtain ⟨m, hm⟩ := (hl i).1 (mem_ready.1 hi).1
    cases hm
  | succ n ih =>
    intro U listed a w hsz hl hU h
    obtain ⟨h1, h2⟩ := h
    have hrd : ∀ i, listed.getD i true = false → (∀ (o : Oper), ops[i]? = some o → ∀ e ∈ o.after, Region.binds .any e = true → listed.getD e.on false = true) → (∃ o, ops[i]? = some o) → rdyU ops U i = true := by
      rintro i _ hd ⟨o, ho⟩
      unfold rdyU
      rw [ho]
      simp only
      rw [Array.all_eq_true']
      intro e he
      cases hb : Region.binds .any e with
      | false => rfl
      | true =>
        rw [Bool.not_true, Bool.false_or, Bool.not_eq_true', List.any_eq_false]
        intro y hy hyb
        have hye := Nat.eq_of_beq_eq_true hyb
        have h3 := hd o ho e he hb
        have h4 := (hl y.1).2 ⟨y.2, hy⟩
        rw [hye] at h4
        rcases Nat.lt_or_ge e.on listed.size with q | q
        · simp only [Array.getD, q, dite_true] at h3 h4
          rw [h3] at h4; cases h4
        · simp [Array.getD, Nat.not_lt.2 q] at h3
    refine ⟨fun hr => ?_, fun i hi => ?_⟩
    · refine hQ _ _ (h1 (List.eq_nil_iff_forall_not_mem.2 fun x hx => ?_))
      obtain ⟨y, hy, hyr⟩ := rdy_ex hlow hU x.1 x.2 hx
      obtain ⟨o, ho, hd⟩ := rdy_some hyr
      have : y.1 ∈ Region.ready .any ops listed := mem_ready.2 ⟨(hl y.1).2 ⟨y.2, hy⟩, o, ho, fun e he hb => by
        have hne := hd e he hb
        have hlt : e.on < listed.size := by
          have := low_at hlow ho e he hb
          have := hU y hy
          omega
        have h5 : ¬ listed.getD e.on true = false := fun g => by
          obtain ⟨m, hm⟩ := (hl e.on).1 g
          exact hne _ hm rfl
        simp only [Array.getD, hlt, dite_true] at h5 ⊢
        simpa using h5⟩
      rw [hr] at this
      cases this
    · obtain ⟨hun, oi, hoi, hdeps⟩ := mem_ready.1 hi
      obtain ⟨m, hm⟩ := (hl i).1 hun
      have hr := hrd i hun (fun o ho => by rw [hoi] at ho; obtain rfl := Option.some.inj ho; exact hdeps) ⟨oi, hoi⟩
      obtain ⟨o, ho, hst⟩ := h2 (i, m) hm hr
      have hilt : i < listed.size := by rw [hsz]; exact hU _ hm
      refine wpOp_of_rstep ho (rstep_mono (fun a w hh => ?_) hst)
      refine ih (del U i) (listed.setIfInBounds i true) a w (by simpa using hsz) ?_ (fun y hy => hU y (mem_del.1 hy).1) hh
      intro j
      by_cases hji : j = i
      · subst hji
        constructor
        · intro hf; simp [Array.getD, hilt] at hf
        · rintro ⟨m', hm'⟩; exact absurd rfl (mem_del.1 hm').2
      · rw [getD_set_ne true (Ne.symm hji), hl j]
        constructor
        · rintro ⟨m', hm'⟩; exact ⟨m', mem_del.2 ⟨hm', hji⟩⟩
        · rintro ⟨m', hm'⟩; exact ⟨m', (mem_del.1 hm').1⟩
theorem rstep_ex {m : Md} {o : Oper} {a : Act} {w : World} {K : Act → World → Prop} (h : rstep P ops m o a w K) : ∃ a' w', K a' w' := by
  unfold rstep at h
  split at h
  · cases m with
    | pure => obtain ⟨v, _, h⟩ := h; exact ⟨_, _, h⟩
    | read => obtain ⟨v, _, h⟩ := h; exact ⟨_, _, h⟩
    | grow => obtain ⟨v, w', h⟩ := hup_some h; exact ⟨_, _, h.2⟩
    | free => obtain ⟨v, w', h⟩ := hup_some h; exact ⟨_, _, h⟩
  · exact ⟨_, _, h⟩
/-- y waits for i, by operations that are left. -/
inductive Bl (ops : Array Oper) (U : List (Nat × Md)) (i : Nat) : Nat → Prop
  | one {y : Nat} {o : Oper} {e : Edge} : ops[y]? = some o → e ∈ o.after → Region.binds .any e = true → e.on = i → Bl ops U i y
  | far {y : Nat} {o : Oper} {e : Edge} {z : Nat × Md} : ops[y]? = some o → e ∈ o.after → Region.binds .any e = true → e.on = z.1 → z ∈ U → Bl ops U i z.1 → Bl ops U i y
theorem Bl.rdy {i : Nat} {m : Md} {U : List (Nat × Md)} (hm : (i, m) ∈ U) {y : Nat} (h : Bl ops U i y) : rdyU ops U y ≠ true := by
  intro hr
  obtain ⟨o, ho, hd⟩ := rdy_some hr
  cases h with
  | one h1 h2 h3 h4 =>
    rw [ho] at h1
    obtain rfl := Option.some.inj h1
    exact hd _ h2 h3 _ hm h4.symm
  | far h1 h2 h3 h4 h5 _ =>
    rw [ho] at h1
    obtain rfl := Option.some.inj h1
    exact hd _ h2 h3 _ h5 h4.symm
theorem Bl.del {i : Nat} {m : Md} {U : List (Nat × Md)} (hm : (i, m) ∈ U) {x : Nat} (hx : rdyU ops U x = true) {y : Nat} (h : Bl ops U i y) : Bl ops (del U x) i y := by
  induction h with
  | one h1 h2 h3 h4 => exact .one h1 h2 h3 h4
  | far h1 h2 h3 h4 h5 h6 ih => exact .far h1 h2 h3 h4 (mem_del.2 ⟨h5, fun e => h6.rdy hm (by rw [e]; exact hx)⟩) ih
def blb (ops : Array Oper) (U : List (Nat × Md)) (i : Nat) : Nat → Nat → Bool
  | 0, _ => false
  | n + 1, y => match ops[y]? with
    | some o => o.after.any fun e => Region.binds .any e && (Nat.beq e.on i || ((U.any fun z => Nat.beq z.1 e.on) && blb ops U i n e.on))
    | none => false
theorem blb_sound {U : List (Nat × Md)} {i : Nat} : ∀ (n y : Nat), blb ops U i n y = true → Bl ops U i y := by
  intro n
  induction n with
  | zero => intro y h; cases h
  | succ n ih =>
    intro y h
    unfold blb at h
    cases ho : ops[y]? with
    | none => rw [ho] at h; cases h
    | some o =>
      rw [ho] at h
      simp only at h
      rw [Array.any_eq_true'] at h
      obtain ⟨e, he, hq⟩ := h
      rw [Bool.and_eq_true, Bool.or_eq_true, Bool.and_eq_true] at hq
      obtain ⟨hb, q | ⟨q, r⟩⟩ := hq
      · exact .one ho he hb (Nat.eq_of_beq_eq_true q)
      · obtain ⟨z, hz, hzb⟩ := List.any_eq_true.1 q
        have e2 := Nat.eq_of_beq_eq_true hzb
        exact .far ho he hb e2.symm hz (by rw [e2]; exact ih _ r)
/-- May (i, m) be taken first? -/
def zfront (ops : Array Oper) (x : Nat × Md) (U : List (Nat × Md)) : Bool :=
  rdyU ops U x.1 && (U.any fun y => Nat.beq y.1 x.1) && U.all fun y => (Nat.beq y.1 x.1 && decide (y.2 = x.2)) || (!Nat.beq y.1 x.1 && (blb ops U x.1 6 y.1 || swapOk ops x y))
theorem allo_front (hs : noSel ops) {i : Nat} {m : Md} {oi : Oper} (hi : ops[i]? = some oi) :
    ∀ (n : Nat) (U : List (Nat × Md)) (a : Act) (w : World), (i, m) ∈ U → rdyU ops U i = true → (∀ y ∈ U, y.1 = i → y.2 = m) →
      (∀ y ∈ U, y.1 ≠ i → Bl ops U i y.1 ∨ swapOk ops (i, m) y = true) →
      rstep P ops m oi a w (allo P ops Kend n (del U i)) → allo P ops Kend (n + 1) U a w := by
  intro n
  induction n with
  | zero =>
    intro U a w hm hr hu hsw h
    refine ⟨fun e => (by rw [e] at hm; cases hm), fun x hx hxr => ?_⟩
    by_cases hxi : x.1 = i
    · obtain ⟨x1, x2⟩ := x
      simp only at hxi
      subst hxi
      obtain rfl := hu _ hx rfl
      exact ⟨oi, hi, h⟩
    · exfalso
      obtain ⟨_, _, h3, _⟩ := rstep_ex h
      have := mem_del.2 ⟨hx, hxi⟩
      rw [h3] at this
      cases this
  | succ n ih =>
    intro U a w hm hr hu hsw h
    refine ⟨fun e => (by rw [e] at hm; cases hm), fun x hx hxr => ?_⟩
    by_cases hxi : x.1 = i
    · obtain ⟨x1, x2⟩ := x
      simp only at hxi
      subst hxi
      obtain rfl := hu _ hx rfl
      exact ⟨oi, hi, h⟩
    · obtain ⟨ox, hox, hxd⟩ := rdy_some hxr
      have hsx : swapOk ops (i, m) x = true := by
        rcases hsw x hx hxi with q | q
        · exact absurd hxr (q.rdy hm)
        · exact q
      refine ⟨ox, hox, ?_⟩
      have h1 : rstep P ops m oi a w (fun a w => rstep P ops x.2 ox a w (allo P ops Kend n (del (del U i) x.1))) := rstep_mono (fun a w g => by
        obtain ⟨o, ho, g⟩ := g.2 x (mem_del.2 ⟨hx, hxi⟩) (rdy_mono (fun y hy => (mem_del.1 hy).1) hxr)
        rw [hox] at ho
        obtain rfl := Option.some.inj ho
        exact g) h
      obtain ⟨x1, x2⟩ := x
      have h2 := rswap hi hox (fun cs b => hs i oi cs b hi) (fun cs b => hs x1 ox cs b hox) hsx h1
      refine rstep_mono (fun a w g => ?_) h2
      rw [del_comm] at g
      exact ih (del U x1) a w (mem_del.2 ⟨hm, Ne.symm hxi⟩) (rdy_mono (fun y hy => (mem_del.1 hy).1) hr) (fun y hy => hu y (mem_del.1 hy).1) (fun y hy hne => (hsw y (mem_del.1 hy).1 hne).imp (fun q => q.del hm hxr) id) g
end
/-- A region's walk, those of U not yet carried out. -/
structure Wz (P : Program) (ops : Array Oper) (Kend : Act → World → Prop) (n : Nat) (U : List (Nat × Md)) (N : Nat) (ρ : Nat → Value) (w : World) : Prop where
  out : noSel ops → allo P ops Kend n U (act N ρ) w
def zstep (P : Program) (ops : Array Oper) (Kend : Act → World → Prop) (n : Nat) (U' : List (Nat × Md)) (x : Nat × Md) (N : Nat) (ρ : Nat → Value) (w : World) : Prop :=
  noSel ops → ∃ o, ops[x.1]? = some o ∧ rstep P ops x.2 o (act N ρ) w (allo P ops Kend n U')
def zallOk (ops : Array Oper) (n : Nat) (U : List (Nat × Md)) : Bool :=
  Nat.beq ops.size n && decide (U.map (·.1) = List.range n) && lowOk ops && ops.all fun o => match o.op with | .select .. => false | _ => true
section
variable {P : Program} {N : Nat} {ρ : Nat → Value} {w0 w : World} {Q : Exit → Act → World → Prop} {ops : Array Oper} {H : List Blk} {Kend : Act → World → Prop} {i n : Nat} {o : Oper} {U U' : List (Nat × Md)}
theorem c_all {id : Nat} {l : List Oper} (n : Nat) (U : List (Nat × Md)) (hm : P.follows .mixedOrders = true) (hchk : zallOk l.toArray n U = true) (hS : St w0 w H)
    (h : ∀ w', St w0 w' H → Below w.heap.size w w' → Wz P l.toArray (Q .normal) n U N ρ w') : (Code.region id l.toArray true).wp P Q (act N ρ) w := by
  simp only [zallOk, Bool.and_eq_true, decide_eq_true_eq] at hchk
  obtain ⟨⟨⟨h1, h2⟩, h3⟩, h6⟩ := hchk
  have hsz := Nat.eq_of_beq_eq_true h1
  have hs : noSel l.toArray := by
    intro i o cs b hi hsel
    have := Array.all_eq_true'.1 h6 o (Array.mem_of_getElem? hi)
    rw [hsel] at this
    cases this
  have hbd : Below w.heap.size w { w with drawn := w.drawn + 1 } := (Below.refl _ w).drew
  have hUm : ∀ i, (∃ m, (i, m) ∈ U) ↔ i < n := by
    intro i
    rw [← List.mem_range, ← h2, List.mem_map]
    constructor
    · rintro ⟨m, hm⟩; exact ⟨_, hm, rfl⟩
    · rintro ⟨⟨a, m⟩, hm, rfl⟩; exact ⟨m, hm⟩
  refine wp_region_any hm ?_
  rw [hsz]
  refine wpAny_of_allo (fun _ _ h => h) h3 n U _ _ _ (by simp; simpa using hsz.symm) ?_ (fun y hy => by rw [hsz]; exact (hUm y.1).1 ⟨y.2, hy⟩) ((h _ (hS.grow hbd) hbd).out hs)
  intro i
  rw [hUm]
  constructor
  · intro hf
    rcases Nat.lt_or_ge i n with q | q
    · exact q
    · simp [Array.getD, Nat.not_lt.2 q] at hf
  · intro q
    simp [Array.getD, q]
theorem z_end (h : Kend (act N ρ) w) : Wz P ops Kend n [] N ρ w := ⟨fun _ => by
  cases n with
  | zero => exact ⟨rfl, h⟩
  | succ n => exact ⟨fun _ => h, fun x hx => by cases hx⟩⟩
theorem zfront_spec {x : Nat × Md} (h : zfront ops x U = true) : x ∈ U ∧ rdyU ops U x.1 = true ∧ (∀ y ∈ U, y.1 = x.1 → y.2 = x.2) ∧
    ∀ y ∈ U, y.1 ≠ x.1 → Bl ops U x.1 y.1 ∨ swapOk ops x y = true := by
  simp only [zfront, Bool.and_eq_true] at h
  obtain ⟨⟨h1, h2⟩, h3⟩ := h
  have hu : ∀ y ∈ U, y.1 = x.1 → y.2 = x.2 := fun y hy e => by
    have := List.all_eq_true.1 h3 y hy
    rw [e] at this
    simp at this
    exact this
  refine ⟨?_, h1, hu, fun y hy hne => ?_⟩
  · obtain ⟨y, hy, hb⟩ := List.any_eq_true.1 h2
    have e := Nat.eq_of_beq_eq_true hb
    have e2 := hu y hy e
    obtain ⟨y1, y2⟩ := y
    obtain ⟨x1, x2⟩ := x
    simp only at e e2
    rw [← e, ← e2]; exact hy
  · have := List.all_eq_true.1 h3 y hy
    have hb : Nat.beq y.1 x.1 = false := by
      cases hb : Nat.beq y.1 x.1 with
      | false => rfl
      | true => exact absurd (Nat.eq_of_beq_eq_true hb) hne
    rw [hb, Bool.false_and, Bool.false_or, Bool.not_false, Bool.true_and, Bool.or_eq_true] at this
    rcases this with q | q
    · exact .inl (blb_sound _ _ q)
    · exact .inr q
theorem z_pure {d : Option Tmp} {p : Op} {ty : TypeId} {pos : String} {aft : Array Edge} {g : Option (Nat × Bool)} (hf : zfront ops (i, .pure) U = true) (hd : del U i = U') (ho : ops[i]? = some ⟨d, p, ty, pos, aft, g⟩) (hg : gd ops N ρ g = true)
    (h : Pure1 P N ρ ⟨d, p, ty, pos, aft, g⟩ fun v => Wz P ops Kend n U' N (updo ρ d v) w) : Wz P ops Kend (n + 1) U N ρ w := by
  subst hd
  obtain ⟨f1, f2, f3, f4⟩ := zfront_spec hf
  refine ⟨fun hs => allo_front hs ho n U _ _ f1 f2 f3 f4 ?_⟩
  rw [rstep_pure (gd_wanted ops N ρ ⟨d, p, ty, pos, aft, g⟩ hg), act_eval]
  obtain ⟨v, h1, h2⟩ := h
  exact ⟨v, h1, by rw [act_put]; exact h2.out hs⟩
theorem z_read {d : Option Tmp} {p : Op} {ty : TypeId} {pos : String} {aft : Array Edge} {g : Option (Nat × Bool)} (hf : zfront ops (i, .read) U = true) (hd : del U i = U') (ho : ops[i]? = some ⟨d, p, ty, pos, aft, g⟩) (hg : gd ops N ρ g = true)
    (h : Read1 P N ρ w ⟨d, p, ty, pos, aft, g⟩ fun v => Wz P ops Kend n U' N (updo ρ d v) w) : Wz P ops Kend (n + 1) U N ρ w := by
  subst hd
  obtain ⟨f1, f2, f3, f4⟩ := zfront_spec hf
  refine ⟨fun hs => allo_front hs ho n U _ _ f1 f2 f3 f4 ?_⟩
  rw [rstep_read (gd_wanted ops N ρ ⟨d, p, ty, pos, aft, g⟩ hg), act_eval]
  obtain ⟨v, h1, h2⟩ := h
  exact ⟨v, h1, by rw [act_put]; exact h2.out hs⟩
theorem z_grow {d : Option Tmp} {p : Op} {ty : TypeId} {pos : String} {aft : Array Edge} {g : Option (Nat × Bool)} (ho : ops[i]? = some ⟨d, p, ty, pos, aft, g⟩) (hg : gd ops N ρ g = true)
    (h : Hup1 P N ρ w ⟨d, p, ty, pos, aft, g⟩ fun v w' => Below w.heap.size w w' ∧ Wz P ops Kend n U' N (updo ρ d v) w') : zstep P ops Kend n U' (i, .grow) N ρ w := fun hs => by
  refine ⟨_, ho, ?_⟩
  rw [rstep_grow (gd_wanted ops N ρ ⟨d, p, ty, pos, aft, g⟩ hg), act_eval]
  simp only [act_put]
  exact hup_mono (fun v w h => ⟨h.1, h.2.out hs⟩) h.out
theorem z_free {d : Option Tmp} {p : Op} {ty : TypeId} {pos : String} {aft : Array Edge} {g : Option (Nat × Bool)} (ho : ops[i]? = some ⟨d, p, ty, pos, aft, g⟩) (hg : gd ops N ρ g = true)
    (h : Hup1 P N ρ w ⟨d, p, ty, pos, aft, g⟩ fun v w' => Wz P ops Kend n U' N (updo ρ d v) w') : zstep P ops Kend n U' (i, .free) N ρ w := fun hs => by
  refine ⟨_, ho, ?_⟩
  rw [rstep_free (gd_wanted ops N ρ ⟨d, p, ty, pos, aft, g⟩ hg), act_eval]
  simp only [act_put]
  exact hup_mono (fun v w h => Wz.out h hs) h.out
theorem z_one {x : Nat × Md} (hR : (U.filter fun y => rdyU ops U y.1) = [x]) (hd : del U x.1 = U') (h : zstep P ops Kend n U' x N ρ w) : Wz P ops Kend (n + 1) U N ρ w := by
  subst hd
  refine ⟨fun hs => ⟨fun e => (by rw [e] at hR; cases hR), fun y hy hr => ?_⟩⟩
  have : y ∈ [x] := by rw [← hR]; exact List.mem_filter.2 ⟨hy, hr⟩
  obtain rfl := List.mem_singleton.1 this
  exact h hs
theorem z_two {x y : Nat × Md} {U'' : List (Nat × Md)} (hR : (U.filter fun y => rdyU ops U y.1) = [x, y]) (hd : del U x.1 = U') (hd' : del U y.1 = U'') (h : zstep P ops Kend n U' x N ρ w) (h' : zstep P ops Kend n U'' y N ρ w) : Wz P ops Kend (n + 1) U N ρ w := by
  subst hd hd'
  refine ⟨fun hs => ⟨fun e => (by rw [e] at hR; cases hR), fun z hz hr => ?_⟩⟩
  have : z ∈ [x, y] := by rw [← hR]; exact List.mem_filter.2 ⟨hz, hr⟩
  rcases List.mem_cons.1 this with rfl | this
  · exact h hs
  · obtain rfl := List.mem_singleton.1 this
    exact h' hs
end
end Go.Sx
namespace Go.Proofs.YtblfipdfklpmmaaGreatDoor
open Go Go.RowKit Go.Sx
theorem hup_read {P : Program} {N : Nat} {ρ : Nat → Value} {w : World} {o : Oper} {K : Value → World → Prop} (h : Read1 P N ρ w o fun v => Below w.heap.size w w ∧ K v w) : Hup1 P N ρ w o fun v w' => Below w.heap.size w w' ∧ K v w' := by
  obtain ⟨v, hr, hk⟩ := h
  exact hup_of_run (hr w (Below.refl _ _)) hk
theorem augRow {A : List (List RR)} {B : List RR} {i : Nat} : RM [tab A.length (qM (RM A) i) ++ [B.getD i zRR]] 0 = fun j => if j < A.length then RM A i j else if j = A.length then VX B i else 0 := by
  funext j
  have htl := tab_len A.length (qM (RM A) i)
  show toQ ((tab A.length (qM (RM A) i) ++ [B.getD i zRR]).getD j zRR) = _
  by_cases h : j < A.length
  · rw [if_pos h, List.getD_eq_getElem?_getD, List.getElem?_append_left (by omega), ← List.getD_eq_getElem?_getD, tab_get _ _ h]
    exact toQ_ofQ _
  · rw [if_neg h, List.getD_eq_getElem?_getD, List.getElem?_append_right (by omega), htl]
    by_cases h2 : j = A.length
    · rw [if_pos h2, h2, Nat.sub_self]; rfl
    · rw [if_neg h2, List.getElem?_eq_none (by simp; omega)]
      exact toQ_zRR
theorem AUG_row (A : List (List RR)) (B : List RR) (i : Nat) : AUG A B i = RM [tab A.length (qM (RM A) i) ++ [B.getD i zRR]] 0 := augRow.symm
theorem AUG_L {A : List (List RR)} {B : List RR} {K i : Nat} (hB : RBM K A) (hBB : RB K B) (hi : i < A.length) (hiB : i < B.length) (hev : (A.getD i []).length = A.length) : ∀ j, j < A.length + 1 → L (AUG A B i j) ≤ K := by
  intro j hj
  unfold AUG
  by_cases h : j < A.length
  · rw [if_pos h]; exact RM_L hB hi (by omega)
  · rw [if_neg h, if_pos (by omega)]
    exact Nat.le_trans (L_toQ _) (hBB _ (getD_mem B i zRR hiB))
def SS (S : Nat) : Nat → Nat
  | 0 => S
  | k + 1 => 2 * SS S k + 1
theorem SS_le (S : Nat) : ∀ k, SS S k + 1 = 2 ^ k * (S + 1)
  | 0 => by show S + 1 = _; rw [Nat.pow_zero, Nat.one_mul]
  | k + 1 => by
    have ih := SS_le S k
    show 2 * SS S k + 1 + 1 = _
    rw [Nat.pow_succ, Nat.mul_comm (2 ^ k) 2, Nat.mul_assoc, ← ih]; omega
theorem SS_16 {S k : Nat} (hk : k ≤ 16) : SS S k + 1 ≤ 65536 * (S + 1) := by
  rw [SS_le]
  exact Nat.mul_le_mul_right _ (Nat.le_trans (Nat.pow_le_pow_right (by decide) hk) (by decide))
theorem repMst {n m k : Nat} {B : Mx} {f : MZ} (h : RepZ n m B k fun i j => zv (f i j)) (hk : (rdc n B k).P.length = k) (hkm : k < m) (i : Nat) (hi : i < n) : (f i k).mag ≠ 0 ↔ (rdc n B k).M i k ≠ 0 := by
  have e := rep_zero h hk hi hkm
  exact not_congr (zv_ne.symm.trans e)
theorem zv_step (g : MZ) (k : Nat) (last : ZZ) (i j : Nat) : zv (zStep g k last i j) = stepZ (fun i j => zv (g i j)) k (zv last) i j := by
  unfold zStep stepZ zNew
  by_cases h : i = k
  · rw [if_pos h, if_pos h]
  · rw [if_neg h, if_neg h]
    by_cases h2 : j = k
    · rw [if_pos h2, if_pos h2]; rfl
    · rw [if_neg h2, if_neg h2, zv_over, zv_minus, zv_times, zv_times]
def swpG (f : MZ) (k p : Nat) : MZ := fun i j => if i = p then f k j else if i = k then f p j else f i j
theorem zv_swp (f : MZ) (k p : Nat) : (fun i j => zv (swpG f k p i j)) = swpZ (fun i j => zv (f i j)) k p := by
  funext i j
  unfold swpG swpZ
  by_cases h : i = p
  · rw [if_pos h]
    by_cases h2 : i = k
    · rw [if_pos h2, ← h2, h]
    · rw [if_neg h2, if_pos h]
  · rw [if_neg h]
    by_cases h2 : i = k
    · rw [if_pos h2, if_pos h2]
    · rw [if_neg h2, if_neg h2, if_neg h]
theorem swpG_size {f : MZ} {n m S k p : Nat} (hk : k < n) (hp : p < n) (h : ∀ i, i < n → ∀ j, j < m → zSz (f i j) ≤ S) : ∀ i, i < n → ∀ j, j < m → zSz (swpG f k p i j) ≤ S := by
  intro i hi j hj
  unfold swpG
  split
  · exact h k hk j hj
  · split
    · exact h p hp j hj
    · exact h i hi j hj
def oF (g : Nat → Rat) (i a : Nat) : Rat := if a < i then g a else 0
theorem oF_set (g : Nat → Rat) (n i : Nat) : (tab n fun a => ofQ (oF g i a)).set i (ofQ (g i)) = tab n fun a => ofQ (oF g (i + 1) a) := by
  rw [tabQ_set]
  refine tab_congr fun a _ => ?_
  unfold oF
  by_cases h : a = i
  · rw [if_pos h, if_pos (by omega), h]
  · rw [if_neg h]
    by_cases h2 : a < i
    · rw [if_pos h2, if_pos (by omega)]
    · rw [if_neg h2, if_neg (by omega)]
theorem oF_zero (g : Nat → Rat) (n : Nat) : List.replicate n zRR = tab n fun a => ofQ (oF g 0 a) := by
  rw [tab_rep]
  refine tab_congr fun a _ => ?_
  unfold oF
  rw [if_neg (Nat.not_lt_zero _), ofQ_zero]; rfl
theorem perm_in {α : Type} (z a b : α) (L D : List α) : (z :: a :: b :: (L ++ D)).Perm (a :: b :: (L ++ [z] ++ D)) := by
  have h1 : (z :: a :: b :: (L ++ D)).Perm (a :: b :: z :: (L ++ D)) := (List.Perm.swap a z _).trans (List.Perm.cons _ (List.Perm.swap b z _))
  refine h1.trans (List.Perm.cons _ (List.Perm.cons _ ?_))
  rw [List.append_assoc]
  exact List.perm_middle.symm
theorem perm_out {α : Type} (z a b : α) (L D : List α) : (a :: b :: (L ++ z :: D)).Perm (a :: b :: (L ++ D) ++ [z]) := by
  refine List.Perm.cons _ (List.Perm.cons _ ?_)
  exact List.perm_middle.trans (List.perm_append_singleton _ _).symm
theorem MatG_gl {R : List (Rw RR)} {n m : Nat} {f : Nat → Nat → RR} (hR : MatG R n m f) (hF : RwFull R) {i : Nat} (hi : i < n) (t : TypeId) : Gl encR t 3 (R.getD i zRw).v (tab m (f i)) [(R.getD i zRw).blk encR t] := by
  have hl : i < R.length := by rw [hR.len]; exact hi
  have hf := hF _ (getD_mem R i zRw hl)
  obtain ⟨hc1, hc2⟩ := hR.cap i hi
  have hr := hR.row i hi
  have htl := tab_len m (f i)
  refine ⟨flat_len encR_len _, .inr ⟨(R.getD i zRw).b, (R.getD i zRw).cap, (R.getD i zRw).sp, ?_, ?_, ?_, ?_, ?_⟩⟩
  · rw [hR.v hi, htl]
  · rw [← hr]; rfl
  · rw [htl]; exact hc1
  · unfold Go.maxLen; omega
  · rw [← hr]; exact hf
set_option maxHeartbeats 8000000 in
theorem lSolve_ok (v vb_ : Value) (A : List (List RR)) (vs : List Value) (B : List RR) (K : Nat) (w : World) (hA : Mts encR 3 w v A vs) (hBv : Sl encR 3 w vb_ B) (hB : RBM K A) (hBB : RB K B) (hK : 200000000 * K + 300000000 ≤ MX) :
    Ret Tryz.prog 12 #[v, vb_] w fun r w' => (∃ v', r = .tuple #[v', .int .i64 (slE A B)] ∧ Sl encR 3 w' v' (slL A B)) ∧ Below w.heap.size w w' := by
  have hM : MX = 1099511627776 := rfl
  have hno : slE A B ≠ 0 → slL A B = [] := fun h => if_neg h
  have hS := St.init w
  have hlen := hA.len
  have hmx := hBv.maxLen
  refine enter Tryz.func12 rfl Tryz.ntmps12 rfl ?_
  repeat (with_reducible first | refine c_seq ?_ | refine c_block ?_ | refine c_skip ?_ | refine x_then ?_ | refine x_block ?_)
  refine c_reg ?_
  refine l_pure rfl (s_asg  rfl ?_)
  refine l_pure rfl (s_asg  rfl ?_)
  refine l_nil ?_
  repeat (with_reducible first | refine c_seq ?_ | refine c_block ?_ | refine c_skip ?_ | refine x_then ?_ | refine x_block ?_)
  refine c_reg ?_
  refine l_pure rfl (s_move  rfl ?_)
  refine l_heavy rfl (s_call Tryz.call30 rfl (lsquare_ok v A vs _ (hA.below hS.below)) ?_)
  rintro _ wc1 ⟨rfl, hBc1⟩
  replace hS := hS.grow hBc1
  refine l_pure rfl (s_asg  rfl ?_)
  refine l_nil ?_
  repeat (with_reducible first | refine c_seq ?_ | refine c_block ?_ | refine c_skip ?_ | refine x_then ?_ | refine x_block ?_)
  refine c_reg ?_
  refine l_pure rfl (s_move  rfl ?_)
  refine l_pure rfl (s_neq  rfl rfl ?_)
  refine l_nil ?_
  repeat (with_reducible first | refine c_seq ?_ | refine c_block ?_ | refine c_skip ?_ | refine x_then ?_ | refine x_block ?_)
  by_cases he : sqE A ≠ 0
  · have e1 : slE A B = sqE A := if_pos he
    refine c_yes rfl (decide_eq_true (by omega)) ?_
    repeat (with_reducible first | refine c_seq ?_ | refine c_block ?_ | refine c_skip ?_ | refine x_then ?_ | refine x_block ?_)
    refine c_reg ?_
    refine l_pure rfl (s_move  rfl ?_)
    refine l_pure rfl (s_asg  rfl ?_)
    refine l_pure rfl (s_asg  rfl ?_)
    refine l_nil ?_
    repeat (with_reducible first | refine c_seq ?_ | refine c_block ?_ | refine c_skip ?_ | refine x_then ?_ | refine x_block ?_)
    refine c_ret ?_
    repeat (with_reducible first | refine x_then_ret ?_ | refine x_block_ret ?_)
    refine r_two rfl rfl rfl ?_
    refine ⟨⟨_, by rw [e1]; rfl, ?_⟩, hS.below⟩
    rw [hno (by rw [e1]; exact he)]; exact Sl.nil _ _ _
  replace he := Decidable.not_not.1 he
  obtain ⟨hs0, hsq⟩ := sqE_zero he
  obtain ⟨h1, h2, h3, h4, h5⟩ := shpE_zero hs0
  refine c_no rfl (decide_eq_false (by omega)) ?_
  repeat (with_reducible first | refine c_seq ?_ | refine c_block ?_ | refine c_skip ?_ | refine x_then ?_ | refine x_block ?_)
  refine c_reg ?_
  refine l_pure rfl (s_move  rfl ?_)
  refine l_pure rfl (s_lenr  rfl (hA.sl.below hS.below) ⟨_, Tryz.underlying22⟩ ?_)
  refine l_pure rfl (s_asg  rfl ?_)
  refine l_nil ?_
  repeat (with_reducible first | refine c_seq ?_ | refine c_block ?_ | refine c_skip ?_ | refine x_then ?_ | refine x_block ?_)
  refine c_reg ?_
  refine l_pure rfl (s_move  rfl ?_)
  refine l_pure rfl (s_lenr  rfl (hBv.below hS.below) ⟨_, Tryz.underlying23⟩ ?_)
  refine l_pure rfl (s_move  rfl ?_)
  refine l_pure rfl (s_neq  rfl rfl ?_)
  refine l_nil ?_
  repeat (with_reducible first | refine c_seq ?_ | refine c_block ?_ | refine c_skip ?_ | refine x_then ?_ | refine x_block ?_)
  by_cases hx : B.length ≠ A.length
  · have e1 : slE A B = 4 := by unfold slE; rw [if_neg (by omega), if_pos hx]
    refine c_yes rfl (decide_eq_true (by omega)) ?_
    repeat (with_reducible first | refine c_seq ?_ | refine c_block ?_ | refine c_skip ?_ | refine x_then ?_ | refine x_block ?_)
    refine c_reg ?_
    refine l_pure rfl (s_asg  rfl ?_)
    refine l_pure rfl (s_asg  rfl ?_)
    refine l_nil ?_
    repeat (with_reducible first | refine c_seq ?_ | refine c_block ?_ | refine c_skip ?_ | refine x_then ?_ | refine x_block ?_)
    refine c_ret ?_
    repeat (with_reducible first | refine x_then_ret ?_ | refine x_block_ret ?_)
    refine r_two rfl rfl rfl ?_
    refine ⟨⟨_, by rw [e1]; rfl, ?_⟩, hS.below⟩
    rw [hno (by rw [e1]; decide)]; exact Sl.nil _ _ _
  replace hx := Decidable.not_not.1 hx
  refine c_no rfl (decide_eq_false (by omega)) ?_
  repeat (with_reducible first | refine c_seq ?_ | refine c_block ?_ | refine c_skip ?_ | refine x_then ?_ | refine x_block ?_)
  rw [hlen]
  have e1 : slE A B = if (slD A B).P.length = A.length then 0 else 5 := by unfold slE; rw [if_neg (by omega), if_neg (by omega)]
  obtain ⟨n, hn⟩ : ∃ n, n = A.length := ⟨_, rfl⟩
  rw [← hn] at h1 h2 h5 hx e1 hsq ⊢
  rw [← hsq] at h5
  have hAL : ∀ i, i < n → ∀ j, j < n + 1 → L (AUG A B i j) ≤ K := fun i hi => by
    rw [hn]; exact AUG_L hB hBB (by omega) (by omega) (by rw [h5 i hi, hn])
  have haug : ∀ i, AUG A B i = RM [tab n (qM (RM A) i) ++ [B.getD i zRR]] 0 := fun i => by rw [hn]; exact AUG_row A B i
  have hout : ∀ i j, n + 1 ≤ j → AUG A B i j = 0 := by rw [hn]; exact AUG_out A B
  have hslD : slD A B = rdc n (AUG A B) n := by rw [hn]; rfl
  have hslL : slE A B = 0 → slL A B = tab n fun i => ofQ ((rdc n (AUG A B) n).M i n) := fun h => by rw [hn]; exact if_pos h
  rw [hslD] at e1
  obtain ⟨q, hq⟩ : ∃ q, q = AUG A B := ⟨_, rfl⟩
  rw [← hq] at hAL haug hout e1 hslL
  repeat (with_reducible first | refine c_seq ?_ | refine c_block ?_ | refine c_skip ?_ | refine x_then ?_ | refine x_block ?_)
  refine c_reg ?_
  refine l_pure rfl (s_move  rfl ?_)
  refine l_heavy rfl (s_make (n := n)  rfl rfl si_61 (by omega) (by omega) (by omega) (by omega) hS ?_)
  intro bw wz2 hS hBz2
  refine l_pure rfl (s_asg  rfl ?_)
  refine l_nil ?_
  repeat (with_reducible first | refine c_seq ?_ | refine c_block ?_ | refine c_skip ?_ | refine x_then ?_ | refine x_block ?_)
  replace hS : St w _ [(bw, 63, rep n [nilS])] := hS
  rw [rep_nil] at hS
  repeat (with_reducible first | refine c_seq ?_ | refine c_block ?_ | refine c_skip ?_ | refine x_then ?_ | refine x_block ?_)
  refine c_forget (fun ρ' => ρ' 0 = v ∧ ρ' 1 = vb_ ∧ ρ' 7 = .int .i64 n ∧ ρ' 8 = .slice (some ⟨bw, 0, none⟩) n n ∧ True) ⟨rfl, rfl, rfl, rfl, trivial⟩ ?_
  rintro ρk3 ⟨hk3_0, hk3_1, hk3_7, hk3_8, -⟩
  repeat (with_reducible first | refine c_seq ?_ | refine c_block ?_ | refine c_skip ?_ | refine x_then ?_ | refine x_block ?_)
  refine c_reg ?_
  refine l_pure rfl (s_move  hk3_0 ?_)
  refine l_heavy rfl (s_call Tryz.call31 rfl (lclean_ok v A vs n K _ (hA.below hS.below) (by omega) (by omega) h1 (by omega) (by rw [← hn]; exact h5) hB (by omega)) ?_)
  rintro r w2 ⟨⟨bc, RC, rfl, hRC, hFC, hS2⟩, hB2⟩
  rw [← hn] at hRC ⊢
  replace hS := hS.join hS2
  clear hS2
  rw [mB_app] at hS
  refine l_pure rfl (s_leno  rfl ⟨_, Tryz.underlying22⟩ ?_)
  refine l_pure rfl (s_move  rfl ?_)
  refine l_nil ?_
  repeat (with_reducible first | refine c_seq ?_ | refine c_skip ?_ | refine x_then ?_ | refine x_block ?_)
  replace hS : St w _ ((bc, 23, RC.map Rw.v) :: (bw, 63, ([] : List (Rw ZZ)).map Rw.v ++ List.replicate (n - 0) nilS) :: (([] : List (Rw ZZ)).map (Rw.blk encZ 68) ++ (RC.drop 0).map (Rw.blk encR 49))) := hS.perm (List.Perm.cons _ (List.perm_append_singleton _ _))
  refine c_cut1 (fun ρ w' => ρ 7 = .int .i64 n ∧ ρ 8 = .slice (some ⟨bw, 0, none⟩) n n ∧ ∃ RW, MatG RW n (n + 1) (BmZ q (n + 1)) ∧ St w w' (mB encZ 68 63 bw RW [])) ?_ ?_
  · repeat (with_reducible first | refine c_seq ?_ | refine c_block ?_ | refine c_skip ?_ | refine x_then ?_ | refine x_block ?_)
    refine c_loop (σ := Nat) (fun i ρ w' => i ≤ n ∧ ρ 1 = vb_ ∧ ρ 7 = .int .i64 n ∧ ρ 8 = .slice (some ⟨bw, 0, none⟩) n n ∧ ρ 31 = .slice (some ⟨bc, 0, none⟩) n n ∧ ρ 32 = .int .i64 n ∧ ρ 33 = .int .i64 i ∧
      ∃ RW, MatG RW i (n + 1) (BmZ q (n + 1)) ∧ St w w' ((bc, 23, RC.map Rw.v) :: (bw, 63, RW.map Rw.v ++ List.replicate (n - i) nilS) :: (RW.map (Rw.blk encZ 68) ++ (RC.drop i).map (Rw.blk encR 49)))) (fun i => n - i) 0
      ⟨Nat.zero_le _, by assumption, by assumption, by assumption, rfl, rfl, rfl, [], ⟨rfl, fun i hi => absurd hi (Nat.not_lt_zero _), fun i hi => absurd hi (Nat.not_lt_zero _)⟩, hS⟩ ?_
    clear hS
    rintro i ρ w3 ⟨hi, h1', h7, h8, h31, h32, h33, RW, hRW, hS⟩
    repeat (with_reducible first | refine c_seq ?_ | refine c_block ?_ | refine c_skip ?_ | refine x_then ?_ | refine x_block ?_)
    refine c_reg ?_
    refine l_pure rfl (s_lss  h33 h32 ?_)
    refine l_nil ?_
    repeat (with_reducible first | refine c_seq ?_ | refine c_block ?_ | refine c_skip ?_ | refine x_then ?_ | refine x_block ?_)
    by_cases hlt : i < n
    · refine c_yes rfl (decide_eq_true (by omega)) ?_
      repeat (with_reducible first | refine c_seq ?_ | refine c_block ?_ | refine c_skip ?_ | refine x_then ?_ | refine x_block ?_)
      have hlc : i < RC.length := by rw [hRC.len]; exact hlt
      obtain ⟨d, hd⟩ : ∃ d, n - i = d + 1 := ⟨n - i - 1, by omega⟩
      have hdrop : RC.drop i = RC.getD i zRw :: RC.drop (i + 1) := by rw [getD_ge RC zRw hlc]; exact List.drop_eq_getElem_cons hlc
      have hG := MatG_gl hRC hFC hlt 49
      have htl := tab_len n (qM (RM A) i)
      have hLb := hBB _ (getD_mem B i zRR (by omega))
      rw [hdrop, List.map_cons, hd, List.replicate_succ] at hS
      replace hS := hS.perm (perm_out _ _ _ _ _)
      repeat (with_reducible first | refine c_seq ?_ | refine c_block ?_ | refine c_skip ?_ | refine x_then ?_ | refine x_block ?_)
      refine c_reg ?_
      refine l_pure rfl (s_move  h33 ?_)
      refine l_pure rfl (s_ixo (i := i)  h31 h33 (by omega) (by first | omega | (simp; done) | (simp; omega)) si_22 ?_)
      refine l_read rfl (s_ldc (k := 0)  rfl vi_23 hS rfl (by rw [Nat.zero_add, Nat.mul_one]; exact mB_row hlc) ?_)
      refine l_pure rfl (s_asg  rfl ?_)
      refine l_pure rfl (s_asg  rfl ?_)
      refine l_nil ?_
      repeat (with_reducible first | refine c_seq ?_ | refine c_block ?_ | refine c_skip ?_ | refine x_then ?_ | refine x_block ?_)
      refine c_reg ?_
      refine l_pure rfl (s_move  h8 ?_)
      refine l_pure rfl (s_move  rfl ?_)
      refine l_pure rfl (s_move  rfl ?_)
      refine l_pure rfl (s_move  h1' ?_)
      refine l_pure rfl (s_move  rfl ?_)
      refine l_pure rfl (s_ixr (i := i)  rfl rfl (hBv.below hS.below) (by omega) (by first | omega | (simp; done) | (simp; omega)) si_23 ?_)
      refine l_read rfl (s_lde (i := i) zRR  rfl vi_49 (hBv.below hS.below) (by first | omega | (simp; done) | (simp; omega)) rfl rfl (.inl rfl) ?_)
      refine l_heavy rfl (s_bsl (vs := [aggR (B.getD i zRR)])  rfl si_23 rfl (by decide) (by decide) (by decide) (by simp [Value.cells, aggR]) rfl hS ?_)
      intro b45 wz4 hS hBz4
      refine l_heavy rfl (s_appl [B.getD i zRR]  rfl rfl si_23 (by decide) hG hS rfl rfl encR_len (encR_one [B.getD i zRR]) (by first | omega | (simp only [List.length_cons, List.length_nil]; omega)) (by first | omega | (simp only [List.length_cons, List.length_nil]; omega)) ?_)
      intro va5 La5 wa5 hG hS hga5
      obtain ⟨aq, cq, rfl⟩ := hG.len
      refine l_heavy rfl (s_bsl (vs := [.slice aq (tab n (qM (RM A) i) ++ [B.getD i zRR]).length cq])  rfl si_22 rfl (by decide) (by decide) (by decide) (by simp [Value.cells]) rfl hS ?_)
      intro b47 wz6 hS hBz6
      have hX := hS.drop ((List.sublist_append_left ((bc, 23, RC.map Rw.v) :: (bw, 63, RW.map Rw.v ++ nilS :: List.replicate d nilS) :: (RW.map (Rw.blk encZ 68) ++ (RC.drop (i + 1)).map (Rw.blk encR 49))) _).trans (List.sublist_cons_self _ _))
      have hsl1 := hS.sle (k := 0) (enc := enV) (L := [.slice aq (tab n (qM (RM A) i) ++ [B.getD i zRR]).length cq]) (n := 1) (cap := 1) rfl (fun _ => rfl) (Nat.le_refl _) (Nat.le_refl _) (by omega)
      have hslr := hG.sl (H := (b47, 23, [Value.slice aq (tab n (qM (RM A) i) ++ [B.getD i zRR]).length cq]) :: (bc, 23, RC.map Rw.v) :: (bw, 63, RW.map Rw.v ++ nilS :: List.replicate d nilS) :: (RW.map (Rw.blk encZ 68) ++ (RC.drop (i + 1)).map (Rw.blk encR 49))) hS encR_len
      have hx1 : (tab n (qM (RM A) i) ++ [B.getD i zRR]).length = n + 1 := by rw [List.length_append, htl]; rfl
      have hmts : Mts encR 3 _ (.slice (some ⟨b47, 0, none⟩) 1 1) [tab n (qM (RM A) i) ++ [B.getD i zRR]] [.slice aq (tab n (qM (RM A) i) ++ [B.getD i zRR]).length cq] := ⟨rfl, hsl1, fun a ha => by
        obtain rfl : a = 0 := Nat.lt_one_iff.1 ha
        exact hslr⟩
      have hBM : RBM K [tab n (qM (RM A) i) ++ [B.getD i zRR]] := fun a ha r hr => by
        rw [List.mem_singleton.1 ha] at hr
        rcases List.mem_append.1 hr with g | g
        · obtain ⟨j, hj, rfl⟩ := tab_mem g
          rw [Lr_ofQ]
          exact RM_L hB (by omega) (by rw [h5 i hlt]; exact hj)
        · rw [List.mem_singleton.1 g]; exact hLb
      refine l_heavy rfl (s_call Tryz.call31 rfl (lclean_ok _ [tab n (qM (RM A) i) ++ [B.getD i zRR]] _ (n + 1) K _ hmts (Nat.le_refl _) (Nat.le_of_ble_eq_true rfl) (by omega) (by omega) (fun a ha => by obtain rfl : a = 0 := Nat.lt_one_iff.1 ha; exact hx1) hBM (by omega)) ?_)
      rintro r w4 ⟨⟨b1, R1, rfl, hR1, -, hT⟩, hB4⟩
      replace hX := hX.grow hB4
      have hl1 : 0 < R1.length := by rw [hR1.len]; exact Nat.one_pos
      have hrow1 := hR1.sl hT encR_len (i := 0) Nat.one_pos
      rw [show qM (RM [tab n (qM (RM A) i) ++ [B.getD i zRR]]) 0 = fun j => ofQ (q i j) by rw [haug i]] at hrow1
      refine l_pure rfl (s_ixo (i := 0)  rfl rfl (by omega) (by first | omega | (simp; done) | (simp; omega)) si_22 ?_)
      refine l_read rfl (s_mrowP []  rfl vi_23 hT (by omega) hl1 ?_)
      refine l_heavy rfl (s_call Tryz.call32 rfl (lintegers_ok _ (q i) (n + 1) K _ hrow1 (by omega) (hAL i hlt) (by omega)) ?_)
      rintro r w5 ⟨⟨bz, rfl, hZ⟩, -⟩
      have hlenR : (RW.map Rw.v).length = i := by rw [List.length_map, hRW.len]
      have hfit : i < (RW.map Rw.v ++ nilS :: List.replicate d nilS).length := by rw [List.length_append, hlenR, List.length_cons]; omega
      clear hS
      have hS := hX.join hZ
      clear hX hZ
      refine l_pure rfl (s_ixo (i := i)  rfl rfl (by omega) (by first | omega | (simp; done) | (simp; omega)) si_61 ?_)
      refine l_heavy rfl (s_stc (k := 2)  rfl rfl vi_63 hS rfl (by rw [Nat.zero_add, Nat.mul_one]; exact hfit) rfl ?_)
      intro wz7 hS
      refine l_nil ?_
      repeat (with_reducible first | refine c_seq ?_ | refine c_block ?_ | refine c_skip ?_ | refine x_then ?_ | refine x_block ?_)
      replace hS : St w _ ((bz, 68, (tab (n + 1) (itZ (q i) (n + 1))).flatMap encZ) :: (bc, 23, RC.map Rw.v) :: (bw, 63, (RW.map Rw.v ++ nilS :: List.replicate d nilS).set (0 + i * 1) (.slice (some ⟨bz, 0, none⟩) (n + 1) (n + 1))) :: (RW.map (Rw.blk encZ 68) ++ (RC.drop (i + 1)).map (Rw.blk encR 49))) := hS
      rw [Nat.zero_add, Nat.mul_one, mid_set _ _ _ _ hlenR] at hS
      replace hS := hS.perm (perm_in _ _ _ _ _)
      obtain ⟨nr, hnr⟩ : ∃ nr : Rw ZZ, nr = ⟨bz, n + 1, tab (n + 1) (itZ (q i) (n + 1)), []⟩ := ⟨_, rfl⟩
      have hnX : nr.X = tab (n + 1) (BmZ q (n + 1) i) := by rw [hnr]; rfl
      have hnc : nr.cap = n + 1 := by rw [hnr]
      have hvz : nr.v = .slice (some ⟨bz, 0, none⟩) (n + 1) (n + 1) := by
        rw [hnr]
        show Value.slice _ (tab (n + 1) (itZ (q i) (n + 1))).length _ = _
        rw [tab_len]
      have hbz : nr.blk encZ 68 = (bz, 68, (tab (n + 1) (itZ (q i) (n + 1))).flatMap encZ) := by
        rw [hnr]
        show (bz, 68, (tab (n + 1) (itZ (q i) (n + 1))).flatMap encZ ++ []) = _
        rw [List.append_nil]
      rw [← hbz, ← hvz] at hS
      repeat (with_reducible first | refine c_seq ?_ | refine c_block ?_ | refine c_skip ?_ | refine x_then ?_ | refine x_block ?_)
      refine c_reg ?_
      refine l_pure rfl (s_add  h33 rfl (IntWalk.i64_in _ (by omega)) ?_)
      refine l_pure rfl (s_move  rfl ?_)
      refine l_nil ?_
      repeat (with_reducible first | refine c_seq ?_ | refine c_block ?_ | refine c_skip ?_ | refine x_then ?_ | refine x_block ?_)
      refine ⟨i + 1, _, rfl, ⟨hlt, by assumption, by assumption, by assumption, by assumption, by assumption, vi rfl (by omega), RW ++ [nr], MatG_snoc hRW hnX ⟨by omega, by omega⟩, ?_⟩, by omega⟩
      rw [List.map_append, List.map_append, show n - (i + 1) = d by omega, List.append_assoc]
      exact hS
    · refine c_no rfl (decide_eq_false (by omega)) ?_
      repeat (with_reducible first | refine c_seq ?_ | refine c_block ?_ | refine c_skip ?_ | refine x_then ?_ | refine x_block ?_)
      refine c_exit ?_
      repeat (with_reducible first | refine x_then_exit ?_ | refine x_block_exit ?_ | refine x_block_pass rfl ?_)
      repeat (with_reducible first | refine c_seq ?_ | refine c_block ?_ | refine c_skip ?_ | refine x_then ?_ | refine x_block ?_)
      obtain rfl : n = i := by omega
      rw [Nat.sub_self, List.replicate_zero, List.append_nil, List.drop_of_length_le (by rw [hRC.len]; exact Nat.le_refl _), List.map_nil] at hS
      exact ⟨_, rfl, h7, h8, RW, hRW, hS.drop (List.sublist_cons_self _ _)⟩
  clear hS
  rintro ρ w3 ⟨h7, h8, RW, hRW, hS⟩
  obtain ⟨S0, hS0⟩ : ∃ S0, S0 = 1001 * K + 1 := ⟨_, rfl⟩
  have hSS : ∀ k, k ≤ n → SS S0 k + 1 ≤ 65536 * (S0 + 1) := fun k hk => SS_16 (by omega)
  have hsz0 : ∀ i, i < n → ∀ j, j < n + 1 → zSz (BmZ q (n + 1) i j) ≤ S0 := by
    intro i hi j hj
    have g1 := itZ_size (hAL i hi) hj
    have g2 := cSz_le (hAL i hi) (n + 1) (Nat.le_refl _)
    have g3 : (n + 1) * K ≤ 1000 * K := Nat.mul_le_mul_right _ (by omega)
    show zSz (itZ (q i) (n + 1) j) ≤ S0
    omega
  obtain ⟨Bm, hBm⟩ : ∃ Bm, Bm = BmR q (n + 1) := ⟨_, rfl⟩
  have hWh : WholeMx Bm := by rw [hBm]; exact BmR_whole _ _
  have hfi := fun k => full_iff (n := n) hout k
  have hfs := full_same (n := n) hout
  rw [← hBm] at hfi hfs
  have hrep0 : RepZ n (n + 1) Bm 0 fun i j => zv (BmZ q (n + 1) i j) := by
    intro i hi j hj
    rw [hBm]
    show _ = 1 * BmR q (n + 1) i j
    unfold BmR
    rw [if_pos hj, Rat.one_mul]
  repeat (with_reducible first | refine c_seq ?_ | refine c_block ?_ | refine c_skip ?_ | refine x_then ?_ | refine x_block ?_)
  refine c_reg ?_
  refine l_heavy rfl (s_call Tryz.call33 rfl (FromUint_ok 1 _ (by decide)) ?_)
  rintro _ wc8 ⟨rfl, hBc8⟩
  replace hS := hS.grow hBc8
  refine l_pure rfl (s_build  rfl (built_Z _ _) ?_)
  refine l_heavy rfl (s_alloc  vi_68 hS ?_)
  intro b11 wz9 hS hBz9
  refine l_heavy rfl (s_sta (k := 0)  rfl rfl vi_68 hS rfl rfl rfl (Nat.le_of_ble_eq_true rfl) rfl ?_)
  intro wz10 hS
  refine l_nil ?_
  repeat (with_reducible first | refine c_seq ?_ | refine c_block ?_ | refine c_skip ?_ | refine x_then ?_ | refine x_block ?_)
  replace hS : St w _ ([(b11, 68, encZ ⟨false, 1⟩)] ++ mB encZ 68 63 bw RW []) := hS
  repeat (with_reducible first | refine c_seq ?_ | refine c_block ?_ | refine c_skip ?_ | refine x_then ?_ | refine x_block ?_)
  refine c_reg ?_
  refine l_pure rfl (s_move  h7 ?_)
  refine l_pure rfl (s_move  rfl ?_)
  refine l_nil ?_
  repeat (with_reducible first | refine c_seq ?_ | refine c_skip ?_ | refine x_then ?_ | refine x_block ?_)
  refine c_cut1 (fun ρ w' => (rdc n Bm n).P.length = n ∧ ρ 7 = .int .i64 n ∧ ρ 8 = .slice (some ⟨bw, 0, none⟩) n n ∧ ∃ RW f, MatG RW n (n + 1) f ∧ RepZ n (n + 1) Bm n (fun i j => zv (f i j)) ∧ (∀ i, i < n → ∀ j, j < n + 1 → zSz (f i j) ≤ SS S0 n) ∧ St w w' (mB encZ 68 63 bw RW [])) ?_ ?_
  · repeat (with_reducible first | refine c_seq ?_ | refine c_block ?_ | refine c_skip ?_ | refine x_then ?_ | refine x_block ?_)
    refine c_loop (σ := Nat) (fun k ρ w' => k ≤ n ∧ (rdc n Bm k).P.length = k ∧ ρ 7 = .int .i64 n ∧ ρ 8 = .slice (some ⟨bw, 0, none⟩) n n ∧ ρ 11 = .pointer (some ⟨b11, 0, none⟩) ∧ ρ 56 = .int .i64 n ∧ ρ 57 = .int .i64 k ∧ ∃ RW f last, MatG RW n (n + 1) f ∧ RepZ n (n + 1) Bm k (fun i j => zv (f i j)) ∧ (∀ i, i < n → ∀ j, j < n + 1 → zSz (f i j) ≤ SS S0 k) ∧ ((zv last : Int) : Rat) = dd n Bm k ∧ zSz last ≤ SS S0 k ∧
      St w w' ([(b11, 68, encZ last)] ++ mB encZ 68 63 bw RW [])) (fun k => n - k) 0
      ⟨Nat.zero_le _, rfl, by assumption, by assumption, rfl, rfl, rfl, RW, _, ⟨false, 1⟩, hRW, hrep0, hsz0, rfl, (by show (natS 1).size ≤ S0; rw [natS_one_size]; omega), hS⟩ ?_
    clear hS hRW hrep0 hsz0
    rintro k ρ w4 ⟨hk, hkP, h7, h8, h11, h56, h57, RW, f, last, hRW, hrep, hsz, hlv, hlz, hS⟩
    have hSk := hSS k hk
    repeat (with_reducible first | refine c_seq ?_ | refine c_block ?_ | refine c_skip ?_ | refine x_then ?_ | refine x_block ?_)
    refine c_reg ?_
    refine l_pure rfl (s_lss  h57 h56 ?_)
    refine l_nil ?_
    repeat (with_reducible first | refine c_seq ?_ | refine c_block ?_ | refine c_skip ?_ | refine x_then ?_ | refine x_block ?_)
    by_cases hkn : k < n
    · refine c_yes rfl (decide_eq_true (by omega)) ?_
      repeat (with_reducible first | refine c_seq ?_ | refine c_block ?_ | refine c_skip ?_ | refine x_then ?_ | refine x_block ?_)
      have hlk : k < RW.length := by rw [hRW.len]; exact hkn
      repeat (with_reducible first | refine c_seq ?_ | refine c_block ?_ | refine c_skip ?_ | refine x_then ?_ | refine x_block ?_)
      refine c_reg ?_
      refine l_pure rfl (s_move  h57 ?_)
      refine l_heavy rfl (s_alloc  vi_3 hS ?_)
      intro b12 wz11 hS hBz11
      refine l_heavy rfl (s_stc (k := 0)  rfl rfl vi_3 hS rfl (Nat.le_of_ble_eq_true rfl) rfl ?_)
      intro wz12 hS
      refine l_nil ?_
      repeat (with_reducible first | refine c_seq ?_ | refine c_block ?_ | refine c_skip ?_ | refine x_then ?_ | refine x_block ?_)
      have hmB := hS.drop (List.sublist_append_right [(b12, 3, [Value.int .i64 k]), (b11, 68, encZ last)] (mB encZ 68 63 bw RW []))
      have hO := hRW.outer hmB (Nat.le_refl n) (by omega)
      have hmap : (RW.map Rw.v).length = n := by rw [List.length_map, hRW.len]
      have hp : At _ ⟨b12, 0, none⟩ [.int .i64 k] := hS.at (k := 0) rfl 0 1
      have hO2 := hO.sub (fun _ => rfl) (by decide) (lo := k) (hi := (RW.map Rw.v).length) (by omega) (Nat.le_refl _)
      rw [List.take_of_length_le (by rw [List.length_drop]; exact Nat.le_refl _)] at hO2
      have hrows : ∀ i, i < n - k → Sl encZ 2 _ (((RW.map Rw.v).drop k).getD i undef) (tab (n + 1) (f (k + i))) := fun i hi => by
        have := hRW.sl hmB encZ_len (i := k + i) (by omega)
        have e : ((RW.map Rw.v).drop k).getD i undef = (RW.getD (k + i) zRw).v := by
          rw [List.getD_eq_getElem?_getD, List.getElem?_drop, mB_row (by rw [hRW.len]; omega)]; rfl
        rw [e]; exact this
      repeat (with_reducible first | refine c_seq ?_ | refine c_block ?_ | refine c_skip ?_ | refine x_then ?_ | refine x_block ?_)
      refine c_reg ?_
      refine l_pure rfl (s_move  h8 ?_)
      refine l_read rfl (s_ldo (k := 0)  rfl vi_3 hS rfl rfl rfl (.inr rfl) ?_)
      refine l_pure rfl (s_subrl  rfl rfl hO rfl (by omega) si_61 ?_)
      refine l_pure rfl (s_mkf1  rfl ?_)
      refine l_heavy rfl (s_call Tryz.call34 rfl (IndexZ_ok b12 k (n - k) (n + 1) _ _ (fun i j => f (k + i) j) _ hp hO2 (by rw [List.length_drop, hmap]) hrows (by omega)) ?_)
      rintro r w5 ⟨rfl, hB5⟩
      replace hS := hS.grow hB5
      have hpr := repMst hrep hkP (by omega : k < n + 1)
      obtain ⟨p, hpp⟩ : ∃ p, p = pv (rdc n Bm k).M k n k := ⟨_, rfl⟩
      have hps := pv_spec (rdc n Bm k).M k (n := n) (r := k) (by omega)
      rw [← hpp] at hps
      obtain ⟨hkp, _, _, _⟩ := hps
      have hfst : fstB (fun i => decide ((f (k + i) k).mag ≠ 0)) (n - k) 0 = if p < n then ((p - k : Nat) : Int) else -1 := by
        have hpf : pvF (rdc n Bm k).M k (n - k) k = p := hpp.symm
        have hcong : ∀ d i, i + d = n - k → fstB (fun i => decide ((f (k + i) k).mag ≠ 0)) d i = if pvF (rdc n Bm k).M k d (k + i) < k + i + d then ((pvF (rdc n Bm k).M k d (k + i) - k : Nat) : Int) else -1 := by
          intro d
          induction d with
          | zero =>
            intro i _
            show (-1 : Int) = if k + i < k + i + 0 then _ else -1
            rw [if_neg (by omega)]
          | succ d ih =>
            intro i hid
            have hi := hpr (k + i) (by omega)
            show (if decide ((f (k + i) k).mag ≠ 0) = true then (i : Int) else fstB _ d (i + 1)) = _
            unfold pvF
            by_cases e : (rdc n Bm k).M (k + i) k = 0
            · rw [if_neg (fun q => hi.1 (of_decide_eq_true q) e), if_pos e, ih (i + 1) (by omega)]
              rw [show k + (i + 1) = k + i + 1 by omega, show k + i + 1 + d = k + i + (d + 1) by omega]
            · rw [if_pos (decide_eq_true (hi.2 e)), if_neg e, if_pos (by omega), show k + i - k = i by omega]
        have := hcong (n - k) 0 (by omega)
        rw [Nat.add_zero, hpf, show k + (n - k) = n by omega] at this
        exact this
      rw [hfst]
      refine l_pure rfl (s_asg  rfl ?_)
      refine l_nil ?_
      repeat (with_reducible first | refine c_seq ?_ | refine c_block ?_ | refine c_skip ?_ | refine x_then ?_ | refine x_block ?_)
      refine c_reg ?_
      refine l_pure rfl (s_move  rfl ?_)
      refine l_pure rfl (s_lss  rfl rfl ?_)
      refine l_nil ?_
      repeat (with_reducible first | refine c_seq ?_ | refine c_block ?_ | refine c_skip ?_ | refine x_then ?_ | refine x_block ?_)
      by_cases hpn : ¬ p < n
      · rw [if_neg hpn]
        refine c_yes rfl (decide_eq_true (by decide)) ?_
        repeat (with_reducible first | refine c_seq ?_ | refine c_block ?_ | refine c_skip ?_ | refine x_then ?_ | refine x_block ?_)
        have hnf : (rdc n q n).P.length ≠ n := fun g => rdc_stuck hkn (by rw [← hpp]; exact hpn) ((hfi n).2 g)
        have e5 : slE A B = 5 := by rw [e1, if_neg hnf]
        repeat (with_reducible first | refine c_seq ?_ | refine c_block ?_ | refine c_skip ?_ | refine x_then ?_ | refine x_block ?_)
        refine c_reg ?_
        refine l_pure rfl (s_asg  rfl ?_)
        refine l_pure rfl (s_asg  rfl ?_)
        refine l_nil ?_
        repeat (with_reducible first | refine c_seq ?_ | refine c_block ?_ | refine c_skip ?_ | refine x_then ?_ | refine x_block ?_)
        refine c_ret ?_
        repeat (with_reducible first | refine x_then_ret ?_ | refine x_block_ret ?_)
        refine r_two rfl rfl rfl ?_
        refine ⟨⟨_, by rw [e5]; rfl, ?_⟩, hS.below⟩
        rw [hno (by rw [e5]; decide)]; exact Sl.nil _ _ _
      replace hpn := Decidable.not_not.1 hpn
      rw [if_pos hpn]
      refine c_no rfl (decide_eq_false (by omega)) ?_
      repeat (with_reducible first | refine c_seq ?_ | refine c_block ?_ | refine c_skip ?_ | refine x_then ?_ | refine x_block ?_)
      have hlp : p < RW.length := by rw [hRW.len]; exact hpn
      replace hS : St w _ ([(b12, 3, [Value.int .i64 k]), (b11, 68, encZ last)] ++ mB encZ 68 63 bw RW []) := hS
      refine c_cut1 (fun ρ w' => ρ 7 = .int .i64 n ∧ ρ 8 = .slice (some ⟨bw, 0, none⟩) n n ∧ ρ 11 = .pointer (some ⟨b11, 0, none⟩) ∧ ρ 12 = .pointer (some ⟨b12, 0, none⟩) ∧ ρ 56 = .int .i64 n ∧ ρ 57 = .int .i64 k ∧ St w w' ([(b12, 3, [Value.int .i64 k]), (b11, 68, encZ last)] ++ mB encZ 68 63 bw (swpL RW k p) [])) ?_ ?_
      · repeat (with_reducible first | refine c_seq ?_ | refine c_block ?_ | refine c_skip ?_ | refine x_then ?_ | refine x_block ?_)
        refine c_all 20 [(0, .pure), (1, .read), (2, .pure), (3, .grow), (4, .pure), (5, .pure), (6, .pure), (7, .read), (8, .pure), (9, .pure), (10, .pure), (11, .read), (12, .pure), (13, .read), (14, .pure), (15, .read), (16, .pure), (17, .free), (18, .pure), (19, .free)] (by kernel_rfl) (by kernel_rfl) hS ?_
        intro wz13 hS hBz13
        refine z_pure (i := 0) (U' := [(1, .read), (2, .pure), (3, .grow), (4, .pure), (5, .pure), (6, .pure), (7, .read), (8, .pure), (9, .pure), (10, .pure), (11, .read), (12, .pure), (13, .read), (14, .pure), (15, .read), (16, .pure), (17, .free), (18, .pure), (19, .free)]) (by kernel_rfl) (by kernel_rfl) rfl rfl (s_move  h8 ?_)
        refine z_read (i := 1) (U' := [(2, .pure), (3, .grow), (4, .pure), (5, .pure), (6, .pure), (7, .read), (8, .pure), (9, .pure), (10, .pure), (11, .read), (12, .pure), (13, .read), (14, .pure), (15, .read), (16, .pure), (17, .free), (18, .pure), (19, .free)]) (by kernel_rfl) (by kernel_rfl) rfl rfl (s_ldo (k := 0)  rfl vi_3 hS rfl rfl rfl (.inr rfl) ?_)
        refine z_pure (i := 2) (U' := [(3, .grow), (4, .pure), (5, .pure), (6, .pure), (7, .read), (8, .pure), (9, .pure), (10, .pure), (11, .read), (12, .pure), (13, .read), (14, .pure), (15, .read), (16, .pure), (17, .free), (18, .pure), (19, .free)]) (by kernel_rfl) (by kernel_rfl) rfl rfl (s_move  h8 ?_)
        refine z_pure (i := 4) (U' := [(3, .grow), (5, .pure), (6, .pure), (7, .read), (8, .pure), (9, .pure), (10, .pure), (11, .read), (12, .pure), (13, .read), (14, .pure), (15, .read), (16, .pure), (17, .free), (18, .pure), (19, .free)]) (by kernel_rfl) (by kernel_rfl) rfl rfl (s_move  rfl ?_)
        refine z_pure (i := 6) (U' := [(3, .grow), (5, .pure), (7, .read), (8, .pure), (9, .pure), (10, .pure), (11, .read), (12, .pure), (13, .read), (14, .pure), (15, .read), (16, .pure), (17, .free), (18, .pure), (19, .free)]) (by kernel_rfl) (by kernel_rfl) rfl rfl (s_move  h8 ?_)
        refine z_read (i := 7) (U' := [(3, .grow), (5, .pure), (8, .pure), (9, .pure), (10, .pure), (11, .read), (12, .pure), (13, .read), (14, .pure), (15, .read), (16, .pure), (17, .free), (18, .pure), (19, .free)]) (by kernel_rfl) (by kernel_rfl) rfl rfl (s_ldo (k := 0)  rfl vi_3 hS rfl rfl rfl (.inr rfl) ?_)
        refine z_pure (i := 8) (U' := [(3, .grow), (5, .pure), (9, .pure), (10, .pure), (11, .read), (12, .pure), (13, .read), (14, .pure), (15, .read), (16, .pure), (17, .free), (18, .pure), (19, .free)]) (by kernel_rfl) (by kernel_rfl) rfl rfl (s_move  rfl ?_)
        refine z_pure (i := 9) (U' := [(3, .grow), (5, .pure), (10, .pure), (11, .read), (12, .pure), (13, .read), (14, .pure), (15, .read), (16, .pure), (17, .free), (18, .pure), (19, .free)]) (by kernel_rfl) (by kernel_rfl) rfl rfl (s_add  rfl rfl (IntWalk.i64_in _ (by omega)) ?_)
        refine z_pure (i := 10) (U' := [(3, .grow), (5, .pure), (11, .read), (12, .pure), (13, .read), (14, .pure), (15, .read), (16, .pure), (17, .free), (18, .pure), (19, .free)]) (by kernel_rfl) (by kernel_rfl) rfl rfl (s_ixo (i := p)  rfl rfl (by omega) (by first | omega | (simp; done) | (simp; omega)) si_61 ?_)
        refine z_read (i := 11) (U' := [(3, .grow), (5, .pure), (12, .pure), (13, .read), (14, .pure), (15, .read), (16, .pure), (17, .free), (18, .pure), (19, .free)]) (by kernel_rfl) (by kernel_rfl) rfl rfl (s_mrowP [_, _]  rfl vi_63 hS (by omega) hlp ?_)
        refine z_pure (i := 12) (U' := [(3, .grow), (5, .pure), (13, .read), (14, .pure), (15, .read), (16, .pure), (17, .free), (18, .pure), (19, .free)]) (by kernel_rfl) (by kernel_rfl) rfl rfl (s_move  h8 ?_)
        refine z_read (i := 13) (U' := [(3, .grow), (5, .pure), (14, .pure), (15, .read), (16, .pure), (17, .free), (18, .pure), (19, .free)]) (by kernel_rfl) (by kernel_rfl) rfl rfl (s_ldo (k := 0)  rfl vi_3 hS rfl rfl rfl (.inr rfl) ?_)
        refine z_pure (i := 14) (U' := [(3, .grow), (5, .pure), (15, .read), (16, .pure), (17, .free), (18, .pure), (19, .free)]) (by kernel_rfl) (by kernel_rfl) rfl rfl (s_ixo (i := k)  rfl rfl (by omega) (by first | omega | (simp; done) | (simp; omega)) si_61 ?_)
        refine z_read (i := 15) (U' := [(3, .grow), (5, .pure), (16, .pure), (17, .free), (18, .pure), (19, .free)]) (by kernel_rfl) (by kernel_rfl) rfl rfl (s_mrowP [_, _]  rfl vi_63 hS (by omega) hlk ?_)
        refine z_pure (i := 16) (U' := [(3, .grow), (5, .pure), (17, .free), (18, .pure), (19, .free)]) (by kernel_rfl) (by kernel_rfl) rfl rfl (s_ixo (i := k)  rfl rfl (by omega) (by first | omega | (simp; done) | (simp; omega)) si_61 ?_)
        refine z_two (x := (3, .grow)) (y := (17, .free)) (U' := [(5, .pure), (17, .free), (18, .pure), (19, .free)]) (U'' := [(3, .grow), (5, .pure), (18, .pure), (19, .free)]) (by kernel_rfl) (by kernel_rfl) (by kernel_rfl) ?_ ?_
        · refine z_grow rfl rfl (hup_read (s_ldo (k := 0)  rfl vi_3 hS rfl rfl rfl (.inr rfl) ?_))
          refine ⟨Below.refl _ _, ?_⟩
          refine z_pure (i := 5) (U' := [(17, .free), (18, .pure), (19, .free)]) (by kernel_rfl) (by kernel_rfl) rfl rfl (s_add  rfl rfl (IntWalk.i64_in _ (by omega)) ?_)
          refine z_one (x := (17, .free)) (U' := [(18, .pure), (19, .free)]) (by kernel_rfl) (by kernel_rfl) ?_
          refine z_free rfl rfl (s_mrowstP [_, _] (i := k)  rfl rfl vi_63 hS (by omega) (by rw [List.length_map]; exact hlk) (Rw_one _) ?_)
          intro wz14 hS
          refine z_pure (i := 18) (U' := [(19, .free)]) (by kernel_rfl) (by kernel_rfl) rfl rfl (s_ixo (i := p)  rfl rfl (by omega) (by first | omega | (simp; done) | (simp; omega)) si_61 ?_)
          refine z_one (x := (19, .free)) (U' := []) (by kernel_rfl) (by kernel_rfl) ?_
          refine z_free rfl rfl (s_mrowstP [_, _] (i := p)  rfl rfl vi_63 hS (by omega) (by rw [List.length_set, List.length_map]; exact hlp) (Rw_one _) ?_)
          intro wz15 hS
          refine z_end ?_
          repeat (with_reducible first | refine c_seq ?_ | refine c_block ?_ | refine c_skip ?_ | refine x_then ?_ | refine x_block ?_)
          exact ⟨_, rfl, by assumption, by assumption, by assumption, rfl, by assumption, by assumption, mB_swpP [_, _] hlk hlp hS⟩
        · refine z_free rfl rfl (s_mrowstP [_, _] (i := k)  rfl rfl vi_63 hS (by omega) (by rw [List.length_map]; exact hlk) (Rw_one _) ?_)
          intro wz16 hS
          refine z_one (x := (3, .grow)) (U' := [(5, .pure), (18, .pure), (19, .free)]) (by kernel_rfl) (by kernel_rfl) ?_
          refine z_grow rfl rfl (hup_read (s_ldo (k := 0)  rfl vi_3 hS rfl rfl rfl (.inr rfl) ?_))
          refine ⟨Below.refl _ _, ?_⟩
          refine z_pure (i := 5) (U' := [(18, .pure), (19, .free)]) (by kernel_rfl) (by kernel_rfl) rfl rfl (s_add  rfl rfl (IntWalk.i64_in _ (by omega)) ?_)
          refine z_pure (i := 18) (U' := [(19, .free)]) (by kernel_rfl) (by kernel_rfl) rfl rfl (s_ixo (i := p)  rfl rfl (by omega) (by first | omega | (simp; done) | (simp; omega)) si_61 ?_)
          refine z_one (x := (19, .free)) (U' := []) (by kernel_rfl) (by kernel_rfl) ?_
          refine z_free rfl rfl (s_mrowstP [_, _] (i := p)  rfl rfl vi_63 hS (by omega) (by rw [List.length_set, List.length_map]; exact hlp) (Rw_one _) ?_)
          intro wz17 hS
          refine z_end ?_
          repeat (with_reducible first | refine c_seq ?_ | refine c_block ?_ | refine c_skip ?_ | refine x_then ?_ | refine x_block ?_)
          exact ⟨_, rfl, by assumption, by assumption, by assumption, rfl, by assumption, by assumption, mB_swpP [_, _] hlk hlp hS⟩
      clear hS
      rintro ρ wsw ⟨h7, h8, h11, h12, h56, h57, hS⟩
      repeat (with_reducible first | refine c_seq ?_ | refine c_block ?_ | refine c_skip ?_ | refine x_then ?_ | refine x_block ?_)
      have hR2 : MatG (swpL RW k p) n (n + 1) (swpG f k p) := hRW.swp hkn hpn
      have hsz2 := swpG_size hkn hpn hsz
      have hl0 : last.mag ≠ 0 := fun g => dd_ne k hkP (by rw [← hlv, zv_ne.2 g]; rfl)
      have hrs := rep_step hWh hrep hkP (by omega) (by rw [← hpp]; exact hpn) hlv
      rw [← hpp, ← zv_swp] at hrs
      have hnx := (rdc_next hkP (by rw [← hpp]; exact hpn)).1
      have hel := fun wx h => leliminate_ok (H := [(b12, 3, [Value.int .i64 k]), (b11, 68, encZ last)] ++ []) (w0 := w) (bo := bw) k last (SS S0 k) wx hR2 (by omega) (by omega) hkn (by omega) hsz2 hlz hl0 (by omega) h
      repeat (with_reducible first | refine c_seq ?_ | refine c_block ?_ | refine c_skip ?_ | refine x_then ?_ | refine x_block ?_)
      refine c_reg ?_
      refine l_pure rfl (s_move  h8 ?_)
      refine l_read rfl (s_ldo (k := 0)  h12 vi_3 hS rfl rfl rfl (.inr rfl) ?_)
      refine l_read rfl (s_ldo (k := 1)  h11 vi_68 hS rfl rfl rfl (.inl rfl) ?_)
      refine l_heavy rfl (s_call Tryz.call36 rfl (hel _ (hS.perm (mB_pull _ _))) ?_)
      rintro u w6 ⟨rfl, R', hR', hS'⟩
      clear hS
      have hS := hS'.perm (mB_pull _ _).symm
      clear hS'
      have hlk' : k < R'.length := by rw [hR'.len]; exact hkn
      have hxk' := hR'.xlen hkn
      have hgk' : (R'.getD k zRw).X.getD k zZZ = zStep (swpG f k p) k last k k := hR'.get hkn (by omega) _
      have hsz3 := zStep_size hsz2 last hkn (by omega : k < n + 1)
      refine l_nil ?_
      repeat (with_reducible first | refine c_seq ?_ | refine c_block ?_ | refine c_skip ?_ | refine x_then ?_ | refine x_block ?_)
      refine c_draw [(0, .pure), (1, .read), (2, .pure), (3, .read), (4, .read), (5, .pure), (6, .read), (7, .free)] (by kernel_rfl) (by kernel_rfl) hS ?_
      intro wz18 hS hBz18
      refine w_pure rfl rfl (s_move  h8 ?_)
      refine w_read rfl rfl (s_ldo (k := 0)  h12 vi_3 hS rfl rfl rfl (.inr rfl) ?_)
      refine w_pure rfl rfl (s_ixo (i := k)  rfl rfl (by omega) (by first | omega | (simp; done) | (simp; omega)) si_61 ?_)
      refine w_read rfl rfl (s_mrowP [_, _]  rfl vi_63 hS (by omega) hlk' ?_)
      refine w_read rfl rfl (s_ldo (k := 0)  h12 vi_3 hS rfl rfl rfl (.inr rfl) ?_)
      refine w_pure rfl rfl (s_ixo (i := k)  rfl rfl (by omega) (by first | omega | (simp; done) | (simp; omega)) si_63 ?_)
      refine w_read rfl rfl (s_mldP [_, _] (i := k) (j := k) zZZ encZ_len  rfl vi_68 hS rfl hlk' (by omega) (by omega) (congrArg _ (congrArg _ hgk')) (.inl rfl) ?_)
      refine w_free rfl rfl (s_sta (k := 1)  h11 rfl vi_68 hS rfl rfl rfl (Nat.le_of_ble_eq_true rfl) rfl ?_)
      intro wz19 hS
      refine w_end ?_
      repeat (with_reducible first | refine c_seq ?_ | refine c_block ?_ | refine c_skip ?_ | refine x_then ?_ | refine x_block ?_)
      replace hS : St w _ ([(b12, 3, [Value.int .i64 k]), (b11, 68, encZ (zStep (swpG f k p) k last k k))] ++ mB encZ 68 63 bw R' []) := hS
      repeat (with_reducible first | refine c_seq ?_ | refine c_block ?_ | refine c_skip ?_ | refine x_then ?_ | refine x_block ?_)
      refine c_reg ?_
      refine l_pure rfl (s_add  h57 rfl (IntWalk.i64_in _ (by omega)) ?_)
      refine l_pure rfl (s_move  rfl ?_)
      refine l_nil ?_
      repeat (with_reducible first | refine c_seq ?_ | refine c_block ?_ | refine c_skip ?_ | refine x_then ?_ | refine x_block ?_)
      refine ⟨k + 1, _, rfl, ⟨hkn, hnx, by assumption, by assumption, by assumption, by assumption, vi rfl (by omega), R', _, _, hR', ?_, hsz3, ?_, hsz3 k hkn k (by omega), hS.drop (List.sublist_cons_self _ _)⟩, by omega⟩
      · intro i hi j hj
        show ((zv (zStep (swpG f k p) k last i j) : Int) : Rat) = _
        rw [zv_step]; exact hrs.1 i hi j hj
      · rw [zv_step]; exact hrs.2
    · refine c_no rfl (decide_eq_false (by omega)) ?_
      repeat (with_reducible first | refine c_seq ?_ | refine c_block ?_ | refine c_skip ?_ | refine x_then ?_ | refine x_block ?_)
      refine c_exit ?_
      repeat (with_reducible first | refine x_then_exit ?_ | refine x_block_exit ?_ | refine x_block_pass rfl ?_)
      repeat (with_reducible first | refine c_seq ?_ | refine c_block ?_ | refine c_skip ?_ | refine x_then ?_ | refine x_block ?_)
      obtain rfl : n = k := by omega
      exact ⟨_, rfl, hkP, h7, h8, RW, f, hRW, hrep, hsz, hS.drop (List.sublist_cons_self _ _)⟩
  clear hS hRW
  rintro ρ w4 ⟨hfull, h7, h8, RW, f, hRW, hrep, hsz, hS⟩
  have hqf := (hfi n).1 hfull
  have hIn := rinv n Bm n
  have hdn := dd_ne n hfull
  have hSn := hSS n (Nat.le_refl _)
  have e0 : slE A B = 0 := by rw [e1, if_pos hqf]
  rw [hslL e0, e0]
  have hval : ∀ i, i < n → (f i i).mag ≠ 0 ∧ ((zv (f i n) : Int) : Rat) / ((zv (f i i) : Int) : Rat) = (rdc n q n).M i n := by
    intro i hi
    have g1 : ((zv (f i i) : Int) : Rat) = dd n Bm n * (rdc n Bm n).M i i := hrep i hi i (by omega)
    have g2 : ((zv (f i n) : Int) : Rat) = dd n Bm n * (rdc n Bm n).M i n := hrep i hi n (by omega)
    rw [full_unit hIn hfull hi hi, dlt_self, Rat.mul_one] at g1
    rw [hfs hqf i hi n] at g2
    refine ⟨fun g => hdn (by rw [← g1, zv_ne.2 g]; rfl), ?_⟩
    rw [g1, g2, Rat.div_def]
    have := Rat.mul_inv_cancel _ hdn
    grind
  obtain ⟨gM, hgM⟩ : ∃ gM : Nat → Rat, gM = fun i => (rdc n q n).M i n := ⟨_, rfl⟩
  rw [show (tab n fun i => ofQ ((rdc n q n).M i n)) = tab n fun i => ofQ (gM i) by rw [hgM]]
  replace hval : ∀ i, i < n → (f i i).mag ≠ 0 ∧ ((zv (f i n) : Int) : Rat) / ((zv (f i i) : Int) : Rat) = gM i := by rw [hgM]; exact hval
  repeat (with_reducible first | refine c_seq ?_ | refine c_block ?_ | refine c_skip ?_ | refine x_then ?_ | refine x_block ?_)
  refine c_reg ?_
  refine l_pure rfl (s_move  h7 ?_)
  refine l_heavy rfl (s_makeE (enc := encR) (n := n) zRR  rfl rfl si_23 rfl (by omega) (by omega) (by omega) (by omega) hS ?_)
  intro b98 wz20 hS hBz20
  refine l_pure rfl (s_asg  rfl ?_)
  refine l_nil ?_
  repeat (with_reducible first | refine c_seq ?_ | refine c_block ?_ | refine c_skip ?_ | refine x_then ?_ | refine x_block ?_)
  replace hS : St w _ ([(b98, 49, (List.replicate n zRR).flatMap encR)] ++ mB encZ 68 63 bw RW []) := hS
  rw [oF_zero gM] at hS
  repeat (with_reducible first | refine c_seq ?_ | refine c_block ?_ | refine c_skip ?_ | refine x_then ?_ | refine x_block ?_)
  refine c_reg ?_
  refine l_pure rfl (s_move  h8 ?_)
  refine l_pure rfl (s_leno  rfl ⟨_, Tryz.underlying61⟩ ?_)
  refine l_pure rfl (s_move  rfl ?_)
  refine l_nil ?_
  repeat (with_reducible first | refine c_seq ?_ | refine c_skip ?_ | refine x_then ?_ | refine x_block ?_)
  refine c_cut1 (fun ρ w' => ρ 14 = .slice (some ⟨b98, 0, none⟩) n n ∧ St w w' ([(b98, 49, (tab n fun a => ofQ (oF gM n a)).flatMap encR)] ++ mB encZ 68 63 bw RW [])) ?_ ?_
  · repeat (with_reducible first | refine c_seq ?_ | refine c_block ?_ | refine c_skip ?_ | refine x_then ?_ | refine x_block ?_)
    refine c_loop (σ := Nat) (fun i ρ w' => i ≤ n ∧ ρ 7 = .int .i64 n ∧ ρ 14 = .slice (some ⟨b98, 0, none⟩) n n ∧ ρ 99 = .slice (some ⟨bw, 0, none⟩) n n ∧ ρ 100 = .int .i64 n ∧ ρ 101 = .int .i64 i ∧ St w w' ([(b98, 49, (tab n fun a => ofQ (oF gM i a)).flatMap encR)] ++ mB encZ 68 63 bw RW [])) (fun i => n - i) 0
      ⟨Nat.zero_le _, by assumption, rfl, rfl, rfl, rfl, hS⟩ ?_
    clear hS
    rintro i ρ w5 ⟨hi, h7, h14, h99, h100, h101, hS⟩
    have hto := tab_len n fun a => ofQ (oF gM i a)
    repeat (with_reducible first | refine c_seq ?_ | refine c_block ?_ | refine c_skip ?_ | refine x_then ?_ | refine x_block ?_)
    refine c_reg ?_
    refine l_pure rfl (s_lss  h101 h100 ?_)
    refine l_nil ?_
    repeat (with_reducible first | refine c_seq ?_ | refine c_block ?_ | refine c_skip ?_ | refine x_then ?_ | refine x_block ?_)
    by_cases hlt : i < n
    · refine c_yes rfl (decide_eq_true (by omega)) ?_
      repeat (with_reducible first | refine c_seq ?_ | refine c_block ?_ | refine c_skip ?_ | refine x_then ?_ | refine x_block ?_)
      have hli : i < RW.length := by rw [hRW.len]; exact hlt
      have htr := tab_len (n + 1) (f i)
      have hgn : (tab (n + 1) (f i)).getD n zZZ = f i n := tab_get _ _ (by omega)
      have hgi : (tab (n + 1) (f i)).getD i zZZ = f i i := tab_get _ _ (by omega)
      have q1 := hsz i hlt n (by omega)
      have q2 := hsz i hlt i (by omega)
      unfold zSz at q1 q2
      obtain ⟨hm0, hqv⟩ := hval i hlt
      have hmk := fun w => QMake_ok ((f i n).neg != (f i i).neg) (natS (f i n).mag) (natS (f i i).mag) w (by omega) (by omega) (by rw [val_natS]; exact hm0)
      rw [val_natS, val_natS, mk_quot hm0] at hmk
      have hmk2 : ((sg (f i n).neg (f i n).mag : Int) : Rat) / ((sg (f i i).neg (f i i).mag : Int) : Rat) = gM i := hqv
      rw [hmk2] at hmk
      repeat (with_reducible first | refine c_seq ?_ | refine c_block ?_ | refine c_skip ?_ | refine x_then ?_ | refine x_block ?_)
      refine c_reg ?_
      refine l_pure rfl (s_move  h101 ?_)
      refine l_pure rfl (s_ixo (i := i)  h99 h101 (by omega) (by first | omega | (simp; done) | (simp; omega)) si_61 ?_)
      refine l_read rfl (s_mrowP [_]  rfl vi_63 hS (by omega) hli ?_)
      refine l_pure rfl (s_asg  rfl ?_)
      refine l_pure rfl (s_asg  rfl ?_)
      refine l_nil ?_
      repeat (with_reducible first | refine c_seq ?_ | refine c_block ?_ | refine c_skip ?_ | refine x_then ?_ | refine x_block ?_)
      have hrow := hRW.sl (hS.drop (List.sublist_cons_self _ _)) encZ_len hlt
      repeat (with_reducible first | refine c_seq ?_ | refine c_block ?_ | refine c_skip ?_ | refine x_then ?_ | refine x_block ?_)
      refine c_draw [(0, .pure), (1, .pure), (2, .pure), (3, .pure), (4, .pure), (5, .pure), (6, .read), (7, .pure), (8, .pure), (9, .pure), (10, .pure), (11, .read), (12, .pure), (13, .pure), (14, .pure), (15, .pure), (16, .pure), (17, .read), (18, .pure), (19, .pure), (20, .pure), (21, .pure), (22, .read), (23, .grow), (24, .pure), (25, .pure), (26, .pure), (27, .pure), (28, .free)] (by kernel_rfl) (by kernel_rfl) hS ?_
      intro wz21 hS hBz21
      refine w_pure rfl rfl (s_move  h14 ?_)
      refine w_pure rfl rfl (s_move  rfl ?_)
      refine w_pure rfl rfl (s_move  rfl ?_)
      refine w_pure rfl rfl (s_move  h7 ?_)
      refine w_pure rfl rfl (s_ixr (i := n)  rfl rfl (hRW.sl (hS.drop (List.sublist_cons_self _ _)) encZ_len hlt) (by omega) (by first | omega | (simp; done) | (simp; omega)) si_63 ?_)
      refine w_pure rfl rfl (s_fldr  rfl (spot_el (hRW.sl (hS.drop (List.sublist_cons_self _ _)) encZ_len hlt) (fun _ => rfl) (by decide) (by first | omega | (simp; done) | (simp; omega))) fo_68_0 ?_)
      refine w_read rfl rfl (s_ldfe (i := n) (off := 0) zZZ  rfl vi_4 (hRW.sl (hS.drop (List.sublist_cons_self _ _)) encZ_len hlt) (fun _ => rfl) (by decide) (by first | omega | (simp; done) | (simp; omega)) rfl rfl (.inr rfl) ?_)
      refine w_pure rfl rfl (s_move  rfl ?_)
      refine w_pure rfl rfl (s_move  rfl ?_)
      refine w_pure rfl rfl (s_ixr (i := i)  rfl rfl (hRW.sl (hS.drop (List.sublist_cons_self _ _)) encZ_len hlt) (by omega) (by first | omega | (simp; done) | (simp; omega)) si_63 ?_)
      refine w_pure rfl rfl (s_fldr  rfl (spot_el (hRW.sl (hS.drop (List.sublist_cons_self _ _)) encZ_len hlt) (fun _ => rfl) (by decide) (by first | omega | (simp; done) | (simp; omega))) fo_68_0 ?_)
      refine w_read rfl rfl (s_ldfe (i := i) (off := 0) zZZ  rfl vi_4 (hRW.sl (hS.drop (List.sublist_cons_self _ _)) encZ_len hlt) (fun _ => rfl) (by decide) (by first | omega | (simp; done) | (simp; omega)) rfl rfl (.inr rfl) ?_)
      refine w_pure rfl rfl (s_neb  rfl rfl Tryz.underlying4 ?_)
      refine w_pure rfl rfl (s_move  rfl ?_)
      refine w_pure rfl rfl (s_move  h7 ?_)
      refine w_pure rfl rfl (s_ixr (i := n)  rfl rfl (hRW.sl (hS.drop (List.sublist_cons_self _ _)) encZ_len hlt) (by omega) (by first | omega | (simp; done) | (simp; omega)) si_63 ?_)
      refine w_pure rfl rfl (s_fldr  rfl (spot_el (hRW.sl (hS.drop (List.sublist_cons_self _ _)) encZ_len hlt) (fun _ => rfl) (by decide) (by first | omega | (simp; done) | (simp; omega))) fo_68_1 ?_)
      refine w_read rfl rfl (s_ldfe (i := n) (off := 1) zZZ  rfl vi_9 (hRW.sl (hS.drop (List.sublist_cons_self _ _)) encZ_len hlt) (fun _ => rfl) (by decide) (by first | omega | (simp; done) | (simp; omega)) rfl rfl (.inr rfl) ?_)
      refine w_pure rfl rfl (s_move  rfl ?_)
      refine w_pure rfl rfl (s_move  rfl ?_)
      refine w_pure rfl rfl (s_ixr (i := i)  rfl rfl (hRW.sl (hS.drop (List.sublist_cons_self _ _)) encZ_len hlt) (by omega) (by first | omega | (simp; done) | (simp; omega)) si_63 ?_)
      refine w_pure rfl rfl (s_fldr  rfl (spot_el (hRW.sl (hS.drop (List.sublist_cons_self _ _)) encZ_len hlt) (fun _ => rfl) (by decide) (by first | omega | (simp; done) | (simp; omega))) fo_68_1 ?_)
      refine w_read rfl rfl (s_ldfe (i := i) (off := 1) zZZ  rfl vi_9 (hRW.sl (hS.drop (List.sublist_cons_self _ _)) encZ_len hlt) (fun _ => rfl) (by decide) (by first | omega | (simp; done) | (simp; omega)) rfl rfl (.inr rfl) ?_)
      rw [hgn, hgi]
      refine w_grow rfl rfl (s_call Tryz.call37 rfl (hmk _) ?_)
      rintro _ wc22 ⟨rfl, hBc22⟩
      replace hS := hS.grow hBc22
      refine ⟨hBc22, ?_⟩
      refine w_pure rfl rfl (s_move  rfl ?_)
      refine w_pure rfl rfl (s_ext  rfl rfl ?_)
      refine w_pure rfl rfl (s_ext  rfl rfl ?_)
      refine w_pure rfl rfl (s_ixo (i := i)  rfl rfl (by omega) (by first | omega | (simp; done) | (simp; omega)) si_23 ?_)
      refine w_free rfl rfl (s_stE (k := 0) (i := i) (enc := encR) (ofQ (gM i)) (fun _ => rfl)  rfl rfl vi_49 hS rfl (by first | omega | simp) (by first | omega | (simp; done) | (simp; omega)) rfl rfl ?_)
      intro wz23 hS
      refine w_end ?_
      repeat (with_reducible first | refine c_seq ?_ | refine c_block ?_ | refine c_skip ?_ | refine x_then ?_ | refine x_block ?_)
      replace hS : St w _ ([(b98, 49, ((tab n fun a => ofQ (oF gM i a)).set i (ofQ (gM i))).flatMap encR)] ++ mB encZ 68 63 bw RW []) := hS
      rw [oF_set] at hS
      repeat (with_reducible first | refine c_seq ?_ | refine c_block ?_ | refine c_skip ?_ | refine x_then ?_ | refine x_block ?_)
      refine c_reg ?_
      refine l_pure rfl (s_add  h101 rfl (IntWalk.i64_in _ (by omega)) ?_)
      refine l_pure rfl (s_move  rfl ?_)
      refine l_nil ?_
      repeat (with_reducible first | refine c_seq ?_ | refine c_block ?_ | refine c_skip ?_ | refine x_then ?_ | refine x_block ?_)
      exact ⟨i + 1, _, rfl, ⟨hlt, by assumption, by assumption, by assumption, by assumption, vi rfl (by omega), hS⟩, by omega⟩
    · refine c_no rfl (decide_eq_false (by omega)) ?_
      repeat (with_reducible first | refine c_seq ?_ | refine c_block ?_ | refine c_skip ?_ | refine x_then ?_ | refine x_block ?_)
      refine c_exit ?_
      repeat (with_reducible first | refine x_then_exit ?_ | refine x_block_exit ?_ | refine x_block_pass rfl ?_)
      repeat (with_reducible first | refine c_seq ?_ | refine c_block ?_ | refine c_skip ?_ | refine x_then ?_ | refine x_block ?_)
      obtain rfl : n = i := by omega
      exact ⟨_, rfl, h14, hS⟩
  clear hS
  rintro ρ w5 ⟨h14, hS⟩
  have e3 : (tab n fun a => ofQ (oF gM n a)) = tab n fun i => ofQ (gM i) := tab_congr fun a ha => by unfold oF; rw [if_pos ha]
  rw [e3] at hS
  repeat (with_reducible first | refine c_seq ?_ | refine c_block ?_ | refine c_skip ?_ | refine x_then ?_ | refine x_block ?_)
  refine c_reg ?_
  refine l_pure rfl (s_move  h14 ?_)
  refine l_pure rfl (s_asg  rfl ?_)
  refine l_pure rfl (s_asg  rfl ?_)
  refine l_nil ?_
  repeat (with_reducible first | refine c_seq ?_ | refine c_block ?_ | refine c_skip ?_ | refine x_then ?_ | refine x_block ?_)
  have hTT := hS.sle (k := 0) (n := n) (cap := n) rfl encR_len (by rw [tab_len]; omega) (by omega) (by omega)
  rw [List.take_of_length_le (by rw [tab_len]; omega)] at hTT
  refine c_ret ?_
  repeat (with_reducible first | refine x_then_ret ?_ | refine x_block_ret ?_)
  refine r_two rfl rfl rfl ?_
  exact ⟨⟨_, rfl, hTT⟩, hS.below⟩
end Go.Proofs.YtblfipdfklpmmaaGreatDoor
namespace Go.Proofs.YtblfipdfklpmmaaGreatDoor
open Go Go.RowKit Go.Sx
set_option maxHeartbeats 1000000 in
theorem rTimes_ok (p q : Rat) (w : World) (hL : L p + L q ≤ MX) :
    Ret Tryz.prog 50 #[aggR (ofQ p), aggR (ofQ q)] w fun v w' => v = aggR (ofQ (p * q)) ∧ Below w.heap.size w w' := by
  have hM : MX = 1099511627776 := rfl
  have hn1 := L_num p
  have hn2 := L_num q
  have hd1 := L_den p
  have hd2 := L_den q
  have hm1 := natS_size_mul p.num.natAbs q.num.natAbs
  have hm2 := natS_size_mul p.den q.den
  have l1 := limb_len_le_size p.num.natAbs
  have l2 := limb_len_le_size q.num.natAbs
  have l3 := limb_len_le_size p.den
  have l4 := limb_len_le_size q.den
  have l5 := limb_len_le_size (p.num.natAbs * q.num.natAbs)
  have l6 := limb_len_le_size (p.den * q.den)
  have hlp := fun w => rlimbs_ok (natS p.num.natAbs) w (by omega)
  have hlq := fun w => rlimbs_ok (natS q.num.natAbs) w (by omega)
  rw [val_natS] at hlp hlq
  have hS := St.init w
  refine enter Tryz.func50 rfl Tryz.ntmps50 rfl ?_
  repeat (with_reducible first | refine c_seq ?_ | refine c_block ?_ | refine c_skip ?_ | refine x_then ?_ | refine x_block ?_)
  refine c_reg ?_
  refine l_heavy rfl (s_box (new := encR (ofQ p))  rfl rfl hS ?_)
  intro b1 wz2 hS hBz2
  refine l_heavy rfl (s_box (new := encR (ofQ q))  rfl rfl hS ?_)
  intro b3 wz4 hS hBz4
  refine l_heavy rfl (s_alloc  vi_49 hS ?_)
  intro b5 wz6 hS hBz6
  refine l_nil ?_
  repeat (with_reducible first | refine c_seq ?_ | refine c_block ?_ | refine c_skip ?_ | refine x_then ?_ | refine x_block ?_)
  by_cases hp0 : p = 0
  · repeat (with_reducible first | refine c_seq ?_ | refine c_block ?_ | refine c_skip ?_ | refine x_then ?_ | refine x_block ?_)
    refine c_reg ?_
    refine l_pure rfl (s_fld  rfl fo_49_1 ?_)
    refine l_read rfl (s_ldo (k := 2)  rfl vi_9 hS rfl rfl rfl (.inr rfl) ?_)
    refine l_pure rfl (s_eqs  rfl rfl ?_)
    refine l_pure rfl (s_move  rfl ?_)
    refine l_no (gno_yes 8 (by kernel_rfl) rfl (decide_eq_true (ofQ_num_nil.2 hp0))) ?_
    refine l_no (gno_yes 8 (by kernel_rfl) rfl (decide_eq_true (ofQ_num_nil.2 hp0))) ?_
    refine l_no (gno_yes 8 (by kernel_rfl) rfl (decide_eq_true (ofQ_num_nil.2 hp0))) ?_
    refine l_pure rfl (s_pick (vb rfl (decide_eq_true (ofQ_num_nil.2 hp0))) rfl ?_)
    refine l_nil ?_
    repeat (with_reducible first | refine c_seq ?_ | refine c_block ?_ | refine c_skip ?_ | refine x_then ?_ | refine x_block ?_)
    refine c_yes rfl (rfl) ?_
    repeat (with_reducible first | refine c_seq ?_ | refine c_block ?_ | refine c_skip ?_ | refine x_then ?_ | refine x_block ?_)
    refine c_reg ?_
    refine l_pure rfl (s_build  rfl bz_49 ?_)
    refine l_heavy rfl (s_sta (k := 0)  rfl rfl vi_49 hS rfl rfl rfl (Nat.le_of_ble_eq_true rfl) rfl ?_)
    intro wz7 hS
    refine l_nil ?_
    repeat (with_reducible first | refine c_seq ?_ | refine c_block ?_ | refine c_skip ?_ | refine x_then ?_ | refine x_block ?_)
    refine c_ret ?_
    repeat (with_reducible first | refine x_then_ret ?_ | refine x_block_ret ?_)
    refine r_cell (k := 0) rfl rfl vi_49 hS rfl rfl ?_
    rw [hp0, Rat.zero_mul, ofQ_zero]
    exact ⟨rfl, hS.below⟩
  · by_cases hq0 : q = 0
    · repeat (with_reducible first | refine c_seq ?_ | refine c_block ?_ | refine c_skip ?_ | refine x_then ?_ | refine x_block ?_)
      refine c_reg ?_
      refine l_pure rfl (s_fld  rfl fo_49_1 ?_)
      refine l_read rfl (s_ldo (k := 2)  rfl vi_9 hS rfl rfl rfl (.inr rfl) ?_)
      refine l_pure rfl (s_eqs  rfl rfl ?_)
      refine l_pure rfl (s_move  rfl ?_)
      refine l_pure (gd_yes 8 (by kernel_rfl) rfl (decide_eq_false (fun g => hp0 (ofQ_num_nil.1 g)))) (s_fld  rfl fo_49_1 ?_)
      refine l_read (gd_yes 8 (by kernel_rfl) rfl (decide_eq_false (fun g => hp0 (ofQ_num_nil.1 g)))) (s_ldo (k := 1)  rfl vi_9 hS rfl rfl rfl (.inr rfl) ?_)
      refine l_pure (gd_yes 8 (by kernel_rfl) rfl (decide_eq_false (fun g => hp0 (ofQ_num_nil.1 g)))) (s_eqs  rfl rfl ?_)
      refine l_pure rfl (s_pick (vb rfl (decide_eq_false (fun g => hp0 (ofQ_num_nil.1 g)))) rfl ?_)
      refine l_nil ?_
      repeat (with_reducible first | refine c_seq ?_ | refine c_block ?_ | refine c_skip ?_ | refine x_then ?_ | refine x_block ?_)
      refine c_yes rfl (decide_eq_true (ofQ_num_nil.2 hq0)) ?_
      repeat (with_reducible first | refine c_seq ?_ | refine c_block ?_ | refine c_skip ?_ | refine x_then ?_ | refine x_block ?_)
      refine c_reg ?_
      refine l_pure rfl (s_build  rfl bz_49 ?_)
      refine l_heavy rfl (s_sta (k := 0)  rfl rfl vi_49 hS rfl rfl rfl (Nat.le_of_ble_eq_true rfl) rfl ?_)
      intro wz8 hS
      refine l_nil ?_
      repeat (with_reducible first | refine c_seq ?_ | refine c_block ?_ | refine c_skip ?_ | refine x_then ?_ | refine x_block ?_)
      refine c_ret ?_
      repeat (with_reducible first | refine x_then_ret ?_ | refine x_block_ret ?_)
      refine r_cell (k := 0) rfl rfl vi_49 hS rfl rfl ?_
      rw [hq0, Rat.mul_zero, ofQ_zero]
      exact ⟨rfl, hS.below⟩
    · repeat (with_reducible first | refine c_seq ?_ | refine c_block ?_ | refine c_skip ?_ | refine x_then ?_ | refine x_block ?_)
      refine c_reg ?_
      refine l_pure rfl (s_fld  rfl fo_49_1 ?_)
      refine l_read rfl (s_ldo (k := 2)  rfl vi_9 hS rfl rfl rfl (.inr rfl) ?_)
      refine l_pure rfl (s_eqs  rfl rfl ?_)
      refine l_pure rfl (s_move  rfl ?_)
      refine l_pure (gd_yes 8 (by kernel_rfl) rfl (decide_eq_false (fun g => hp0 (ofQ_num_nil.1 g)))) (s_fld  rfl fo_49_1 ?_)
      refine l_read (gd_yes 8 (by kernel_rfl) rfl (decide_eq_false (fun g => hp0 (ofQ_num_nil.1 g)))) (s_ldo (k := 1)  rfl vi_9 hS rfl rfl rfl (.inr rfl) ?_)
      refine l_pure (gd_yes 8 (by kernel_rfl) rfl (decide_eq_false (fun g => hp0 (ofQ_num_nil.1 g)))) (s_eqs  rfl rfl ?_)
      refine l_pure rfl (s_pick (vb rfl (decide_eq_false (fun g => hp0 (ofQ_num_nil.1 g)))) rfl ?_)
      refine l_nil ?_
      repeat (with_reducible first | refine c_seq ?_ | refine c_block ?_ | refine c_skip ?_ | refine x_then ?_ | refine x_block ?_)
      refine c_no rfl (decide_eq_false (fun g => hq0 (ofQ_num_nil.1 g))) ?_
      repeat (with_reducible first | refine c_seq ?_ | refine c_block ?_ | refine c_skip ?_ | refine x_then ?_ | refine x_block ?_)
      refine c_draw [(0, .pure), (1, .read), (2, .pure), (3, .read), (4, .pure), (5, .pure), (6, .read), (8, .pure), (9, .read), (12, .read), (14, .read), (7, .grow), (10, .grow), (11, .grow), (13, .grow), (15, .grow), (16, .grow), (17, .grow), (18, .free)] (by kernel_rfl) (by kernel_rfl) hS ?_
      intro wz9 hS hBz9
      refine w_pure rfl rfl (s_fld  rfl fo_49_0 ?_)
      refine w_read rfl rfl (s_ldo (k := 2)  rfl vi_4 hS rfl rfl rfl (.inr rfl) ?_)
      refine w_pure rfl rfl (s_fld  rfl fo_49_0 ?_)
      refine w_read rfl rfl (s_ldo (k := 1)  rfl vi_4 hS rfl rfl rfl (.inr rfl) ?_)
      refine w_pure rfl rfl (s_neb  rfl rfl Tryz.underlying4 ?_)
      refine w_pure rfl rfl (s_fld  rfl fo_49_1 ?_)
      refine w_read rfl rfl (s_ldo (k := 2)  rfl vi_9 hS rfl rfl rfl (.inr rfl) ?_)
      refine w_pure rfl rfl (s_fld  rfl fo_49_1 ?_)
      refine w_read rfl rfl (s_ldo (k := 1)  rfl vi_9 hS rfl rfl rfl (.inr rfl) ?_)
      refine w_read rfl rfl (s_ldo (k := 2)  rfl vi_49 hS rfl rfl rfl (.inl rfl) ?_)
      refine w_read rfl rfl (s_ldo (k := 1)  rfl vi_49 hS rfl rfl rfl (.inl rfl) ?_)
      refine w_grow rfl rfl (s_call Tryz.call81 rfl (hlp _) ?_)
      rintro vx w3 ⟨hvx, hB3⟩
      refine ⟨hB3, ?_⟩
      replace hS := hS.grow hB3
      refine w_grow rfl rfl (s_call Tryz.call81 rfl (hlq _) ?_)
      rintro vy w4 ⟨hvy, hB4⟩
      refine ⟨hB4, ?_⟩
      replace hS := hS.grow hB4
      refine w_grow rfl rfl (s_call Tryz.call80 rfl (rtimes_ok _ _ _ _ _ (hvx.below hB4) hvy (by omega) (by omega)) ?_)
      rintro vX w5 ⟨hvX, hB5⟩
      refine ⟨hB5, ?_⟩
      replace hS := hS.grow hB5
      refine w_grow rfl rfl (s_call Tryz.call82 rfl (rden_ok p _ (by omega)) ?_)
      rintro vp w6 ⟨hvp, hB6⟩
      refine ⟨hB6, ?_⟩
      replace hS := hS.grow hB6
      refine w_grow rfl rfl (s_call Tryz.call82 rfl (rden_ok q _ (by omega)) ?_)
      rintro vq w7 ⟨hvq, hB7⟩
      refine ⟨hB7, ?_⟩
      replace hS := hS.grow hB7
      refine w_grow rfl rfl (s_call Tryz.call80 rfl (rtimes_ok _ _ _ _ _ (hvp.below hB7) hvq (by omega) (by omega)) ?_)
      rintro vD w8 ⟨hvD, hB8⟩
      refine ⟨hB8, ?_⟩
      replace hS := hS.grow hB8
      refine w_grow rfl rfl (s_call Tryz.call79 rfl (rreduced_ok _ _ _ _ _ _ (((hvX.below hB6).below hB7).below hB8) hvD (by omega) (by omega) (Nat.mul_ne_zero p.den_nz q.den_nz)) ?_)
      rintro v9 w9 ⟨rfl, hB9⟩
      refine ⟨hB9, ?_⟩
      replace hS := hS.grow hB9
      refine w_free rfl rfl (s_sta (k := 0)  rfl rfl vi_49 hS rfl rfl rfl (Nat.le_of_ble_eq_true rfl) rfl ?_)
      intro wz10 hS
      refine w_end ?_
      repeat (with_reducible first | refine c_seq ?_ | refine c_block ?_ | refine c_skip ?_ | refine x_then ?_ | refine x_block ?_)
      refine c_ret ?_
      repeat (with_reducible first | refine x_then_ret ?_ | refine x_block_ret ?_)
      refine r_cell (k := 0) rfl rfl vi_49 hS rfl rfl ?_
      exact ⟨congrArg (fun q => aggR (ofQ q)) (mulQ_eq p q), hS.below⟩
set_option maxHeartbeats 1000000 in
theorem rOver_ok (p q : Rat) (w : World) (hL : L p + L q ≤ MX) (hq0 : q ≠ 0) :
    Ret Tryz.prog 51 #[aggR (ofQ p), aggR (ofQ q)] w fun v w' => v = aggR (ofQ (p / q)) ∧ Below w.heap.size w w' := by
  have hM : MX = 1099511627776 := rfl
  have hn1 := L_num p
  have hn2 := L_num q
  have hd1 := L_den p
  have hd2 := L_den q
  have hm1 := natS_size_mul p.num.natAbs q.den
  have hm2 := natS_size_mul p.den q.num.natAbs
  have l1 := limb_len_le_size p.num.natAbs
  have l2 := limb_len_le_size q.num.natAbs
  have l3 := limb_len_le_size p.den
  have l4 := limb_len_le_size q.den
  have l5 := limb_len_le_size (p.num.natAbs * q.den)
  have l6 := limb_len_le_size (p.den * q.num.natAbs)
  have hlp := fun w => rlimbs_ok (natS p.num.natAbs) w (by omega)
  have hlq := fun w => rlimbs_ok (natS q.num.natAbs) w (by omega)
  rw [val_natS] at hlp hlq
  have hqn : q.num.natAbs ≠ 0 := fun h => hq0 (Rat.num_eq_zero.1 (Int.natAbs_eq_zero.1 h))
  have hS := St.init w
  refine enter Tryz.func51 rfl Tryz.ntmps51 rfl ?_
  repeat (with_reducible first | refine c_seq ?_ | refine c_block ?_ | refine c_skip ?_ | refine x_then ?_ | refine x_block ?_)
  refine c_reg ?_
  refine l_heavy rfl (s_box (new := encR (ofQ p))  rfl rfl hS ?_)
  intro b1 wz2 hS hBz2
  refine l_heavy rfl (s_box (new := encR (ofQ q))  rfl rfl hS ?_)
  intro b3 wz4 hS hBz4
  refine l_heavy rfl (s_alloc  vi_49 hS ?_)
  intro b5 wz6 hS hBz6
  refine l_nil ?_
  repeat (with_reducible first | refine c_seq ?_ | refine c_block ?_ | refine c_skip ?_ | refine x_then ?_ | refine x_block ?_)
  refine c_reg ?_
  refine l_pure rfl (s_fld  rfl fo_49_1 ?_)
  refine l_read rfl (s_ldo (k := 2)  rfl vi_9 hS rfl rfl rfl (.inr rfl) ?_)
  refine l_pure rfl (s_eqs  rfl rfl ?_)
  refine l_nil ?_
  repeat (with_reducible first | refine c_seq ?_ | refine c_block ?_ | refine c_skip ?_ | refine x_then ?_ | refine x_block ?_)
  by_cases hp0 : p = 0
  · refine c_yes rfl (decide_eq_true (ofQ_num_nil.2 hp0)) ?_
    repeat (with_reducible first | refine c_seq ?_ | refine c_block ?_ | refine c_skip ?_ | refine x_then ?_ | refine x_block ?_)
    refine c_reg ?_
    refine l_pure rfl (s_build  rfl bz_49 ?_)
    refine l_heavy rfl (s_sta (k := 0)  rfl rfl vi_49 hS rfl rfl rfl (Nat.le_of_ble_eq_true rfl) rfl ?_)
    intro wz7 hS
    refine l_nil ?_
    repeat (with_reducible first | refine c_seq ?_ | refine c_block ?_ | refine c_skip ?_ | refine x_then ?_ | refine x_block ?_)
    refine c_ret ?_
    repeat (with_reducible first | refine x_then_ret ?_ | refine x_block_ret ?_)
    refine r_cell (k := 0) rfl rfl vi_49 hS rfl rfl ?_
    rw [hp0, Rat.div_def, Rat.zero_mul, ofQ_zero]
    exact ⟨rfl, hS.below⟩
  · refine c_no rfl (decide_eq_false (fun g => hp0 (ofQ_num_nil.1 g))) ?_
    repeat (with_reducible first | refine c_seq ?_ | refine c_block ?_ | refine c_skip ?_ | refine x_then ?_ | refine x_block ?_)
    refine c_draw [(0, .pure), (1, .read), (2, .pure), (3, .read), (4, .pure), (5, .pure), (6, .read), (8, .read), (11, .read), (13, .pure), (14, .read), (7, .grow), (9, .grow), (10, .grow), (12, .grow), (15, .grow), (16, .grow), (17, .grow), (18, .free)] (by kernel_rfl) (by kernel_rfl) hS ?_
    intro wz8 hS hBz8
    refine w_pure rfl rfl (s_fld  rfl fo_49_0 ?_)
    refine w_read rfl rfl (s_ldo (k := 2)  rfl vi_4 hS rfl rfl rfl (.inr rfl) ?_)
    refine w_pure rfl rfl (s_fld  rfl fo_49_0 ?_)
    refine w_read rfl rfl (s_ldo (k := 1)  rfl vi_4 hS rfl rfl rfl (.inr rfl) ?_)
    refine w_pure rfl rfl (s_neb  rfl rfl Tryz.underlying4 ?_)
    refine w_pure rfl rfl (s_fld  rfl fo_49_1 ?_)
    refine w_read rfl rfl (s_ldo (k := 2)  rfl vi_9 hS rfl rfl rfl (.inr rfl) ?_)
    refine w_read rfl rfl (s_ldo (k := 1)  rfl vi_49 hS rfl rfl rfl (.inl rfl) ?_)
    refine w_read rfl rfl (s_ldo (k := 2)  rfl vi_49 hS rfl rfl rfl (.inl rfl) ?_)
    refine w_pure rfl rfl (s_fld  rfl fo_49_1 ?_)
    refine w_read rfl rfl (s_ldo (k := 1)  rfl vi_9 hS rfl rfl rfl (.inr rfl) ?_)
    refine w_grow rfl rfl (s_call Tryz.call81 rfl (hlp _) ?_)
    rintro vx w3 ⟨hvx, hB3⟩
    refine ⟨hB3, ?_⟩
    replace hS := hS.grow hB3
    refine w_grow rfl rfl (s_call Tryz.call82 rfl (rden_ok q _ (by omega)) ?_)
    rintro vq w4 ⟨hvq, hB4⟩
    refine ⟨hB4, ?_⟩
    replace hS := hS.grow hB4
    refine w_grow rfl rfl (s_call Tryz.call80 rfl (rtimes_ok _ _ _ _ _ (hvx.below hB4) hvq (by omega) (by omega)) ?_)
    rintro vX w5 ⟨hvX, hB5⟩
    refine ⟨hB5, ?_⟩
    replace hS := hS.grow hB5
    refine w_grow rfl rfl (s_call Tryz.call82 rfl (rden_ok p _ (by omega)) ?_)
    rintro vp w6 ⟨hvp, hB6⟩
    refine ⟨hB6, ?_⟩
    replace hS := hS.grow hB6
    refine w_grow rfl rfl (s_call Tryz.call81 rfl (hlq _) ?_)
    rintro vy w7 ⟨hvy, hB7⟩
    refine ⟨hB7, ?_⟩
    replace hS := hS.grow hB7
    refine w_grow rfl rfl (s_call Tryz.call80 rfl (rtimes_ok _ _ _ _ _ (hvp.below hB7) hvy (by omega) (by omega)) ?_)
    rintro vD w8 ⟨hvD, hB8⟩
    refine ⟨hB8, ?_⟩
    replace hS := hS.grow hB8
    refine w_grow rfl rfl (s_call Tryz.call79 rfl (rreduced_ok _ _ _ _ _ _ (((hvX.below hB6).below hB7).below hB8) hvD (by omega) (by omega) (Nat.mul_ne_zero p.den_nz hqn)) ?_)
    rintro v9 w9 ⟨rfl, hB9⟩
    refine ⟨hB9, ?_⟩
    replace hS := hS.grow hB9
    refine w_free rfl rfl (s_sta (k := 0)  rfl rfl vi_49 hS rfl rfl rfl (Nat.le_of_ble_eq_true rfl) rfl ?_)
    intro wz9 hS
    refine w_end ?_
    repeat (with_reducible first | refine c_seq ?_ | refine c_block ?_ | refine c_skip ?_ | refine x_then ?_ | refine x_block ?_)
    refine c_ret ?_
    repeat (with_reducible first | refine x_then_ret ?_ | refine x_block_ret ?_)
    refine r_cell (k := 0) rfl rfl vi_49 hS rfl rfl ?_
    exact ⟨congrArg (fun q => aggR (ofQ q)) (divQ_eq p q), hS.below⟩
end Go.Proofs.YtblfipdfklpmmaaGreatDoor
namespace Go.Sx
open Go Go.RowKit Go.Proofs.YtblfipdfklpmmaaGreatDoor
def mD {α : Type} (enc : α → List Value) (t tS : TypeId) (bo : Nat) (cs : List Value) (R : List (Rw α)) (H : List Blk) : List Blk := (bo, tS, cs) :: (R.map (Rw.blk enc t) ++ H)
section
variable {P : Program} {N : Nat} {ρ : Nat → Value} {w0 w w' : World} {d : Option Tmp} {ty : TypeId} {pos : String} {aft : Array Edge} {g : Option (Nat × Bool)} {x y z : Operand} {t t' e : TypeId} {H : List Blk} {k b o : Nat} {v : Value} {K : Value → Prop} {K2 : Value → World → Prop}
  {α : Type} {enc : α → List Value} {size : Nat} {R : List (Rw α)} {tR tS : TypeId} {bo : Nat} {cs : List Value} {zz : List Value}
theorem mD_at {i : Nat} (hi : i < R.length) : (mD enc tR tS bo cs R H)[i + 1]? = some ((R.getD i zRw).b, tR, (R.getD i zRw).X.flatMap enc ++ (R.getD i zRw).sp) := by
  unfold mD
  rw [List.getElem?_cons_succ, List.getElem?_append_left (by rw [List.length_map]; exact hi), List.getElem?_map, List.getElem?_eq_getElem hi, getD_ge R zRw hi]; rfl
theorem mD_put {i : Nat} (j : Nat) (u : α) (hi : i < R.length) :
    (mD enc tR tS bo cs R H).set (i + 1) ((R.getD i zRw).b, tR, ((R.getD i zRw).X.set j u).flatMap enc ++ (R.getD i zRw).sp) = mD enc tR tS bo cs (R.set i ((R.getD i zRw).put j u)) H := by
  unfold mD
  rw [List.set_cons_succ, List.set_append_left _ _ (by rw [List.length_map]; exact hi), List.map_set]; rfl
theorem mD_app (L : List Blk) : mD enc tR tS bo cs R H ++ L = mD enc tR tS bo cs R (H ++ L) := by unfold mD; rw [List.cons_append, List.append_assoc]
theorem s_mrowD (pre : List Blk) {i : Nat} (hx : ev N ρ x = .pointer (some ⟨bo, o, none⟩)) (ht : vinfo P t = some (1, false, zz)) (hS : St w0 w (pre ++ mD enc tR tS bo cs R H)) (ho : o = i) (hv : cs[i]? = some v) (h : K v) : Read1 P N ρ w ⟨d, .load t x, ty, pos, aft, g⟩ K := by
  subst ho
  exact s_ldc (k := pre.length + 0) hx ht hS (by rw [preAt]; rfl) hv h
theorem s_mstD (pre : List Blk) {i j : Nat} {agg : Bool} (u : α) (hu : ∀ x, (enc x).length = size) (hx : ev N ρ x = .pointer (some ⟨b, o, none⟩)) (hy : ev N ρ y = v) (ht : vinfo P t = some (size, agg, zz)) (hS : St w0 w (pre ++ mD enc tR tS bo cs R H)) (hb : (R.getD i zRw).b = b) (hi : i < R.length)
    (ho : o = j * size) (hj : j < (R.getD i zRw).X.length) (hv : v.cells.toList = enc u) (h1 : (enc u).all (·.oneCell') = true) (h : ∀ w', St w0 w' (pre ++ mD enc tR tS bo cs (R.set i ((R.getD i zRw).put j u)) H) → K2 undef w') : Hup1 P N ρ w ⟨d, .store t x y, ty, pos, aft, g⟩ K2 := by
  subst hb
  refine s_stS (k := pre.length + (i + 1)) u hu hx hy ht hS (by rw [preAt]; exact mD_at hi) ho hj hv h1 fun w' hS' => ?_
  rw [preSet, mD_put j u hi] at hS'
  exact h w' hS'
theorem MatG.slD {n m : Nat} {f : Nat → Nat → α} (pre : List Blk) (h : MatG R n m f) (hS : St w0 w (pre ++ mD enc tR tS bo cs R H)) (hu : ∀ x, (enc x).length = size) {i : Nat} (hi : i < n) : Sl enc size w (R.getD i zRw).v (tab m (f i)) := by
  have hl : i < R.length := by rw [h.len]; exact hi
  have := hS.slg (k := pre.length + (i + 1)) (by rw [preAt]; exact mD_at hl) hu (n := m) (cap := (R.getD i zRw).cap) (by rw [h.xlen hi]; omega) (h.cap i hi).1 (h.cap i hi).2
  rwa [h.row i hi, List.take_of_length_le (by rw [tab_len]; omega), ← h.v hi] at this
theorem MatG.mtsD {n m cap : Nat} {f : Nat → Nat → α} {so : List Value} (pre : List Blk) (h : MatG R n m f) (hS : St w0 w (pre ++ mD enc tR tS bo (R.map Rw.v ++ so) R H)) (hu : ∀ x, (enc x).length = size) (h1 : n ≤ cap) (h2 : cap ≤ 9223372036854775807) :
    Mts enc size w (.slice (some ⟨bo, 0, none⟩) n cap) (tabM n m f) (R.map Rw.v) := by
  have hk : (pre ++ mD enc tR tS bo (R.map Rw.v ++ so) R H)[pre.length + 0]? = some (bo, tS, (R.map Rw.v).flatMap enV ++ so) := by rw [preAt, enV_flat]; rfl
  have hsl := hS.slg hk (fun _ => rfl) (n := n) (cap := cap) (by rw [List.length_map, h.len]; omega) h1 h2
  rw [List.take_of_length_le (by rw [List.length_map, h.len]; omega)] at hsl
  refine ⟨by rw [List.length_map, h.len, tabM_len], hsl, fun i hi => ?_⟩
  rw [tabM_len] at hi
  rw [tabM_row f hi, List.getD_eq_getElem?_getD, mB_row (by rw [h.len]; exact hi)]
  exact h.slD pre hS hu hi
end
end Go.Sx
namespace Go.Proofs.YtblfipdfklpmmaaGreatDoor
open Go Go.RowKit Go.Sx
theorem rshape_ok (v : Value) (A : List (List RR)) (vs : List Value) (w : World) (hA : Mts encR 3 w v A vs) :
    Ret Tryz.prog 38 #[v] w fun r w' => r = .int .i64 (shpE A) ∧ Below w.heap.size w w' := by
  have hS := St.init w
  have hmx := hA.sl.maxLen
  have hlen := hA.len
  have hc0 : colsA A = (A.getD 0 []).length := rfl
  refine enter Tryz.func38 rfl Tryz.ntmps38 rfl ?_
  repeat (with_reducible first | refine c_seq ?_ | refine c_block ?_ | refine c_skip ?_ | refine x_then ?_ | refine x_block ?_)
  refine c_reg ?_
  refine l_pure rfl (s_asg  rfl ?_)
  refine l_nil ?_
  repeat (with_reducible first | refine c_seq ?_ | refine c_block ?_ | refine c_skip ?_ | refine x_then ?_ | refine x_block ?_)
  refine c_reg ?_
  refine l_pure rfl (s_move  rfl ?_)
  refine l_pure rfl (s_lenr  rfl (hA.sl.below hS.below) ⟨_, Tryz.underlying22⟩ ?_)
  refine l_pure rfl (s_eql  rfl rfl ?_)
  refine l_nil ?_
  repeat (with_reducible first | refine c_seq ?_ | refine c_block ?_ | refine c_skip ?_ | refine x_then ?_ | refine x_block ?_)
  by_cases h0 : A.length = 0
  · have he : shpE A = 4 := if_pos (.inl h0)
    rw [he]
    refine c_yes rfl (decide_eq_true (by omega)) ?_
    repeat (with_reducible first | refine c_seq ?_ | refine c_block ?_ | refine c_skip ?_ | refine x_then ?_ | refine x_block ?_)
    refine c_reg ?_
    refine l_pure rfl (s_asg  rfl ?_)
    refine l_nil ?_
    repeat (with_reducible first | refine c_seq ?_ | refine c_block ?_ | refine c_skip ?_ | refine x_then ?_ | refine x_block ?_)
    refine c_ret ?_
    repeat (with_reducible first | refine x_then_ret ?_ | refine x_block_ret ?_)
    refine r_one rfl rfl ?_
    exact ⟨rfl, hS.below⟩
  have hr0 := hA.row 0 (by omega)
  have hm0 := hr0.maxLen
  refine c_no rfl (decide_eq_false (by omega)) ?_
  repeat (with_reducible first | refine c_seq ?_ | refine c_block ?_ | refine c_skip ?_ | refine x_then ?_ | refine x_block ?_)
  refine c_reg ?_
  refine l_pure rfl (s_asg  rfl ?_)
  refine l_nil ?_
  repeat (with_reducible first | refine c_seq ?_ | refine c_skip ?_ | refine x_then ?_ | refine x_block ?_)
  refine c_cut1 (fun ρ w' => colsA A ≠ 0 ∧ evenA A = true ∧ ρ 0 = v ∧ St w w' []) ?_ ?_
  · repeat (with_reducible first | refine c_seq ?_ | refine c_block ?_ | refine c_skip ?_ | refine x_then ?_ | refine x_block ?_)
    refine c_loop (σ := Nat) (fun i ρ w' => i ≤ A.length ∧ (0 < i → colsA A ≠ 0) ∧ (A.take i).all (fun r => decide (r.length = colsA A)) = true ∧ ρ 0 = v ∧ ρ 3 = .int .i64 i ∧ St w w' []) (fun i => A.length - i) 0
      ⟨Nat.zero_le _, fun h => absurd h (Nat.lt_irrefl _), by simp, rfl, rfl, hS⟩ ?_
    clear hS
    rintro i ρ w2 ⟨hi, hcz, hall, h0', h3, hS⟩
    repeat (with_reducible first | refine c_seq ?_ | refine c_block ?_ | refine c_skip ?_ | refine x_then ?_ | refine x_block ?_)
    refine c_reg ?_
    refine l_pure rfl (s_move  h3 ?_)
    refine l_pure rfl (s_move  h0' ?_)
    refine l_pure rfl (s_lenr  rfl (hA.sl.below hS.below) ⟨_, Tryz.underlying22⟩ ?_)
    refine l_pure rfl (s_lss  rfl rfl ?_)
    refine l_nil ?_
    repeat (with_reducible first | refine c_seq ?_ | refine c_block ?_ | refine c_skip ?_ | refine x_then ?_ | refine x_block ?_)
    by_cases hlt : i < A.length
    · refine c_yes rfl (decide_eq_true (by omega)) ?_
      repeat (with_reducible first | refine c_seq ?_ | refine c_block ?_ | refine c_skip ?_ | refine x_then ?_ | refine x_block ?_)
      have hri := hA.row i hlt
      have hmi := hri.maxLen
      have hd : (A.getD i []).length = colsA A ↔ decide ((A.getD i []).length = colsA A) = true := (decide_eq_true_iff).symm
      obtain ⟨st1, st2⟩ := all_step (fun r : List RR => decide (r.length = colsA A)) A [] hlt hall
      by_cases hz : (A.getD i []).length = 0
      · have he : shpE A = 4 := by
          unfold shpE
          by_cases q : A.length = 0 ∨ colsA A = 0
          · rw [if_pos q]
          · rw [if_neg q, if_pos]
            exact st2 (decide_eq_false (by omega))
        rw [he]
        repeat (with_reducible first | refine c_seq ?_ | refine c_block ?_ | refine c_skip ?_ | refine x_then ?_ | refine x_block ?_)
        refine c_draw [(0, .pure), (1, .pure), (2, .pure), (3, .read), (4, .pure), (5, .pure), (6, .pure), (7, .pure), (8, .pure), (9, .pure), (10, .read), (11, .pure), (12, .pure), (13, .pure), (14, .read), (15, .pure), (16, .pure), (17, .pure)] (by kernel_rfl) (by kernel_rfl) hS ?_
        intro wz1 hS hBz1
        refine w_pure rfl rfl (s_move  h0' ?_)
        refine w_pure rfl rfl (s_move  h3 ?_)
        refine w_pure rfl rfl (s_ixr (i := i)  rfl rfl (hA.sl.below hS.below) (by omega) (by first | omega | (simp; done) | (simp; omega)) si_22 ?_)
        refine w_read rfl rfl (s_lde (i := i) undef  rfl vi_23 (hA.sl.below hS.below) (by first | omega | (simp; done) | (simp; omega)) rfl rfl (.inr rfl) ?_)
        refine w_pure rfl rfl (s_lenr  rfl (hri.below hS.below) ⟨_, Tryz.underlying23⟩ ?_)
        refine w_pure rfl rfl (s_eql  rfl rfl ?_)
        refine w_pure rfl rfl (s_move  rfl ?_)
        refine w_no rfl (gno_yes 19 (by kernel_rfl) rfl (decide_eq_true (by omega))) ?_
        refine w_no rfl (gno_yes 19 (by kernel_rfl) rfl (decide_eq_true (by omega))) ?_
        refine w_no rfl (gno_yes 19 (by kernel_rfl) rfl (decide_eq_true (by omega))) ?_
        refine w_no rfl (gno_yes 19 (by kernel_rfl) rfl (decide_eq_true (by omega))) ?_
        refine w_no rfl (gno_yes 19 (by kernel_rfl) rfl (decide_eq_true (by omega))) ?_
        refine w_no rfl (gno_yes 19 (by kernel_rfl) rfl (decide_eq_true (by omega))) ?_
        refine w_no rfl (gno_yes 19 (by kernel_rfl) rfl (decide_eq_true (by omega))) ?_
        refine w_no rfl (gno_yes 19 (by kernel_rfl) rfl (decide_eq_true (by omega))) ?_
        refine w_no rfl (gno_yes 19 (by kernel_rfl) rfl (decide_eq_true (by omega))) ?_
        refine w_no rfl (gno_yes 19 (by kernel_rfl) rfl (decide_eq_true (by omega))) ?_
        refine w_pure rfl rfl (s_pick (vb rfl (decide_eq_true (by omega))) rfl ?_)
        refine w_end ?_
        repeat (with_reducible first | refine c_seq ?_ | refine c_block ?_ | refine c_skip ?_ | refine x_then ?_ | refine x_block ?_)
        refine c_yes rfl (rfl) ?_
        repeat (with_reducible first | refine c_seq ?_ | refine c_block ?_ | refine c_skip ?_ | refine x_then ?_ | refine x_block ?_)
        refine c_reg ?_
        refine l_pure rfl (s_asg  rfl ?_)
        refine l_nil ?_
        repeat (with_reducible first | refine c_seq ?_ | refine c_block ?_ | refine c_skip ?_ | refine x_then ?_ | refine x_block ?_)
        refine c_ret ?_
        repeat (with_reducible first | refine x_then_ret ?_ | refine x_block_ret ?_)
        refine r_one rfl rfl ?_
        exact ⟨rfl, hS.below⟩
      · repeat (with_reducible first | refine c_seq ?_ | refine c_block ?_ | refine c_skip ?_ | refine x_then ?_ | refine x_block ?_)
        refine c_draw [(0, .pure), (1, .pure), (2, .pure), (3, .read), (4, .pure), (5, .pure), (6, .pure), (7, .pure), (8, .pure), (9, .pure), (10, .read), (11, .pure), (12, .pure), (13, .pure), (14, .read), (15, .pure), (16, .pure), (17, .pure)] (by kernel_rfl) (by kernel_rfl) hS ?_
        intro wz2 hS hBz2
        refine w_pure rfl rfl (s_move  h0' ?_)
        refine w_pure rfl rfl (s_move  h3 ?_)
        refine w_pure rfl rfl (s_ixr (i := i)  rfl rfl (hA.sl.below hS.below) (by omega) (by first | omega | (simp; done) | (simp; omega)) si_22 ?_)
        refine w_read rfl rfl (s_lde (i := i) undef  rfl vi_23 (hA.sl.below hS.below) (by first | omega | (simp; done) | (simp; omega)) rfl rfl (.inr rfl) ?_)
        refine w_pure rfl rfl (s_lenr  rfl (hri.below hS.below) ⟨_, Tryz.underlying23⟩ ?_)
        refine w_pure rfl rfl (s_eql  rfl rfl ?_)
        refine w_pure rfl rfl (s_move  rfl ?_)
        refine w_pure rfl (gd_yes 19 (by kernel_rfl) rfl (decide_eq_false (by omega))) (s_move  h0' ?_)
        refine w_pure rfl (gd_yes 19 (by kernel_rfl) rfl (decide_eq_false (by omega))) (s_move  h3 ?_)
        refine w_pure rfl (gd_yes 19 (by kernel_rfl) rfl (decide_eq_false (by omega))) (s_ixr (i := i)  rfl rfl (hA.sl.below hS.below) (by omega) (by first | omega | (simp; done) | (simp; omega)) si_22 ?_)
        refine w_read rfl (gd_yes 19 (by kernel_rfl) rfl (decide_eq_false (by omega))) (s_lde (i := i) undef  rfl vi_23 (hA.sl.below hS.below) (by first | omega | (simp; done) | (simp; omega)) rfl rfl (.inr rfl) ?_)
        refine w_pure rfl (gd_yes 19 (by kernel_rfl) rfl (decide_eq_false (by omega))) (s_lenr  rfl (hri.below hS.below) ⟨_, Tryz.underlying23⟩ ?_)
        refine w_pure rfl (gd_yes 19 (by kernel_rfl) rfl (decide_eq_false (by omega))) (s_move  h0' ?_)
        refine w_pure rfl (gd_yes 19 (by kernel_rfl) rfl (decide_eq_false (by omega))) (s_ixr (i := 0)  rfl rfl (hA.sl.below hS.below) (by omega) (by first | omega | (simp; done) | (simp; omega)) si_22 ?_)
        refine w_read rfl (gd_yes 19 (by kernel_rfl) rfl (decide_eq_false (by omega))) (s_lde (i := 0) undef  rfl vi_23 (hA.sl.below hS.below) (by first | omega | (simp; done) | (simp; omega)) rfl rfl (.inr rfl) ?_)
        refine w_pure rfl (gd_yes 19 (by kernel_rfl) rfl (decide_eq_false (by omega))) (s_lenr  rfl (hr0.below hS.below) ⟨_, Tryz.underlying23⟩ ?_)
        refine w_pure rfl (gd_yes 19 (by kernel_rfl) rfl (decide_eq_false (by omega))) (s_neq  rfl rfl ?_)
        refine w_pure rfl rfl (s_pick (vb rfl (decide_eq_false (by omega))) rfl ?_)
        refine w_end ?_
        repeat (with_reducible first | refine c_seq ?_ | refine c_block ?_ | refine c_skip ?_ | refine x_then ?_ | refine x_block ?_)
        by_cases hne : (A.getD i []).length = colsA A
        · refine c_no rfl (decide_eq_false (by omega)) ?_
          repeat (with_reducible first | refine c_seq ?_ | refine c_block ?_ | refine c_skip ?_ | refine x_then ?_ | refine x_block ?_)
          refine c_reg ?_
          refine l_pure rfl (s_move  h3 ?_)
          refine l_pure rfl (s_add  rfl rfl (IntWalk.i64_in _ (by omega)) ?_)
          refine l_pure rfl (s_asg  rfl ?_)
          refine l_nil ?_
          repeat (with_reducible first | refine c_seq ?_ | refine c_block ?_ | refine c_skip ?_ | refine x_then ?_ | refine x_block ?_)
          exact ⟨i + 1, _, rfl, ⟨hlt, fun _ => by omega, st1 (hd.1 hne), by assumption, vi rfl (by omega), hS⟩, by omega⟩
        · have he : shpE A = 4 := by
            unfold shpE
            by_cases q : A.length = 0 ∨ colsA A = 0
            · rw [if_pos q]
            · rw [if_neg q, if_pos]
              exact st2 (decide_eq_false hne)
          rw [he]
          refine c_yes rfl (decide_eq_true (by omega)) ?_
          repeat (with_reducible first | refine c_seq ?_ | refine c_block ?_ | refine c_skip ?_ | refine x_then ?_ | refine x_block ?_)
          refine c_reg ?_
          refine l_pure rfl (s_asg  rfl ?_)
          refine l_nil ?_
          repeat (with_reducible first | refine c_seq ?_ | refine c_block ?_ | refine c_skip ?_ | refine x_then ?_ | refine x_block ?_)
          refine c_ret ?_
          repeat (with_reducible first | refine x_then_ret ?_ | refine x_block_ret ?_)
          refine r_one rfl rfl ?_
          exact ⟨rfl, hS.below⟩
    · refine c_no rfl (decide_eq_false (by omega)) ?_
      repeat (with_reducible first | refine c_seq ?_ | refine c_block ?_ | refine c_skip ?_ | refine x_then ?_ | refine x_block ?_)
      refine c_exit ?_
      repeat (with_reducible first | refine x_then_exit ?_ | refine x_block_exit ?_ | refine x_block_pass rfl ?_)
      repeat (with_reducible first | refine c_seq ?_ | refine c_block ?_ | refine c_skip ?_ | refine x_then ?_ | refine x_block ?_)
      obtain rfl : i = A.length := by omega
      rw [List.take_length] at hall
      exact ⟨_, rfl, hcz (by omega), hall, h0', hS⟩
  clear hS
  rintro ρ w2 ⟨hcz, hev, h0', hS⟩
  repeat (with_reducible first | refine c_seq ?_ | refine c_block ?_ | refine c_skip ?_ | refine x_then ?_ | refine x_block ?_)
  have e2 : shpE A = if 16 < A.length ∨ 16 < colsA A then 2 else 0 := by unfold shpE; rw [if_neg (by omega), if_neg (by rw [hev]; simp)]
  rw [e2]
  by_cases h3 : 16 < A.length
  · rw [if_pos (.inl h3)]
    repeat (with_reducible first | refine c_seq ?_ | refine c_block ?_ | refine c_skip ?_ | refine x_then ?_ | refine x_block ?_)
    refine c_reg ?_
    refine l_pure rfl (s_move  h0' ?_)
    refine l_pure rfl (s_lenr  rfl (hA.sl.below hS.below) ⟨_, Tryz.underlying22⟩ ?_)
    refine l_pure rfl (s_gtr  rfl rfl ?_)
    refine l_pure rfl (s_move  rfl ?_)
    refine l_no (gno_yes 34 (by kernel_rfl) rfl (decide_eq_true (by omega))) ?_
    refine l_no (gno_yes 34 (by kernel_rfl) rfl (decide_eq_true (by omega))) ?_
    refine l_no (gno_yes 34 (by kernel_rfl) rfl (decide_eq_true (by omega))) ?_
    refine l_no (gno_yes 34 (by kernel_rfl) rfl (decide_eq_true (by omega))) ?_
    refine l_no (gno_yes 34 (by kernel_rfl) rfl (decide_eq_true (by omega))) ?_
    refine l_pure rfl (s_pick (vb rfl (decide_eq_true (by omega))) rfl ?_)
    refine l_nil ?_
    repeat (with_reducible first | refine c_seq ?_ | refine c_block ?_ | refine c_skip ?_ | refine x_then ?_ | refine x_block ?_)
    refine c_yes rfl (rfl) ?_
    repeat (with_reducible first | refine c_seq ?_ | refine c_block ?_ | refine c_skip ?_ | refine x_then ?_ | refine x_block ?_)
    refine c_reg ?_
    refine l_pure rfl (s_asg  rfl ?_)
    refine l_nil ?_
    repeat (with_reducible first | refine c_seq ?_ | refine c_block ?_ | refine c_skip ?_ | refine x_then ?_ | refine x_block ?_)
    refine c_ret ?_
    repeat (with_reducible first | refine x_then_ret ?_ | refine x_block_ret ?_)
    refine r_one rfl rfl ?_
    exact ⟨rfl, hS.below⟩
  repeat (with_reducible first | refine c_seq ?_ | refine c_block ?_ | refine c_skip ?_ | refine x_then ?_ | refine x_block ?_)
  refine c_reg ?_
  refine l_pure rfl (s_move  h0' ?_)
  refine l_pure rfl (s_lenr  rfl (hA.sl.below hS.below) ⟨_, Tryz.underlying22⟩ ?_)
  refine l_pure rfl (s_gtr  rfl rfl ?_)
  refine l_pure rfl (s_move  rfl ?_)
  refine l_pure (gd_yes 34 (by kernel_rfl) rfl (decide_eq_false (by omega))) (s_move  h0' ?_)
  refine l_pure (gd_yes 34 (by kernel_rfl) rfl (decide_eq_false (by omega))) (s_ixr (i := 0)  rfl rfl (hA.sl.below hS.below) (by omega) (by first | omega | (simp; done) | (simp; omega)) si_22 ?_)
  refine l_read (gd_yes 34 (by kernel_rfl) rfl (decide_eq_false (by omega))) (s_lde (i := 0) undef  rfl vi_23 (hA.sl.below hS.below) (by first | omega | (simp; done) | (simp; omega)) rfl rfl (.inr rfl) ?_)
  refine l_pure (gd_yes 34 (by kernel_rfl) rfl (decide_eq_false (by omega))) (s_lenr  rfl (hr0.below hS.below) ⟨_, Tryz.underlying23⟩ ?_)
  refine l_pure (gd_yes 34 (by kernel_rfl) rfl (decide_eq_false (by omega))) (s_gtr  rfl rfl ?_)
  refine l_pure rfl (s_pick (vb rfl (decide_eq_false (by omega))) rfl ?_)
  refine l_nil ?_
  repeat (with_reducible first | refine c_seq ?_ | refine c_block ?_ | refine c_skip ?_ | refine x_then ?_ | refine x_block ?_)
  by_cases h4 : 16 < colsA A
  · rw [if_pos (.inr h4)]
    refine c_yes rfl (decide_eq_true (by omega)) ?_
    repeat (with_reducible first | refine c_seq ?_ | refine c_block ?_ | refine c_skip ?_ | refine x_then ?_ | refine x_block ?_)
    refine c_reg ?_
    refine l_pure rfl (s_asg  rfl ?_)
    refine l_nil ?_
    repeat (with_reducible first | refine c_seq ?_ | refine c_block ?_ | refine c_skip ?_ | refine x_then ?_ | refine x_block ?_)
    refine c_ret ?_
    repeat (with_reducible first | refine x_then_ret ?_ | refine x_block_ret ?_)
    refine r_one rfl rfl ?_
    exact ⟨rfl, hS.below⟩
  rw [if_neg (by omega)]
  refine c_no rfl (decide_eq_false (by omega)) ?_
  repeat (with_reducible first | refine c_seq ?_ | refine c_block ?_ | refine c_skip ?_ | refine x_then ?_ | refine x_block ?_)
  refine c_reg ?_
  refine l_pure rfl (s_asg  rfl ?_)
  refine l_nil ?_
  repeat (with_reducible first | refine c_seq ?_ | refine c_block ?_ | refine c_skip ?_ | refine x_then ?_ | refine x_block ?_)
  refine c_ret ?_
  repeat (with_reducible first | refine x_then_ret ?_ | refine x_block_ret ?_)
  refine r_one rfl rfl ?_
  exact ⟨rfl, hS.below⟩
theorem lFixed_ok (v : Value) (l : List RR) (w : World) (hv : Sl encR 3 w v l) (hl : RB MX l) (hn : l.length ≤ 1000000) :
    Ret Tryz.prog 41 #[v] w fun r w' => ∃ LO, Gl encR 49 3 r (tab l.length fun j => ofQ (VX l j)) LO ∧ St w w' LO := by
  have hmax := hv.maxLen
  have hS := St.init w
  refine enter Tryz.func41 rfl Tryz.ntmps41 rfl ?_
  repeat (with_reducible first | refine c_seq ?_ | refine c_block ?_ | refine c_skip ?_ | refine x_then ?_ | refine x_block ?_)
  refine c_reg ?_
  refine l_pure rfl (s_asg  rfl ?_)
  refine l_nil ?_
  repeat (with_reducible first | refine c_seq ?_ | refine c_block ?_ | refine c_skip ?_ | refine x_then ?_ | refine x_block ?_)
  refine c_reg ?_
  refine l_pure rfl (s_asg  rfl ?_)
  refine l_nil ?_
  repeat (with_reducible first | refine c_seq ?_ | refine c_block ?_ | refine c_skip ?_ | refine x_then ?_ | refine x_block ?_)
  refine c_reg ?_
  refine l_pure rfl (s_asg  rfl ?_)
  refine l_nil ?_
  repeat (with_reducible first | refine c_seq ?_ | refine c_block ?_ | refine c_skip ?_ | refine x_then ?_ | refine x_block ?_)
  refine c_loop (σ := Nat) (fun i ρ w' => i ≤ l.length ∧ ρ 0 = v ∧ ρ 4 = .int .i64 i ∧ ∃ sO LO, ρ 3 = sO ∧ Gl encR 49 3 sO (tab i fun j => ofQ (VX l j)) LO ∧ St w w' ([] ++ LO)) (fun i => l.length - i) 0
    ⟨Nat.zero_le _, rfl, rfl, ⟨_, [], rfl, Gl.nil _ _ _, hS⟩⟩ ?_
  clear hS
  rintro i ρ w2 ⟨hi, h0, h4, sO, LO, h3, hG, hS⟩
  have htl := tab_len i (fun j => ofQ (VX l j))
  repeat (with_reducible first | refine c_seq ?_ | refine c_block ?_ | refine c_skip ?_ | refine x_then ?_ | refine x_block ?_)
  refine c_reg ?_
  refine l_pure rfl (s_move  h4 ?_)
  refine l_pure rfl (s_move  h0 ?_)
  refine l_pure rfl (s_lenr  rfl (hv.below hS.below) ⟨_, Tryz.underlying23⟩ ?_)
  refine l_pure rfl (s_lss  rfl rfl ?_)
  refine l_nil ?_
  repeat (with_reducible first | refine c_seq ?_ | refine c_block ?_ | refine c_skip ?_ | refine x_then ?_ | refine x_block ?_)
  by_cases hlt : i < l.length
  · refine c_yes rfl (decide_eq_true (by omega)) ?_
    repeat (with_reducible first | refine c_seq ?_ | refine c_block ?_ | refine c_skip ?_ | refine x_then ?_ | refine x_block ?_)
    have hfix := fun w => rFix_ok (l.getD i zRR) w (hl _ (getD_mem l i zRR hlt))
    have e : fx (l.getD i zRR) = ofQ (VX l i) := rfl
    rw [e] at hfix
    repeat (with_reducible first | refine c_seq ?_ | refine c_block ?_ | refine c_skip ?_ | refine x_then ?_ | refine x_block ?_)
    refine c_reg ?_
    refine l_pure rfl (s_move  h3 ?_)
    refine l_pure rfl (s_move  h0 ?_)
    refine l_pure rfl (s_move  h4 ?_)
    refine l_pure rfl (s_ixr (i := i)  rfl rfl (hv.below hS.below) (by omega) (by first | omega | (simp; done) | (simp; omega)) si_23 ?_)
    refine l_read rfl (s_lde (i := i) zRR  rfl vi_49 (hv.below hS.below) (by first | omega | (simp; done) | (simp; omega)) rfl rfl (.inl rfl) ?_)
    refine l_heavy rfl (s_call Tryz.call71 rfl (hfix _) ?_)
    rintro _ wc1 ⟨rfl, hBc1⟩
    replace hS := hS.grow hBc1
    refine l_heavy rfl (s_bsl (vs := [aggR (ofQ (VX l i))])  rfl si_23 rfl (by decide) (by decide) (by decide) (by simp [Value.cells, aggR]) rfl hS ?_)
    intro bx wz2 hS hBz2
    refine l_heavy rfl (s_appl [ofQ (VX l i)]  rfl rfl si_23 (by decide) hG hS rfl rfl encR_len (encR_one [ofQ (VX l i)]) (by first | omega | (simp only [List.length_cons, List.length_nil]; omega)) (by first | omega | (simp only [List.length_cons, List.length_nil]; omega)) ?_)
    intro va3 La3 wa3 hG hS hga3
    refine l_pure rfl (s_asg  rfl ?_)
    refine l_nil ?_
    repeat (with_reducible first | refine c_seq ?_ | refine c_block ?_ | refine c_skip ?_ | refine x_then ?_ | refine x_block ?_)
    rw [← tab_succ] at hG
    repeat (with_reducible first | refine c_seq ?_ | refine c_block ?_ | refine c_skip ?_ | refine x_then ?_ | refine x_block ?_)
    refine c_reg ?_
    refine l_pure rfl (s_move  h4 ?_)
    refine l_pure rfl (s_add  rfl rfl (IntWalk.i64_in _ (by omega)) ?_)
    refine l_pure rfl (s_asg  rfl ?_)
    refine l_nil ?_
    repeat (with_reducible first | refine c_seq ?_ | refine c_block ?_ | refine c_skip ?_ | refine x_then ?_ | refine x_block ?_)
    exact ⟨i + 1, _, rfl, ⟨hlt, by assumption, vi rfl (by omega), ⟨_, _, rfl, hG, hS⟩⟩, by omega⟩
  · refine c_no rfl (decide_eq_false (by omega)) ?_
    repeat (with_reducible first | refine c_seq ?_ | refine c_block ?_ | refine c_skip ?_ | refine x_then ?_ | refine x_block ?_)
    refine c_exit ?_
    repeat (with_reducible first | refine x_then_exit ?_ | refine x_block_exit ?_ | refine x_block_pass rfl ?_)
    repeat (with_reducible first | refine c_seq ?_ | refine c_block ?_ | refine c_skip ?_ | refine x_then ?_ | refine x_block ?_)
    obtain rfl : i = l.length := by omega
    repeat (with_reducible first | refine c_seq ?_ | refine c_block ?_ | refine c_skip ?_ | refine x_then ?_ | refine x_block ?_)
    refine c_reg ?_
    refine l_pure rfl (s_move  h3 ?_)
    refine l_pure rfl (s_asg  rfl ?_)
    refine l_nil ?_
    repeat (with_reducible first | refine c_seq ?_ | refine c_block ?_ | refine c_skip ?_ | refine x_then ?_ | refine x_block ?_)
    refine c_ret ?_
    repeat (with_reducible first | refine x_then_ret ?_ | refine x_block_ret ?_)
    refine r_one rfl rfl ?_
    exact ⟨LO, hG, hS⟩
set_option maxHeartbeats 2000000 in
theorem lfixedRows_ok (v : Value) (A : List (List RR)) (vs : List Value) (m : Nat) (w : World) (hA : Mts encR 3 w v A vs) (hn1 : 1 ≤ A.length) (hn : A.length ≤ 1000) (hm1 : 1 ≤ m) (hm : m ≤ 1000) (hev : ∀ i, i < A.length → (A.getD i []).length = m) (hB : RBM MX A) :
    Ret Tryz.prog 40 #[v] w fun r w' => (∃ bo cap so R, r = .slice (some ⟨bo, 0, none⟩) A.length cap ∧ A.length ≤ cap ∧ cap ≤ 9223372036854775807 ∧ MatG R A.length m (qM (RM A)) ∧ St w w' (mD encR 49 23 bo (R.map Rw.v ++ so) R [])) ∧ Below w.heap.size w w' := by
  obtain ⟨n, hn'⟩ : ∃ n, n = A.length := ⟨_, rfl⟩
  rw [← hn'] at hn1 hn hev ⊢
  have hS := St.init w
  have hlen := hA.len
  refine enter Tryz.func40 rfl Tryz.ntmps40 rfl ?_
  repeat (with_reducible first | refine c_seq ?_ | refine c_block ?_ | refine c_skip ?_ | refine x_then ?_ | refine x_block ?_)
  refine c_reg ?_
  refine l_pure rfl (s_asg  rfl ?_)
  refine l_nil ?_
  repeat (with_reducible first | refine c_seq ?_ | refine c_block ?_ | refine c_skip ?_ | refine x_then ?_ | refine x_block ?_)
  refine c_reg ?_
  refine l_pure rfl (s_asg  rfl ?_)
  refine l_nil ?_
  repeat (with_reducible first | refine c_seq ?_ | refine c_block ?_ | refine c_skip ?_ | refine x_then ?_ | refine x_block ?_)
  refine c_reg ?_
  refine l_pure rfl (s_asg  rfl ?_)
  refine l_nil ?_
  repeat (with_reducible first | refine c_seq ?_ | refine c_block ?_ | refine c_skip ?_ | refine x_then ?_ | refine x_block ?_)
  refine c_loop (σ := Nat) (fun i ρ w' => i ≤ n ∧ ρ 0 = v ∧ ρ 4 = .int .i64 i ∧ ∃ vo LO R, ρ 3 = vo ∧ MatG R i m (qM (RM A)) ∧ Gl enV 23 1 vo (R.map Rw.v) LO ∧ St w w' (R.map (Rw.blk encR 49) ++ LO)) (fun i => n - i) 0
    ⟨Nat.zero_le _, rfl, rfl, _, [], [], rfl, ⟨rfl, fun i hi => absurd hi (Nat.not_lt_zero _), fun i hi => absurd hi (Nat.not_lt_zero _)⟩, Gl.nil _ _ _, hS⟩ ?_
  clear hS
  rintro i ρ w2 ⟨hi, h0, h4, vo, LO, R, h3, hR, hG, hS⟩
  have hvl : (R.map Rw.v).length = i := by rw [List.length_map, hR.len]
  repeat (with_reducible first | refine c_seq ?_ | refine c_block ?_ | refine c_skip ?_ | refine x_then ?_ | refine x_block ?_)
  refine c_reg ?_
  refine l_pure rfl (s_move  h4 ?_)
  refine l_pure rfl (s_move  h0 ?_)
  refine l_pure rfl (s_lenr  rfl (hA.sl.below hS.below) ⟨_, Tryz.underlying22⟩ ?_)
  refine l_pure rfl (s_lss  rfl rfl ?_)
  refine l_nil ?_
  repeat (with_reducible first | refine c_seq ?_ | refine c_block ?_ | refine c_skip ?_ | refine x_then ?_ | refine x_block ?_)
  by_cases hlt : i < n
  · refine c_yes rfl (decide_eq_true (by omega)) ?_
    repeat (with_reducible first | refine c_seq ?_ | refine c_block ?_ | refine c_skip ?_ | refine x_then ?_ | refine x_block ?_)
    have hri := hA.row i (by omega)
    have hli := hev i hlt
    repeat (with_reducible first | refine c_seq ?_ | refine c_block ?_ | refine c_skip ?_ | refine x_then ?_ | refine x_block ?_)
    refine c_reg ?_
    refine l_pure rfl (s_move  h3 ?_)
    refine l_pure rfl (s_move  h0 ?_)
    refine l_pure rfl (s_move  h4 ?_)
    refine l_pure rfl (s_ixr (i := i)  rfl rfl (hA.sl.below hS.below) (by omega) (by first | omega | (simp; done) | (simp; omega)) si_22 ?_)
    refine l_read rfl (s_lde (i := i) undef  rfl vi_23 (hA.sl.below hS.below) (by first | omega | (simp; done) | (simp; omega)) rfl rfl (.inr rfl) ?_)
    refine l_heavy rfl (s_call Tryz.call41 rfl (lFixed_ok _ (A.getD i []) _ (hri.below hS.below) (hB _ (getD_mem A i [] (by omega))) (by omega)) ?_)
    rintro r w3 ⟨LF, hGF, hSF⟩
    rw [hli] at hGF
    obtain ⟨nr, hX, rfl, rfl, hc1, hc2, _⟩ := Gl_blk hGF (by intro e; have := congrArg List.length e; rw [tab_len] at this; simp at this; omega)
    replace hS := hS.join hSF
    clear hSF hGF
    replace hS : St w _ ((nr.blk encR 49 :: R.map (Rw.blk encR 49)) ++ LO) := hS
    have hR2 := MatG_snoc hR hX ⟨by rw [hX, tab_len] at hc1; exact hc1, hc2⟩
    refine l_heavy rfl (s_bsl (vs := [nr.v])  rfl si_22 rfl (by decide) (by decide) (by decide) (by simp [Value.cells, Rw.v]) rfl hS ?_)
    intro b17 wz1 hS hBz1
    refine l_heavy rfl (s_appl [nr.v]  rfl rfl si_22 (by decide) hG hS rfl rfl (fun _ => rfl) (fun u hu => by rw [List.mem_singleton.1 (show u ∈ [nr.v] from hu)]; rfl) (by first | omega | (simp only [List.length_cons, List.length_nil]; omega)) (by first | omega | (simp only [List.length_cons, List.length_nil]; omega)) ?_)
    intro va2 La2 wa2 hG hS hga2
    refine l_pure rfl (s_asg  rfl ?_)
    refine l_nil ?_
    repeat (with_reducible first | refine c_seq ?_ | refine c_block ?_ | refine c_skip ?_ | refine x_then ?_ | refine x_block ?_)
    rw [show R.map Rw.v ++ [nr.v] = (R ++ [nr]).map Rw.v by rw [List.map_append]; rfl] at hG
    have eb : ∀ T : List Blk, (nr.blk encR 49 :: R.map (Rw.blk encR 49) ++ T).Perm ((R ++ [nr]).map (Rw.blk encR 49) ++ T) := by
      intro T
      rw [List.map_append]
      exact List.Perm.append_right _ (List.perm_append_singleton _ _).symm
    replace hS := hS.perm (eb _)
    repeat (with_reducible first | refine c_seq ?_ | refine c_block ?_ | refine c_skip ?_ | refine x_then ?_ | refine x_block ?_)
    refine c_reg ?_
    refine l_pure rfl (s_move  h4 ?_)
    refine l_pure rfl (s_add  rfl rfl (IntWalk.i64_in _ (by omega)) ?_)
    refine l_pure rfl (s_asg  rfl ?_)
    refine l_nil ?_
    repeat (with_reducible first | refine c_seq ?_ | refine c_block ?_ | refine c_skip ?_ | refine x_then ?_ | refine x_block ?_)
    exact ⟨i + 1, _, rfl, ⟨hlt, by assumption, vi rfl (by omega), _, _, R ++ [nr], rfl, hR2, hG, hS⟩, by omega⟩
  · refine c_no rfl (decide_eq_false (by omega)) ?_
    repeat (with_reducible first | refine c_seq ?_ | refine c_block ?_ | refine c_skip ?_ | refine x_then ?_ | refine x_block ?_)
    refine c_exit ?_
    repeat (with_reducible first | refine x_then_exit ?_ | refine x_block_exit ?_ | refine x_block_pass rfl ?_)
    repeat (with_reducible first | refine c_seq ?_ | refine c_block ?_ | refine c_skip ?_ | refine x_then ?_ | refine x_block ?_)
    obtain rfl : n = i := by omega
    obtain ⟨_, ⟨_, h2, _⟩ | ⟨bo, cap, so, rfl, rfl, h5, h6, _⟩⟩ := hG
    · omega
    · rw [enV_flat] at hS
      rw [hvl] at h3 h5
      repeat (with_reducible first | refine c_seq ?_ | refine c_block ?_ | refine c_skip ?_ | refine x_then ?_ | refine x_block ?_)
      refine c_reg ?_
      refine l_pure rfl (s_move  h3 ?_)
      refine l_pure rfl (s_asg  rfl ?_)
      refine l_nil ?_
      repeat (with_reducible first | refine c_seq ?_ | refine c_block ?_ | refine c_skip ?_ | refine x_then ?_ | refine x_block ?_)
      refine c_ret ?_
      repeat (with_reducible first | refine x_then_ret ?_ | refine x_block_ret ?_)
      refine r_one rfl rfl ?_
      refine ⟨⟨bo, cap, so, R, rfl, h5, by unfold Go.maxLen at h6; omega, hR, hS.perm ?_⟩, hS.below⟩
      unfold mD
      rw [List.append_nil]
      exact List.perm_append_singleton _ _
end Go.Proofs.YtblfipdfklpmmaaGreatDoor
namespace Go.Proofs.YtblfipdfklpmmaaGreatDoor
open Go Go.RowKit Go.Sx
set_option maxHeartbeats 2000000 in
theorem rProduct_ok (v vx : Value) (n m : Nat) (M : Mx) (vs : List Value) (x : Nat → Rat) (K : Nat) (w : World) (hA : Mts encR 3 w v (tabM n m (qM M)) vs) (hX : Sl encR 3 w vx (tab m fun j => ofQ (x j))) (hn : n ≤ 1000) (hm : m ≤ 16) (hL : ∀ i, i < n → ∀ j, j < m → L (M i j) ≤ K ∧ L (x j) ≤ K) (hK : 1000 * K + 1000 ≤ MX) :
    Ret Tryz.prog 55 #[v, vx] w fun r w' => ∃ LO, Gl encR 49 3 r (tab n fun i => ofQ (dotM M x m i)) LO ∧ St w w' LO := by
  have hM : MX = 1099511627776 := rfl
  have hlen := hA.len
  rw [tabM_len] at hlen
  have hxl := tab_len m fun j => ofQ (x j)
  have hS := St.init w
  refine enter Tryz.func55 rfl Tryz.ntmps55 rfl ?_
  repeat (with_reducible first | refine c_seq ?_ | refine c_block ?_ | refine c_skip ?_ | refine x_then ?_ | refine x_block ?_)
  refine c_reg ?_
  refine l_pure rfl (s_asg  rfl ?_)
  refine l_nil ?_
  repeat (with_reducible first | refine c_seq ?_ | refine c_block ?_ | refine c_skip ?_ | refine x_then ?_ | refine x_block ?_)
  refine c_reg ?_
  refine l_pure rfl (s_asg  rfl ?_)
  refine l_nil ?_
  repeat (with_reducible first | refine c_seq ?_ | refine c_block ?_ | refine c_skip ?_ | refine x_then ?_ | refine x_block ?_)
  refine c_reg ?_
  refine l_pure rfl (s_asg  rfl ?_)
  refine l_nil ?_
  repeat (with_reducible first | refine c_seq ?_ | refine c_block ?_ | refine c_skip ?_ | refine x_then ?_ | refine x_block ?_)
  refine c_loop (σ := Nat) (fun i ρ w' => i ≤ n ∧ ρ 0 = v ∧ ρ 1 = vx ∧ ρ 6 = .int .i64 i ∧ ∃ vo LO, ρ 5 = vo ∧ Gl encR 49 3 vo (tab i fun i => ofQ (dotM M x m i)) LO ∧ St w w' ([] ++ LO)) (fun i => n - i) 0
    ⟨Nat.zero_le _, rfl, rfl, rfl, _, [], rfl, Gl.nil _ _ _, hS⟩ ?_
  clear hS
  rintro i ρ w2 ⟨hi, h0, h1, h6, vo, LO, h5, hG, hS⟩
  have htl := tab_len i fun i => ofQ (dotM M x m i)
  repeat (with_reducible first | refine c_seq ?_ | refine c_block ?_ | refine c_skip ?_ | refine x_then ?_ | refine x_block ?_)
  refine c_reg ?_
  refine l_pure rfl (s_move  h6 ?_)
  refine l_pure rfl (s_move  h0 ?_)
  refine l_pure rfl (s_lenr  rfl (hA.sl.below hS.below) ⟨_, Tryz.underlying22⟩ ?_)
  refine l_pure rfl (s_lss  rfl rfl ?_)
  refine l_nil ?_
  repeat (with_reducible first | refine c_seq ?_ | refine c_block ?_ | refine c_skip ?_ | refine x_then ?_ | refine x_block ?_)
  by_cases hlt : i < n
  · refine c_yes rfl (decide_eq_true (by omega)) ?_
    repeat (with_reducible first | refine c_seq ?_ | refine c_block ?_ | refine c_skip ?_ | refine x_then ?_ | refine x_block ?_)
    have hri := hA.row i (by rw [tabM_len]; exact hlt)
    rw [tabM_row _ hlt] at hri
    have hrl := tab_len m (qM M i)
    repeat (with_reducible first | refine c_seq ?_ | refine c_block ?_ | refine c_skip ?_ | refine x_then ?_ | refine x_block ?_)
    refine c_reg ?_
    refine l_pure rfl (s_build  rfl bz_49 ?_)
    refine l_heavy rfl (s_alloc  vi_49 hS ?_)
    intro b7 wz1 hS hBz1
    refine l_heavy rfl (s_sta (k := 0)  rfl rfl vi_49 hS rfl rfl rfl (Nat.le_of_ble_eq_true rfl) rfl ?_)
    intro wz2 hS
    refine l_nil ?_
    repeat (with_reducible first | refine c_seq ?_ | refine c_block ?_ | refine c_skip ?_ | refine x_then ?_ | refine x_block ?_)
    replace hS : St w _ (([(b7, 49, encR zRR)] : List Blk) ++ LO) := hS
    rw [encR_zero] at hS
    repeat (with_reducible first | refine c_seq ?_ | refine c_block ?_ | refine c_skip ?_ | refine x_then ?_ | refine x_block ?_)
    refine c_reg ?_
    refine l_pure rfl (s_asg  rfl ?_)
    refine l_nil ?_
    repeat (with_reducible first | refine c_seq ?_ | refine c_skip ?_ | refine x_then ?_ | refine x_block ?_)
    refine c_cut1 (fun ρ w' => ρ 0 = v ∧ ρ 1 = vx ∧ ρ 5 = vo ∧ ρ 6 = .int .i64 i ∧ ρ 7 = .pointer (some ⟨b7, 0, none⟩) ∧ St w w' (([(b7, 49, encR (ofQ (dotM M x m i)))] : List Blk) ++ LO)) ?_ ?_
    · repeat (with_reducible first | refine c_seq ?_ | refine c_block ?_ | refine c_skip ?_ | refine x_then ?_ | refine x_block ?_)
      refine c_loop (σ := Nat) (fun k ρ w' => k ≤ m ∧ ρ 0 = v ∧ ρ 1 = vx ∧ ρ 5 = vo ∧ ρ 6 = .int .i64 i ∧ ρ 7 = .pointer (some ⟨b7, 0, none⟩) ∧ ρ 8 = .int .i64 k ∧ St w w' (([(b7, 49, encR (ofQ (dotM M x k i)))] : List Blk) ++ LO)) (fun k => m - k) 0
        ⟨Nat.zero_le _, by assumption, by assumption, by assumption, by assumption, rfl, rfl, hS⟩ ?_
      clear hS
      rintro k ρ w3 ⟨hk, h0, h1, h5, h6, h7, h8, hS⟩
      repeat (with_reducible first | refine c_seq ?_ | refine c_block ?_ | refine c_skip ?_ | refine x_then ?_ | refine x_block ?_)
      refine c_reg ?_
      refine l_pure rfl (s_move  h8 ?_)
      refine l_pure rfl (s_move  h1 ?_)
      refine l_pure rfl (s_lenr  rfl (hX.below hS.below) ⟨_, Tryz.underlying23⟩ ?_)
      refine l_pure rfl (s_lss  rfl rfl ?_)
      refine l_nil ?_
      repeat (with_reducible first | refine c_seq ?_ | refine c_block ?_ | refine c_skip ?_ | refine x_then ?_ | refine x_block ?_)
      by_cases hkl : k < m
      · refine c_yes rfl (decide_eq_true (by omega)) ?_
        repeat (with_reducible first | refine c_seq ?_ | refine c_block ?_ | refine c_skip ?_ | refine x_then ?_ | refine x_block ?_)
        obtain ⟨q1, q2⟩ := hL i hlt k hkl
        have hLd := L_dot (A := M) (x := x) (K := K) (i := i) (m := m) (fun j hj => hL i hlt j hj) k (by omega)
        have hkK : k * (2 * K + 1) ≤ 16 * (2 * K + 1) := Nat.mul_le_mul_right _ (by omega)
        have hLm := L_mul (M i k) (x k)
        have hti := fun w => rTimes_ok (M i k) (x k) w (by omega)
        have hpl := fun w => rPlus_ok (dotM M x k i) (M i k * x k) w (by omega)
        have g1 : (tab m (qM M i)).getD k zRR = ofQ (M i k) := tab_get _ _ hkl
        have g2 : (tab m fun j => ofQ (x j)).getD k zRR = ofQ (x k) := tab_get _ _ hkl
        repeat (with_reducible first | refine c_seq ?_ | refine c_block ?_ | refine c_skip ?_ | refine x_then ?_ | refine x_block ?_)
        refine c_draw [(0, .read), (1, .pure), (2, .pure), (3, .pure), (4, .read), (5, .pure), (6, .pure), (7, .read), (8, .pure), (9, .pure), (10, .pure), (11, .read), (12, .grow), (13, .grow), (14, .free)] (by kernel_rfl) (by kernel_rfl) hS ?_
        intro wz3 hS hBz3
        refine w_read rfl rfl (s_ldo (k := 0)  h7 vi_49 hS rfl rfl rfl (.inl rfl) ?_)
        refine w_pure rfl rfl (s_move  h0 ?_)
        refine w_pure rfl rfl (s_move  h6 ?_)
        refine w_pure rfl rfl (s_ixr (i := i)  rfl rfl (hA.sl.below hS.below) (by omega) (by first | omega | (simp; done) | (simp; omega)) si_22 ?_)
        refine w_read rfl rfl (s_lde (i := i) undef  rfl vi_23 (hA.sl.below hS.below) (by first | omega | (simp; done) | (simp; omega)) rfl rfl (.inr rfl) ?_)
        refine w_pure rfl rfl (s_move  h8 ?_)
        refine w_pure rfl rfl (s_ixr (i := k)  rfl rfl (hri.below hS.below) (by omega) (by first | omega | (simp; done) | (simp; omega)) si_23 ?_)
        refine w_read rfl rfl (s_lde (i := k) zRR  rfl vi_49 (hri.below hS.below) (by first | omega | (simp; done) | (simp; omega)) rfl rfl (.inl rfl) ?_)
        refine w_pure rfl rfl (s_move  h1 ?_)
        refine w_pure rfl rfl (s_move  h8 ?_)
        refine w_pure rfl rfl (s_ixr (i := k)  rfl rfl (hX.below hS.below) (by omega) (by first | omega | (simp; done) | (simp; omega)) si_23 ?_)
        refine w_read rfl rfl (s_lde (i := k) zRR  rfl vi_49 (hX.below hS.below) (by first | omega | (simp; done) | (simp; omega)) rfl rfl (.inl rfl) ?_)
        rw [g1, g2]
        refine w_grow rfl rfl (s_call Tryz.call50 rfl (hti _) ?_)
        rintro _ wc4 ⟨rfl, hBc4⟩
        replace hS := hS.grow hBc4
        refine ⟨hBc4, ?_⟩
        refine w_grow rfl rfl (s_call Tryz.call83 rfl (hpl _) ?_)
        rintro _ wc5 ⟨rfl, hBc5⟩
        replace hS := hS.grow hBc5
        refine ⟨hBc5, ?_⟩
        refine w_free rfl rfl (s_sta (k := 0)  h7 rfl vi_49 hS rfl rfl rfl (Nat.le_of_ble_eq_true rfl) rfl ?_)
        intro wz6 hS
        refine w_end ?_
        repeat (with_reducible first | refine c_seq ?_ | refine c_block ?_ | refine c_skip ?_ | refine x_then ?_ | refine x_block ?_)
        replace hS : St w _ (([(b7, 49, encR (ofQ (dotM M x (k + 1) i)))] : List Blk) ++ LO) := hS
        repeat (with_reducible first | refine c_seq ?_ | refine c_block ?_ | refine c_skip ?_ | refine x_then ?_ | refine x_block ?_)
        refine c_reg ?_
        refine l_pure rfl (s_move  h8 ?_)
        refine l_pure rfl (s_add  rfl rfl (IntWalk.i64_in _ (by omega)) ?_)
        refine l_pure rfl (s_asg  rfl ?_)
        refine l_nil ?_
        repeat (with_reducible first | refine c_seq ?_ | refine c_block ?_ | refine c_skip ?_ | refine x_then ?_ | refine x_block ?_)
        exact ⟨k + 1, _, rfl, ⟨hkl, by assumption, by assumption, by assumption, by assumption, by assumption, vi rfl (by omega), hS⟩, by omega⟩
      · refine c_no rfl (decide_eq_false (by omega)) ?_
        repeat (with_reducible first | refine c_seq ?_ | refine c_block ?_ | refine c_skip ?_ | refine x_then ?_ | refine x_block ?_)
        refine c_exit ?_
        repeat (with_reducible first | refine x_then_exit ?_ | refine x_block_exit ?_ | refine x_block_pass rfl ?_)
        repeat (with_reducible first | refine c_seq ?_ | refine c_block ?_ | refine c_skip ?_ | refine x_then ?_ | refine x_block ?_)
        obtain rfl : m = k := by omega
        exact ⟨_, rfl, h0, h1, h5, h6, h7, hS⟩
    clear hS
    rintro ρ w3 ⟨h0, h1, h5, h6, h7, hS⟩
    repeat (with_reducible first | refine c_seq ?_ | refine c_block ?_ | refine c_skip ?_ | refine x_then ?_ | refine x_block ?_)
    refine c_reg ?_
    refine l_pure rfl (s_move  h5 ?_)
    refine l_read rfl (s_ldo (k := 0)  h7 vi_49 hS rfl rfl rfl (.inl rfl) ?_)
    refine l_heavy rfl (s_bsl (vs := [aggR (ofQ (dotM M x m i))])  rfl si_23 rfl (by decide) (by decide) (by decide) (by simp [Value.cells, aggR]) rfl hS ?_)
    intro b38 wz7 hS hBz7
    refine l_heavy rfl (s_appl [ofQ (dotM M x m i)]  rfl rfl si_23 (by decide) hG hS rfl rfl encR_len (encR_one [ofQ (dotM M x m i)]) (by first | omega | (simp only [List.length_cons, List.length_nil]; omega)) (by first | omega | (simp only [List.length_cons, List.length_nil]; omega)) ?_)
    intro va8 La8 wa8 hG hS hga8
    refine l_pure rfl (s_asg  rfl ?_)
    refine l_nil ?_
    repeat (with_reducible first | refine c_seq ?_ | refine c_block ?_ | refine c_skip ?_ | refine x_then ?_ | refine x_block ?_)
    rw [← tab_succ (f := fun i => ofQ (dotM M x m i))] at hG
    replace hS := hS.drop (List.sublist_cons_self _ _)
    repeat (with_reducible first | refine c_seq ?_ | refine c_block ?_ | refine c_skip ?_ | refine x_then ?_ | refine x_block ?_)
    refine c_reg ?_
    refine l_pure rfl (s_move  h6 ?_)
    refine l_pure rfl (s_add  rfl rfl (IntWalk.i64_in _ (by omega)) ?_)
    refine l_pure rfl (s_asg  rfl ?_)
    refine l_nil ?_
    repeat (with_reducible first | refine c_seq ?_ | refine c_block ?_ | refine c_skip ?_ | refine x_then ?_ | refine x_block ?_)
    exact ⟨i + 1, _, rfl, ⟨hlt, by assumption, by assumption, vi rfl (by omega), _, _, rfl, hG, hS⟩, by omega⟩
  · refine c_no rfl (decide_eq_false (by omega)) ?_
    repeat (with_reducible first | refine c_seq ?_ | refine c_block ?_ | refine c_skip ?_ | refine x_then ?_ | refine x_block ?_)
    refine c_exit ?_
    repeat (with_reducible first | refine x_then_exit ?_ | refine x_block_exit ?_ | refine x_block_pass rfl ?_)
    repeat (with_reducible first | refine c_seq ?_ | refine c_block ?_ | refine c_skip ?_ | refine x_then ?_ | refine x_block ?_)
    obtain rfl : n = i := by omega
    repeat (with_reducible first | refine c_seq ?_ | refine c_block ?_ | refine c_skip ?_ | refine x_then ?_ | refine x_block ?_)
    refine c_reg ?_
    refine l_pure rfl (s_move  h5 ?_)
    refine l_pure rfl (s_asg  rfl ?_)
    refine l_nil ?_
    repeat (with_reducible first | refine c_seq ?_ | refine c_block ?_ | refine c_skip ?_ | refine x_then ?_ | refine x_block ?_)
    refine c_ret ?_
    repeat (with_reducible first | refine x_then_ret ?_ | refine x_block_ret ?_)
    refine r_one rfl rfl ?_
    exact ⟨LO, hG, hS⟩
theorem RBM_mono {K K' : Nat} {A : List (List RR)} (h : RBM K A) (hk : K ≤ K') : RBM K' A := fun a ha => RB_mono (h a ha) hk
theorem rApply_ok (v vx : Value) (A : List (List RR)) (vs : List Value) (X : List RR) (K : Nat) (w : World) (hA : Mts encR 3 w v A vs) (hX : Sl encR 3 w vx X) (hB : RBM K A) (hBX : RB K X) (hK : 1000 * K + 1000 ≤ MX) :
    Ret Tryz.prog 25 #[v, vx] w fun r w' => (∃ v', r = .tuple #[v', .int .i64 (apE A X)] ∧ Sl encR 3 w' v' (apL A X)) ∧ Below w.heap.size w w' := by
  have hM : MX = 1099511627776 := rfl
  have hno : apE A X ≠ 0 → apL A X = [] := fun h => if_neg h
  have hS := St.init w
  have hlen := hA.len
  have hmx := hX.maxLen
  refine enter Tryz.func25 rfl Tryz.ntmps25 rfl ?_
  repeat (with_reducible first | refine c_seq ?_ | refine c_block ?_ | refine c_skip ?_ | refine x_then ?_ | refine x_block ?_)
  refine c_reg ?_
  refine l_pure rfl (s_asg  rfl ?_)
  refine l_pure rfl (s_asg  rfl ?_)
  refine l_nil ?_
  repeat (with_reducible first | refine c_seq ?_ | refine c_block ?_ | refine c_skip ?_ | refine x_then ?_ | refine x_block ?_)
  refine c_reg ?_
  refine l_pure rfl (s_move  rfl ?_)
  refine l_heavy rfl (s_call Tryz.call38 rfl (rshape_ok v A vs _ (hA.below hS.below)) ?_)
  rintro _ wc1 ⟨rfl, hBc1⟩
  replace hS := hS.grow hBc1
  refine l_pure rfl (s_asg  rfl ?_)
  refine l_nil ?_
  repeat (with_reducible first | refine c_seq ?_ | refine c_block ?_ | refine c_skip ?_ | refine x_then ?_ | refine x_block ?_)
  refine c_reg ?_
  refine l_pure rfl (s_move  rfl ?_)
  refine l_pure rfl (s_neq  rfl rfl ?_)
  refine l_nil ?_
  repeat (with_reducible first | refine c_seq ?_ | refine c_block ?_ | refine c_skip ?_ | refine x_then ?_ | refine x_block ?_)
  by_cases he : shpE A ≠ 0
  · have e1 : apE A X = shpE A := if_pos he
    refine c_yes rfl (decide_eq_true (by omega)) ?_
    repeat (with_reducible first | refine c_seq ?_ | refine c_block ?_ | refine c_skip ?_ | refine x_then ?_ | refine x_block ?_)
    refine c_reg ?_
    refine l_pure rfl (s_move  rfl ?_)
    refine l_pure rfl (s_asg  rfl ?_)
    refine l_pure rfl (s_asg  rfl ?_)
    refine l_nil ?_
    repeat (with_reducible first | refine c_seq ?_ | refine c_block ?_ | refine c_skip ?_ | refine x_then ?_ | refine x_block ?_)
    refine c_ret ?_
    repeat (with_reducible first | refine x_then_ret ?_ | refine x_block_ret ?_)
    refine r_two rfl rfl rfl ?_
    refine ⟨⟨_, by rw [e1]; rfl, ?_⟩, hS.below⟩
    rw [hno (by rw [e1]; exact he)]; exact Sl.nil _ _ _
  replace he := Decidable.not_not.1 he
  obtain ⟨h1, h2, h3, h4, h5⟩ := shpE_zero he
  have hr0 := hA.row 0 (by omega)
  have hc0 : colsA A = (A.getD 0 []).length := rfl
  refine c_no rfl (decide_eq_false (by omega)) ?_
  repeat (with_reducible first | refine c_seq ?_ | refine c_block ?_ | refine c_skip ?_ | refine x_then ?_ | refine x_block ?_)
  refine c_reg ?_
  refine l_pure rfl (s_move  rfl ?_)
  refine l_pure rfl (s_lenr  rfl (hX.below hS.below) ⟨_, Tryz.underlying23⟩ ?_)
  refine l_pure rfl (s_move  rfl ?_)
  refine l_pure rfl (s_ixr (i := 0)  rfl rfl (hA.sl.below hS.below) (by omega) (by first | omega | (simp; done) | (simp; omega)) si_22 ?_)
  refine l_read rfl (s_lde (i := 0) undef  rfl vi_23 (hA.sl.below hS.below) (by first | omega | (simp; done) | (simp; omega)) rfl rfl (.inr rfl) ?_)
  refine l_pure rfl (s_lenr  rfl (hr0.below hS.below) ⟨_, Tryz.underlying23⟩ ?_)
  refine l_pure rfl (s_neq  rfl rfl ?_)
  refine l_nil ?_
  repeat (with_reducible first | refine c_seq ?_ | refine c_block ?_ | refine c_skip ?_ | refine x_then ?_ | refine x_block ?_)
  by_cases hx : X.length ≠ colsA A
  · have e1 : apE A X = 4 := by unfold apE; rw [if_neg (by omega), if_pos hx]
    refine c_yes rfl (decide_eq_true (by omega)) ?_
    repeat (with_reducible first | refine c_seq ?_ | refine c_block ?_ | refine c_skip ?_ | refine x_then ?_ | refine x_block ?_)
    refine c_reg ?_
    refine l_pure rfl (s_asg  rfl ?_)
    refine l_pure rfl (s_asg  rfl ?_)
    refine l_nil ?_
    repeat (with_reducible first | refine c_seq ?_ | refine c_block ?_ | refine c_skip ?_ | refine x_then ?_ | refine x_block ?_)
    refine c_ret ?_
    repeat (with_reducible first | refine x_then_ret ?_ | refine x_block_ret ?_)
    refine r_two rfl rfl rfl ?_
    refine ⟨⟨_, by rw [e1]; rfl, ?_⟩, hS.below⟩
    rw [hno (by rw [e1]; decide)]; exact Sl.nil _ _ _
  replace hx := Decidable.not_not.1 hx
  have e1 : apE A X = 0 := by unfold apE; rw [if_neg (by omega), if_neg (by omega)]
  have e2 : apL A X = tab A.length fun i => ofQ (dotM (RM A) (VX X) (colsA A) i) := if_pos e1
  rw [e1, e2]
  refine c_no rfl (decide_eq_false (by omega)) ?_
  repeat (with_reducible first | refine c_seq ?_ | refine c_block ?_ | refine c_skip ?_ | refine x_then ?_ | refine x_block ?_)
  refine c_reg ?_
  refine l_pure rfl (s_move  rfl ?_)
  refine l_heavy rfl (s_call Tryz.call40 rfl (lfixedRows_ok v A vs (colsA A) _ (hA.below hS.below) h1 (by omega) h3 (by omega) h5 (RBM_mono hB (by omega))) ?_)
  rintro r w2 ⟨⟨bo, cap, so, R, rfl, hc1, hc2, hR, hS2⟩, hB2⟩
  replace hS := hS.grow hB2
  have hmt := hR.mtsD [] hS2 encR_len hc1 hc2
  clear hS2
  refine l_pure rfl (s_move  rfl ?_)
  refine l_heavy rfl (s_call Tryz.call41 rfl (lFixed_ok vx X _ (hX.below hS.below) (RB_mono hBX (by omega)) (by omega)) ?_)
  rintro vf w3 ⟨LF, hGF, hSF⟩
  have hsf := hGF.sl (H := []) hSF encR_len
  rw [hx] at hsf
  replace hmt := hmt.below hSF.below
  replace hS := hS.grow hSF.below
  clear hSF hGF
  refine l_heavy rfl (s_call Tryz.call55 rfl (rProduct_ok _ _ A.length (colsA A) (RM A) _ (VX X) K _ hmt hsf (by omega) (by omega) (fun i hi j hj => ⟨RM_L hB hi (by rw [h5 i hi]; exact hj), Nat.le_trans (L_toQ _) (hBX _ (getD_mem X j zRR (by omega)))⟩) hK) ?_)
  rintro vo w4 ⟨LO, hGO, hSO⟩
  have hso := hGO.sl (H := []) hSO encR_len
  replace hS := hS.grow hSO.below
  refine l_pure rfl (s_asg  rfl ?_)
  refine l_pure rfl (s_asg  rfl ?_)
  refine l_nil ?_
  repeat (with_reducible first | refine c_seq ?_ | refine c_block ?_ | refine c_skip ?_ | refine x_then ?_ | refine x_block ?_)
  refine c_ret ?_
  repeat (with_reducible first | refine x_then_ret ?_ | refine x_block_ret ?_)
  refine r_two rfl rfl rfl ?_
  exact ⟨⟨_, rfl, hso⟩, hS.below⟩
end Go.Proofs.YtblfipdfklpmmaaGreatDoor
