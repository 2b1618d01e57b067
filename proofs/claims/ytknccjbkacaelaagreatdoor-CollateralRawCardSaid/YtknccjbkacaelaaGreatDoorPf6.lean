/-
  Part 6 of the texts that the law's proof is made of: the framework and the walks.
-/
import Derived.Test.YtknccjbkacaelaaGreatDoorPf5
import Derived.ProofKit
import Derived.OpenShut
import Derived.LaidMore
import Derived.Lay
import Derived.ChangeSlices
import Derived.Carry
import Derived.WideShapes
import Derived.Test.YtknccjbkacaelaaGreatDoorTie
import Derived.SevenTiedAt
import Derived.Stop.Joined
namespace Go.Sx
open Go Go.RowKit
section
variable {P : Program} {N : Nat} {ρ : Nat → Value} {w w0 : World} {H : List Blk}
  {d : Option Tmp} {ty : TypeId} {pos : String} {aft : Array Edge} {g : Option (Nat × Bool)} {x y : Operand} {t e : TypeId} {v vs : Value} {K2 : Value → World → Prop}
theorem s_stG {α : Type} {enc : α → List Value} {size : Nat} {X : List α} {L : List Blk} {i : Nat} {zz : List Value} {agg : Bool} (u : α) (hu : ∀ x, (enc x).length = size) (hx : ev N ρ x = .pointer (some ((sbase vs).add (i * size)))) (hy : ev N ρ y = v) (ht : vinfo P t = some (size, agg, zz)) (hG : Gl enc e size vs X L) (hS : St w0 w (H ++ L))
    (hi : i < X.length) (hv : v.cells.toList = enc u) (h1 : (enc u).all (·.oneCell') = true)
    (h : ∀ w', (∃ L', Gl enc e size vs (X.set i u) L' ∧ St w0 w' (H ++ L')) → K2 undef w') : Hup1 P N ρ w ⟨d, .store t x y, ty, pos, aft, g⟩ K2 := by
  obtain ⟨hX, ⟨rfl, h0, _⟩ | ⟨b, cap, spare, rfl, rfl, h2, h3, h4⟩⟩ := hG
  · omega
  have hx' : ev N ρ x = .pointer (some ⟨b, i * size, none⟩) := by
    rw [hx]
    show Value.pointer (some ((⟨b, 0, none⟩ : Addr).add (i * size))) = _
    rw [add_lit, Nat.zero_add]
  have hk : (H ++ [(b, e, X.flatMap enc ++ spare)])[H.length]? = some (b, e, X.flatMap enc ++ spare) := by simp
  have hfit : i * size + size ≤ (X.flatMap enc).length := by
    rw [hX]
    have : (i + 1) * size ≤ X.length * size := Nat.mul_le_mul_right _ hi
    rw [Nat.add_mul] at this; omega
  refine s_sta hx' hy ht hS hk hv (hu u) (by rw [List.length_append]; omega) h1 (fun w' hS' => ?_)
  have hsp : splice (X.flatMap enc ++ spare) (i * size) (enc u) = (X.set i u).flatMap enc ++ spare := by
    rw [← flat_set hu X u hi]
    unfold splice
    rw [List.take_append_of_le_length (by omega), List.drop_append_of_le_length (by rw [hu]; exact hfit)]
    simp only [List.append_assoc]
  rw [hsp] at hS'
  refine h w' ⟨[(b, e, (X.set i u).flatMap enc ++ spare)], ⟨?_, .inr ⟨b, cap, spare, by rw [List.length_set], rfl, by rw [List.length_set]; exact h2, h3, ?_⟩⟩, hS'.cast (by simp)⟩
  · rw [List.length_set, ← hX, ← flat_set hu X u hi]
    unfold splice
    simp only [List.length_append, List.length_take, List.length_drop, hu]
    omega
  · rw [← h4, List.length_append, List.length_append, ← flat_set hu X u hi]
    unfold splice
    simp only [List.length_append, List.length_take, List.length_drop, hu]
    omega
end
end Go.Sx
namespace Go.Proofs.YtknccjbkacaelaaGreatDoor
open Go Go.RowKit Go.Sx
theorem firstE_zero {α : Type} {f : α → Int} {l : List α} (h : firstE f l = 0) : ∀ x ∈ l, f x = 0 := by
  induction l with
  | nil => intro x hx; cases hx
  | cons y l ih =>
    intro x hx
    rw [firstE] at h
    by_cases hy : f y = 0
    · rw [if_pos hy] at h
      rcases List.mem_cons.1 hx with rfl | hx
      · exact hy
      · exact ih h x hx
    · rw [if_neg hy] at h; exact absurd h hy
theorem chErr_zero {m : Nat} {c : Ch} (h : chErr m c = 0) : 0 ≤ c.claim ∧ c.claim < m := by
  unfold chErr at h
  by_cases g : c.claim < 0 ∨ (m : Int) ≤ c.claim
  · rw [if_pos g] at h; cases h
  · omega
theorem itErr_zero {m : Nat} {x : It} (h : itErr m x = 0) : x.charges.length ≤ 8 ∧ 0 ≤ toQ x.price ∧ 0 ≤ toQ x.costs ∧ ∀ c ∈ x.charges, chErr m c = 0 := by
  unfold itErr at h
  by_cases g : 8 < x.charges.length
  · rw [if_pos g] at h; cases h
  · rw [if_neg g] at h
    by_cases g2 : toQ x.price < 0 ∨ toQ x.costs < 0
    · rw [if_pos g2] at h; cases h
    · rw [if_neg g2] at h
      refine ⟨by omega, ?_, ?_, firstE_zero h⟩
      · exact Rat.not_lt.1 fun q => g2 (.inl q)
      · exact Rat.not_lt.1 fun q => g2 (.inr q)
theorem checkE_zero {X : List It} {owed : List RR} (h : checkE X owed = 0) : X.length ≤ 8 ∧ owed.length ≤ 24 ∧ negs owed = false ∧ (∀ x ∈ X, itErr owed.length x = 0) ∧ ∀ x ∈ X, ∀ c ∈ x.charges, 0 ≤ c.claim ∧ c.claim < owed.length := by
  unfold checkE at h
  by_cases g : 8 < X.length ∨ 24 < owed.length
  · rw [if_pos g] at h; cases h
  · rw [if_neg g] at h
    by_cases g2 : negs owed = true
    · rw [if_pos g2] at h; cases h
    · rw [if_neg g2] at h
      have h3 := firstE_zero h
      exact ⟨by omega, by omega, by simpa using g2, h3, fun x hx c hc => chErr_zero ((itErr_zero (h3 x hx)).2.2.2 c hc)⟩
theorem ItB_mono {k l : Nat} {X : List It} (h : ItB k X) (hkl : k ≤ l) : ItB l X := fun x hx => by
  obtain ⟨a, b, c⟩ := h x hx
  exact ⟨by omega, by omega, fun y hy => Nat.le_trans (c y hy) hkl⟩
theorem RB_mono {k l : Nat} {X : List RR} (h : RB k X) (hkl : k ≤ l) : RB l X := fun x hx => Nat.le_trans (h x hx) hkl
end Go.Proofs.YtknccjbkacaelaaGreatDoor
namespace Go.Proofs.YtknccjbkacaelaaGreatDoor
open Go Go.RowKit Go.Sx
def enI (c : Int) : List Value := [.int .i64 c]
end Go.Proofs.YtknccjbkacaelaaGreatDoor
namespace Go.Proofs.YtknccjbkacaelaaGreatDoor
open Go Go.RowKit Go.Sx
/-- What has been paid to each claim, and what is left of each item. -/
structure GS where
  out : Nat → Rat
  p : Nat → Rat
def pay (owed : List RR) (s : GS) (c i : Nat) : Rat := minQ (owF owed c - s.out c) (s.p i)
def gst (X : List It) (owed : List RR) (s : GS) (c i : Nat) : GS :=
  if secures (X.getD i zIt) c = true then
    ⟨fun k => if k = c then s.out c + pay owed s c i else s.out k, fun k => if k = i then s.p i - pay owed s c i else s.p k⟩
  else s
def grow (X : List It) (owed : List RR) (c : Nat) (s : GS) : Nat → GS
  | 0 => s
  | i + 1 => gst X owed (grow X owed c s i) c i
end Go.Proofs.YtknccjbkacaelaaGreatDoor
namespace Go.Sx
open Go Go.RowKit
section
variable {P : Program} {ops : Array Oper} {Kend : Act → World → Prop} {n x : Nat} {ox : Oper}
/-- The operations σ in their order, and x (that makes memory) at any place among them. -/
def allw (P : Program) (ops : Array Oper) (Kend : Act → World → Prop) (n x : Nat) (ox : Oper) : List (Nat × Md) → Act → World → Prop
  | [], a, w => rstep P ops .grow ox a w Kend
  | (y, m) :: σ, a, w => rstep P ops .grow ox a w (wr P ops Kend ((y, m) :: σ)) ∧ (tdep ops n y x = false → match ops[y]? with
    | some oy => rstep P ops m oy a w (allw P ops Kend n x ox σ)
    | none => False)
theorem allw_now {σ : List (Nat × Md)} {a : Act} {w : World} (h : allw P ops Kend n x ox σ a w) : rstep P ops .grow ox a w (wr P ops Kend σ) := by
  cases σ with
  | nil => exact rstep_mono (fun a w h => h) h
  | cons y σ => exact h.1
theorem allw_fold {y : Nat} {m : Md} {oy : Oper} {σ : List (Nat × Md)} {a : Act} {w : World} (hs : noSel ops) (hx : ops[x]? = some ox) (hy : ops[y]? = some oy) (hsw : swapOk ops (y, m) (x, .grow) = true)
    (h : rstep P ops m oy a w (allw P ops Kend n x ox σ)) : allw P ops Kend n x ox ((y, m) :: σ) a w := by
  refine ⟨?_, fun _ => by rw [hy]; exact h⟩
  have h1 : rstep P ops m oy a w (fun a w => rstep P ops .grow ox a w (wr P ops Kend σ)) := rstep_mono (fun a w g => allw_now g) h
  refine rstep_mono (fun a w g => ?_) (rswap hy hx (fun cs b => hs y oy cs b hy) (fun cs b => hs x ox cs b hx) hsw h1)
  simp only [wr, hy]
  exact g
theorem rstep_both {o : Oper} {a : Act} {w : World} {K K' : Act → World → Prop} (h : rstep P ops .pure o a w K) (h' : rstep P ops .pure o a w K') : rstep P ops .pure o a w (fun a w => K a w ∧ K' a w) := by
  by_cases hw : Region.wanted o (yielded ops a.tmps) = true
  · rw [rstep_pure hw] at h h' ⊢
    obtain ⟨v, g1, g2⟩ := h
    obtain ⟨v', g1', g2'⟩ := h'
    have e1 := g1 w
    have e2 := g1' w
    rw [e1] at e2
    obtain rfl : v = v' := by simpa using e2
    exact ⟨v, g1, g2, g2'⟩
  · rw [rstep_off hw] at h h' ⊢
    exact ⟨h, h'⟩
theorem all_front (hs : noSel ops) (hx : ops[x]? = some ox) {i : Nat} {m : Md} {oi : Oper} (hi : ops[i]? = some oi) (hix : tdep ops n i x = false) {post : List (Nat × Md)} :
    ∀ (pre : List (Nat × Md)) (a : Act) (w : World), (∀ y ∈ pre, swapOk ops y (i, m) = true) → (∀ y ∈ pre, (m = .pure ∧ swapOk ops (x, .grow) (i, m) = true) ∨ (tdep ops n y.1 x = false ∧ swapOk ops y (x, .grow) = true)) →
      allw P ops Kend n x ox (pre ++ (i, m) :: post) a w → rstep P ops m oi a w (allw P ops Kend n x ox (pre ++ post))
  | [], a, w, _, _, h => by
    have := h.2 hix
    rw [hi] at this
    exact this
  | (y, my) :: pre, a, w, hp, hf, h => by
    obtain ⟨h1, h2⟩ := h
    have hp' : ∀ z ∈ pre, swapOk ops z (i, m) = true := fun z hz => hp z (List.mem_cons_of_mem _ hz)
    have hf' := fun z hz => hf z (List.mem_cons_of_mem _ hz)
    have hyi := hp (y, my) (List.mem_cons_self ..)
    cases hy : ops[y]? with
    | none =>
      unfold swapOk at hyi
      simp only [hy] at hyi
      cases hyi
    | some oy =>
      have hB : tdep ops n y x = false → rstep P ops m oi a w (fun a w => rstep P ops my oy a w (allw P ops Kend n x ox (pre ++ post))) := fun hd => by
        have g := h2 hd
        rw [hy] at g
        exact rswap hy hi (fun cs b => hs y oy cs b hy) (fun cs b => hs i oi cs b hi) hyi (rstep_mono (fun a w g => all_front hs hx hi hix pre a w hp' hf' g) g)
      rcases hf (y, my) (List.mem_cons_self ..) with ⟨rfl, hsx⟩ | ⟨hd, hsy⟩
      · have hA : rstep P ops .pure oi a w (fun a w => rstep P ops .grow ox a w (wr P ops Kend ((y, my) :: (pre ++ post)))) :=
          rswap hx hi (fun cs b => hs x ox cs b hx) (fun cs b => hs i oi cs b hi) hsx (rstep_mono (fun a w g => wr_front hs hi ((y, my) :: pre) a w hp g) h1)
        by_cases hd : tdep ops n y x = false
        · refine rstep_mono (fun a w g => ?_) (rstep_both hA (hB hd))
          exact ⟨g.1, fun _ => by rw [hy]; exact g.2⟩
        · exact rstep_mono (fun a w g => ⟨g, fun q => absurd q hd⟩) hA
      · exact rstep_mono (fun a w g => allw_fold hs hx hy hsy g) (hB hd)
def floatOk (ops : Array Oper) (n x : Nat) : List (Nat × Md) → Bool
  | [] => true
  | y :: σ => !Nat.beq y.1 x && (σ.all fun i => tdep ops n i.1 x || tdep ops n i.1 y.1 || ((match i.2 with | .pure => true | _ => false) && swapOk ops (x, .grow) i) || (!tdep ops n y.1 x && swapOk ops y (x, .grow))) && floatOk ops n x σ
theorem floatOk_erase {z : Nat × Md} : ∀ {σ τ : List (Nat × Md)}, floatOk ops n x (σ ++ z :: τ) = true → floatOk ops n x (σ ++ τ) = true
  | [], τ, h => by simp only [List.nil_append, floatOk, Bool.and_eq_true] at h ⊢; exact h.2
  | y :: σ, τ, h => by
    simp only [List.cons_append, floatOk, Bool.and_eq_true, List.all_append, List.all_cons] at h ⊢
    exact ⟨⟨h.1.1, h.1.2.1, h.1.2.2.2⟩, floatOk_erase h.2⟩
theorem floatOk_pre {i : Nat} {m : Md} : ∀ {pre post : List (Nat × Md)}, floatOk ops n x (pre ++ (i, m) :: post) = true → ∀ y ∈ pre, y.1 ≠ x ∧ (tdep ops n i x = true ∨ tdep ops n i y.1 = true ∨ (m = .pure ∧ swapOk ops (x, .grow) (i, m) = true) ∨ (tdep ops n y.1 x = false ∧ swapOk ops y (x, .grow) = true))
  | [], _, _, y, hy => by cases hy
  | z :: pre, post, h, y, hy => by
    simp only [List.cons_append, floatOk, Bool.and_eq_true, List.all_append, List.all_cons] at h
    rcases List.mem_cons.1 hy with rfl | hy
    · refine ⟨beq_ne h.1.1, ?_⟩
      have h1 := h.1.2.2.1
      simp only [Bool.or_eq_true, Bool.and_eq_true, Bool.not_eq_true'] at h1
      rcases h1 with ((h1 | h1) | h1) | h1
      · exact .inl h1
      · exact .inr (.inl h1)
      · refine .inr (.inr (.inl ⟨?_, h1.2⟩))
        cases m <;> first | rfl | (exfalso; exact absurd h1.1 (by decide))
      · exact .inr (.inr (.inr h1))
    · exact floatOk_pre h.2 y hy
theorem floatOk_ne : ∀ {σ : List (Nat × Md)}, floatOk ops n x σ = true → ∀ y ∈ σ, y.1 ≠ x
  | [], _, y, hy => by cases hy
  | z :: σ, h, y, hy => by
    simp only [floatOk, Bool.and_eq_true] at h
    rcases List.mem_cons.1 hy with rfl | hy
    · exact beq_ne h.1.1
    · exact floatOk_ne h.2 y hy
theorem wpAny_of_all {Q : Exit → Act → World → Prop} (hs : noSel ops) (hQ : ∀ a w, Kend a w → Q .normal a w) (hx : ops[x]? = some ox) (hxd : ∀ e ∈ ox.after, Region.binds .any e = false) :
    ∀ (fuel : Nat) (σ : List (Nat × Md)) (listed : Array Bool) (a : Act) (w : World), σ.length + 1 ≤ fuel → listed.size = ops.size → closed ops listed →
      (∀ i, listed.getD i true = false ↔ i = x ∨ ∃ m, (i, m) ∈ σ) → pairsOk ops n σ = true → topoOk ops ((x, .grow) :: σ) = true → floatOk ops n x σ = true → allw P ops Kend n x ox σ a w → wpAny P .any ops Q fuel listed a w := by
  intro fuel
  induction fuel with
  | zero => intro σ listed a w hlen; omega
  | succ fuel ih =>
    intro σ listed a w hlen hsz hc hl hp ht hf h
    have hxun : listed.getD x true = false := (hl x).2 (.inl rfl)
    refine ⟨fun hr => ?_, fun i hi => ?_⟩
    · exfalso
      have hxr : x ∈ Region.ready .any ops listed := mem_ready.2 ⟨hxun, ox, hx, fun e he hb => by rw [hxd e he] at hb; cases hb⟩
      rw [hr] at hxr
      cases hxr
    · obtain ⟨hun, oi, hoi, hdeps⟩ := mem_ready.1 hi
      have hilt : i < listed.size := by
        rcases Nat.lt_or_ge i listed.size with h2 | h2
        · exact h2
        · simp [Array.getD, Nat.not_lt.2 h2] at hun
      have hclosed : closed ops (listed.setIfInBounds i true) := by
        intro j o hj hjl e he hb
        by_cases hji : j = i
        · subst hji
          rw [hoi] at hj
          obtain rfl := Option.some.inj hj
          exact getD_set_true (hdeps e he hb)
        · rw [getD_set_ne true (Ne.symm hji)] at hjl
          exact getD_set_true (hc j o hj hjl e he hb)
      have hself : ∀ {p : Prop}, ¬ p → ((listed.setIfInBounds i true).getD i true = false ↔ p) := fun hnp =>
        ⟨fun hf => by simp [Array.getD, hilt] at hf, fun q => absurd q hnp⟩
      have hne := floatOk_ne hf
      by_cases hix : i = x
      · subst hix
        rw [hx] at hoi
        obtain rfl := Option.some.inj hoi
        refine wpOp_of_rstep hx (rstep_mono (fun a w hh => ?_) (allw_now h))
        simp only [topoOk, Bool.and_eq_true] at ht
        refine wpAny_of_wr hs hQ n fuel σ (listed.setIfInBounds i true) a w (by omega) (by simpa using hsz) hclosed ?_ hp ht.2 hh
        intro j
        by_cases hji : j = i
        · subst hji
          exact hself fun ⟨m, hm⟩ => hne _ hm rfl
        · rw [getD_set_ne true (Ne.symm hji), hl j]
          exact ⟨fun q => q.resolve_left hji, .inr⟩
      · obtain ⟨m, hm⟩ := ((hl i).1 hun).resolve_left hix
        obtain ⟨pre, post, rfl⟩ := List.append_of_mem hm
        have hlst : ∀ k, listed.getD k true = false → tdep ops n i k = true → False := fun k hk hd => by
          have h2 := tdep_listed hc n i k (fun o ho e he hb => by rw [hoi] at ho; obtain rfl := Option.some.inj ho; exact hdeps e he hb) hd
          rcases Nat.lt_or_ge k listed.size with hlt | hlt
          · simp only [Array.getD, hlt, dite_true] at h2 hk
            rw [h2] at hk; cases hk
          · simp [Array.getD, Nat.not_lt.2 hlt] at h2
        have hnd : ∀ y ∈ pre, y.1 ≠ i ∧ (tdep ops n i y.1 = true ∨ swapOk ops y (i, m) = true) := by
          clear ih h hl hlen ht hm hlst hf hne
          induction pre with
          | nil => intro y hy; cases hy
          | cons z pre ihp =>
            simp only [List.cons_append, pairsOk, Bool.and_eq_true, List.all_append, List.all_cons] at hp
            intro y hy
            rcases List.mem_cons.1 hy with rfl | hy
            · have h1 := hp.1.2.1
              rw [Bool.or_eq_true] at h1
              exact ⟨beq_ne h1.1, h1.2⟩
            · exact ihp hp.2 y hy
        have hpost : ∀ y ∈ post, i ≠ y.1 := by
          clear ih h hl hlen ht hm hnd hlst hf hne
          induction pre with
          | nil =>
            simp only [List.nil_append, pairsOk, Bool.and_eq_true] at hp
            intro y hy
            have := List.all_eq_true.1 hp.1 y hy
            simp only [Bool.and_eq_true] at this
            exact beq_ne this.1
          | cons z pre ihp =>
            simp only [List.cons_append, pairsOk, Bool.and_eq_true] at hp
            exact ihp hp.2
        have hyun : ∀ y ∈ pre, listed.getD y.1 true = false := fun y hy => (hl y.1).2 (.inr ⟨y.2, by simp [hy]⟩)
        have hsw : ∀ y ∈ pre, swapOk ops y (i, m) = true := fun y hy => (hnd y hy).2.resolve_left fun q => hlst _ (hyun y hy) q
        have hixd : tdep ops n i x = false := by
          cases hd : tdep ops n i x with
          | false => rfl
          | true => exact (hlst x hxun hd).elim
        have hfl : ∀ y ∈ pre, (m = .pure ∧ swapOk ops (x, .grow) (i, m) = true) ∨ (tdep ops n y.1 x = false ∧ swapOk ops y (x, .grow) = true) := fun y hy => by
          rcases (floatOk_pre hf y hy).2 with q | q | q
          · rw [hixd] at q; cases q
          · exact (hlst _ (hyun y hy) q).elim
          · exact q
        refine wpOp_of_rstep hoi (rstep_mono (fun a w hh => ?_) (all_front hs hx hoi hixd pre a w hsw hfl h))
        refine ih (pre ++ post) (listed.setIfInBounds i true) a w (by simp at hlen ⊢; omega) (by simpa using hsz) hclosed ?_ (pairsOk_erase hp) (topoOk_erase (σ := (x, .grow) :: pre) ht) (floatOk_erase hf) hh
        intro j
        by_cases hji : j = i
        · subst hji
          refine hself ?_
          rintro (q | ⟨m', hm'⟩)
          · exact hix q
          · rcases List.mem_append.1 hm' with h1 | h1
            · exact absurd rfl (hnd _ h1).1
            · exact absurd rfl (hpost _ h1)
        · rw [getD_set_ne true (Ne.symm hji), hl j]
          constructor
          · rintro (q | ⟨m', hm'⟩)
            · exact .inl q
            · refine .inr ⟨m', ?_⟩
              rcases List.mem_append.1 hm' with h1 | h1
              · simp [h1]
              · rcases List.mem_cons.1 h1 with h2 | h2
                · exact absurd (congrArg Prod.fst h2) hji
                · simp [h2]
          · rintro (q | ⟨m', hm'⟩)
            · exact .inl q
            · refine .inr ⟨m', ?_⟩
              rcases List.mem_append.1 hm' with h1 | h1
              · simp [h1]
              · simp [h1]
def drawFOk (ops : Array Oper) (x : Nat) (σ : List (Nat × Md)) : Bool :=
  Nat.ble (σ.length + 1) ops.size && (List.range ops.size).all (fun i => Nat.beq x i || σ.any fun x => Nat.beq x.1 i) && σ.all (fun x => Nat.blt x.1 ops.size) && pairsOk ops ops.size σ && topoOk ops ((x, .grow) :: σ) && floatOk ops ops.size x σ &&
  (match ops[x]? with | some o => o.after.all fun e => !Region.binds .any e | none => false) &&
  ops.all fun o => match o.op with | .select .. => false | _ => true
end
/-- A region's walk, x not yet carried out. -/
structure Wx (P : Program) (ops : Array Oper) (Kend : Act → World → Prop) (x : Nat) (σ : List (Nat × Md)) (N : Nat) (ρ : Nat → Value) (w : World) : Prop where
  out : noSel ops → ∀ ox, ops[x]? = some ox → allw P ops Kend ops.size x ox σ (act N ρ) w
section
variable {P : Program} {N : Nat} {ρ : Nat → Value} {w0 w : World} {Q : Exit → Act → World → Prop} {ops : Array Oper} {H : List Blk} {Kend : Act → World → Prop} {i x : Nat} {o : Oper} {σ : List (Nat × Md)}
theorem c_float {id : Nat} {l : List Oper} (x : Nat) (σ : List (Nat × Md)) (hm : P.follows .mixedOrders = true) (hchk : drawFOk l.toArray x σ = true) (hS : St w0 w H)
    (h : ∀ w', St w0 w' H → Below w.heap.size w w' → Wx P l.toArray (Q .normal) x σ N ρ w') : (Code.region id l.toArray true).wp P Q (act N ρ) w := by
  simp only [drawFOk, Bool.and_eq_true] at hchk
  obtain ⟨⟨⟨⟨⟨⟨⟨h1, h2⟩, h3⟩, h4⟩, h5⟩, h7⟩, h8⟩, h6⟩ := hchk
  have hs : noSel l.toArray := by
    intro i o cs b hi hsel
    have := Array.all_eq_true'.1 h6 o (Array.mem_of_getElem? hi)
    rw [hsel] at this
    cases this
  cases hx : l.toArray[x]? with
  | none => rw [hx] at h8; cases h8
  | some ox =>
    rw [hx] at h8
    have hxd : ∀ e ∈ ox.after, Region.binds .any e = false := fun e he => by
      have := Array.all_eq_true'.1 h8 e he
      simpa using this
    have hbd : Below w.heap.size w { w with drawn := w.drawn + 1 } := (Below.refl _ w).drew
    have hxlt : x < l.toArray.size := by
      rcases Nat.lt_or_ge x l.toArray.size with q | q
      · exact q
      · rw [Array.getElem?_eq_none q] at hx; cases hx
    refine wp_region_any hm (wpAny_of_all (n := l.toArray.size) hs (fun _ _ h => h) hx hxd l.toArray.size σ _ _ _ (Nat.le_of_ble_eq_true h1) (by simp) ?_ ?_ h4 h5 h7 ((h _ (hS.grow hbd) hbd).out hs ox hx))
    · intro j o _ hl
      by_cases hj : j < l.toArray.size
      · rw [Array.getD, dif_pos (by simpa using hj)] at hl
        simp at hl
      · rename_i hjo
        rw [Array.getElem?_eq_none (by omega)] at hjo
        cases hjo
    · intro j
      constructor
      · intro hf
        have hj : j < l.toArray.size := by
          rcases Nat.lt_or_ge j l.toArray.size with hlt | hlt
          · exact hlt
          · simp at hlt
            simp [Array.getD, Nat.not_lt.2 hlt] at hf
        have := List.all_eq_true.1 h2 j (by simpa using hj)
        rw [Bool.or_eq_true] at this
        rcases this with q | q
        · exact .inl (Nat.eq_of_beq_eq_true q).symm
        · obtain ⟨y, hy, hb⟩ := List.any_eq_true.1 q
          exact .inr ⟨y.2, by rw [← Nat.eq_of_beq_eq_true hb]; exact hy⟩
      · rintro (rfl | ⟨m, hm'⟩)
        · simp at hxlt
          simp [Array.getD, hxlt]
        · have := List.all_eq_true.1 h3 _ hm'
          rw [Nat.blt_eq] at this
          simp at this
          simp [Array.getD, this]
theorem wx_pure {d : Option Tmp} {p : Op} {ty : TypeId} {pos : String} {aft : Array Edge} {g : Option (Nat × Bool)} (hsw : swapOk ops (i, .pure) (x, .grow) = true) (ho : ops[i]? = some ⟨d, p, ty, pos, aft, g⟩) (hg : gd ops N ρ g = true) (h : Pure1 P N ρ ⟨d, p, ty, pos, aft, g⟩ fun v => Wx P ops Kend x σ N (updo ρ d v) w) : Wx P ops Kend x ((i, .pure) :: σ) N ρ w := by
  refine ⟨fun hs ox hx => allw_fold hs hx ho hsw ?_⟩
  rw [rstep_pure (gd_wanted ops N ρ ⟨d, p, ty, pos, aft, g⟩ hg), act_eval]
  obtain ⟨v, h1, h2⟩ := h
  exact ⟨v, h1, by rw [act_put]; exact h2.out hs ox hx⟩
theorem wx_read {d : Option Tmp} {p : Op} {ty : TypeId} {pos : String} {aft : Array Edge} {g : Option (Nat × Bool)} (hsw : swapOk ops (i, .read) (x, .grow) = true) (ho : ops[i]? = some ⟨d, p, ty, pos, aft, g⟩) (hg : gd ops N ρ g = true) (h : Read1 P N ρ w ⟨d, p, ty, pos, aft, g⟩ fun v => Wx P ops Kend x σ N (updo ρ d v) w) : Wx P ops Kend x ((i, .read) :: σ) N ρ w := by
  refine ⟨fun hs ox hx => allw_fold hs hx ho hsw ?_⟩
  rw [rstep_read (gd_wanted ops N ρ ⟨d, p, ty, pos, aft, g⟩ hg), act_eval]
  obtain ⟨v, h1, h2⟩ := h
  exact ⟨v, h1, by rw [act_put]; exact h2.out hs ox hx⟩
/-- x now, or the next operation (that makes memory) first. -/
theorem wx_fork {d : Option Tmp} {p : Op} {ty : TypeId} {pos : String} {aft : Array Edge} {g : Option (Nat × Bool)} (ho : ops[i]? = some ⟨d, p, ty, pos, aft, g⟩) (hg : gd ops N ρ g = true) (hnow : Wr P ops Kend ((x, .grow) :: (i, .grow) :: σ) N ρ w)
    (h : Hup1 P N ρ w ⟨d, p, ty, pos, aft, g⟩ fun v w' => Below w.heap.size w w' ∧ Wx P ops Kend x σ N (updo ρ d v) w') : Wx P ops Kend x ((i, .grow) :: σ) N ρ w := by
  refine ⟨fun hs ox hx => ⟨?_, fun _ => ?_⟩⟩
  · have := hnow.out
    simp only [wr, hx] at this
    exact this
  · rw [ho]
    show rstep _ _ _ _ _ _ _
    rw [rstep_grow (gd_wanted ops N ρ ⟨d, p, ty, pos, aft, g⟩ hg), act_eval]
    simp only [act_put]
    exact hup_mono (fun v w h => ⟨h.1, h.2.out hs ox hx⟩) h.out
theorem wx_now {m : Md} (hd : tdep ops ops.size i x = true) (hnow : Wr P ops Kend ((x, .grow) :: (i, m) :: σ) N ρ w) : Wx P ops Kend x ((i, m) :: σ) N ρ w := by
  refine ⟨fun hs ox hx => ⟨?_, fun q => by rw [hd] at q; cases q⟩⟩
  have := hnow.out
  simp only [wr, hx] at this
  exact this
end
end Go.Sx
namespace Go.Proofs.YtknccjbkacaelaaGreatDoor
open Go Go.RowKit Go.Sx
theorem L_small {n : Nat} (h : n < 256) : L ((n : Int) : Rat) ≤ 1 := by
  unfold L
  have h1 : (natS n).size ≤ 1 := natS_size_le (by omega)
  have h2 : (natS 1).size ≤ 1 := natS_size_le (by omega)
  exact Nat.max_le.2 ⟨h1, h2⟩
end Go.Proofs.YtknccjbkacaelaaGreatDoor
namespace Go.Proofs.YtknccjbkacaelaaGreatDoor
open Go Go.RowKit Go.Sx
theorem enI_len : ∀ x, (enI x).length = 1 := fun _ => rfl
theorem enI_one (xs : List Int) : ∀ u ∈ xs.flatMap enI, u.oneCell' = true := by
  intro u hu
  obtain ⟨x, _, hx⟩ := List.mem_flatMap.1 hu
  simp only [enI, List.mem_cons, List.not_mem_nil, or_false] at hx
  rw [hx]; rfl
end Go.Proofs.YtknccjbkacaelaaGreatDoor
namespace Go.Proofs.YtknccjbkacaelaaGreatDoor
open Go Go.RowKit Go.Sx
theorem encCh_len : ∀ c, (encCh c).length = 6 := fun _ => rfl
theorem encIt_len : ∀ c, (encIt c).length = 7 := fun _ => rfl
theorem built_Ch (a b : Int) : Tryz.prog.built 38 [(0, .int .i64 a), (1, .int .i64 b)] = some #[.int .i64 a, .int .i64 b, .bool false, .bool false, .string ⟨#[]⟩, .string ⟨#[]⟩] := by kernel_rfl
/-- The items' charges can be read, whatever else comes. -/
def RdC (w0 : World) (LC : List Blk) (cvs : List Value) (X : List It) : Prop := ∀ w' H, St w0 w' (H ++ LC) → ∀ j, j < X.length → Sl encCh 6 w' (cvs.getD j undef) (X.getD j zIt).charges
theorem RdC.add {w0 : World} {LC LCh : List Blk} {cvs : List Value} {X : List It} {x : It} {s : Value} {T : TypeId} (h : RdC w0 LC cvs X) (hl : cvs.length = X.length) (hG : Gl encCh T 6 s x.charges LCh) : RdC w0 (LC ++ LCh) (cvs ++ [s]) (X ++ [x]) := by
  intro w' H hS j hj
  rw [List.length_append] at hj
  by_cases e : j < X.length
  · have h1 : (cvs ++ [s]).getD j undef = cvs.getD j undef := by rw [List.getD_eq_getElem?_getD, List.getElem?_append_left (by omega), List.getD_eq_getElem?_getD]
    have h2 : (X ++ [x]).getD j zIt = X.getD j zIt := by rw [List.getD_eq_getElem?_getD, List.getElem?_append_left e, List.getD_eq_getElem?_getD]
    rw [h1, h2]
    refine h w' H (hS.drop ?_) j e
    rw [← List.append_assoc]
    exact List.sublist_append_left _ _
  · obtain rfl : j = X.length := by simp only [List.length_cons, List.length_nil] at hj; omega
    have h1 : (cvs ++ [s]).getD X.length undef = s := by rw [List.getD_eq_getElem?_getD, List.getElem?_append_right (by omega), hl, Nat.sub_self]; rfl
    have h2 : (X ++ [x]).getD X.length zIt = x := by rw [List.getD_eq_getElem?_getD, List.getElem?_append_right (Nat.le_refl _), Nat.sub_self]; rfl
    rw [h1, h2]
    exact hG.sl (H := H ++ LC) (by rw [List.append_assoc]; exact hS) encCh_len
end Go.Proofs.YtknccjbkacaelaaGreatDoor
namespace Go.Sx
open Go Go.RowKit
section
variable {P : Program} {ops : Array Oper}
def maskOr (M : List Nat) : List Edge → Nat
  | [] => 0
  | e :: l => bif Region.binds .any e then (2 ^ e.on ||| M.getD e.on 0) ||| maskOr M l else maskOr M l
def lowEdges (i : Nat) : List Edge → Bool
  | [] => true
  | e :: l => (!Region.binds .any e || Nat.blt e.on i) && lowEdges i l
def masksOk (M : List Nat) : List Oper → Nat → Bool
  | [], _ => true
  | o :: l, i => lowEdges i o.after.toList && Nat.beq (M.getD i 0) (maskOr M o.after.toList) && masksOk M l (i + 1)
theorem tdep_succ : ∀ n i h, tdep ops n i h = true → tdep ops (n + 1) i h = true
  | 0, i, h, ht => by cases ht
  | n + 1, i, h, ht => by
    unfold tdep at ht ⊢
    cases ho : ops[i]? with
    | none => rw [ho] at ht; cases ht
    | some o =>
      rw [ho] at ht
      simp only [Array.any_eq_true', Bool.and_eq_true, Bool.or_eq_true] at ht ⊢
      obtain ⟨e, he, hb, h1⟩ := ht
      exact ⟨e, he, hb, h1.imp id (tdep_succ n e.on h)⟩
theorem tdep_mono {n m i h : Nat} (hnm : n ≤ m) (ht : tdep ops n i h = true) : tdep ops m i h = true := by
  induction hnm with
  | refl => exact ht
  | step _ ih => exact tdep_succ _ _ _ ih
theorem maskOr_bit {M : List Nat} {h : Nat} : ∀ {l : List Edge}, (maskOr M l).testBit h = true → ∃ e ∈ l, Region.binds .any e = true ∧ (e.on = h ∨ (M.getD e.on 0).testBit h = true)
  | [], hb => by simp [maskOr] at hb
  | e :: l, hb => by
    unfold maskOr at hb
    cases hbi : Region.binds .any e with
    | false =>
      rw [hbi] at hb
      obtain ⟨e', he', h'⟩ := maskOr_bit hb
      exact ⟨e', List.mem_cons_of_mem _ he', h'⟩
    | true =>
      rw [hbi] at hb
      simp only [cond_true, Nat.testBit_or, Bool.or_eq_true] at hb
      rcases hb with (hb | hb) | hb
      · rw [Nat.testBit_two_pow] at hb
        exact ⟨e, List.mem_cons_self .., hbi, .inl (of_decide_eq_true hb)⟩
      · exact ⟨e, List.mem_cons_self .., hbi, .inr hb⟩
      · obtain ⟨e', he', h'⟩ := maskOr_bit hb
        exact ⟨e', List.mem_cons_of_mem _ he', h'⟩
theorem lowEdges_lt {i : Nat} : ∀ {l : List Edge}, lowEdges i l = true → ∀ e ∈ l, Region.binds .any e = true → e.on < i
  | [], _, e, he, _ => by cases he
  | x :: l, h, e, he, hb => by
    simp only [lowEdges, Bool.and_eq_true, Bool.or_eq_true] at h
    rcases List.mem_cons.1 he with rfl | he
    · rcases h.1 with q | q
      · rw [hb] at q; cases q
      · rwa [Nat.blt_eq] at q
    · exact lowEdges_lt h.2 e he hb
theorem masksOk_at {M : List Nat} : ∀ {l : List Oper} {k : Nat}, masksOk M l k = true → ∀ j o, l[j]? = some o → lowEdges (k + j) o.after.toList = true ∧ M.getD (k + j) 0 = maskOr M o.after.toList
  | [], k, _, j, o, ho => by simp at ho
  | x :: l, k, h, j, o, ho => by
    simp only [masksOk, Bool.and_eq_true] at h
    cases j with
    | zero =>
      simp only [List.getElem?_cons_zero, Option.some.injEq] at ho
      subst ho
      exact ⟨h.1.1, Nat.eq_of_beq_eq_true h.1.2⟩
    | succ j =>
      have := masksOk_at h.2 j o (by simpa using ho)
      rw [show k + (j + 1) = k + 1 + j by omega]
      exact this
theorem masks_sound {l : List Oper} {M : List Nat} (hM : masksOk M l 0 = true) (hML : M.length = l.length) : ∀ i h, (M.getD i 0).testBit h = true → tdep l.toArray (i + 1) i h = true := by
  intro i
  induction i using Nat.strongRecOn with
  | _ i ih =>
    intro h hb
    have hil : i < l.length := by
      rcases Nat.lt_or_ge i l.length with q | q
      · exact q
      · rw [List.getD_eq_getElem?_getD, List.getElem?_eq_none (by omega)] at hb
        simp at hb
    have ho : l[i]? = some l[i] := List.getElem?_eq_getElem hil
    have hat := masksOk_at hM i _ ho
    rw [Nat.zero_add] at hat
    rw [hat.2] at hb
    obtain ⟨e, he, hbi, h1⟩ := maskOr_bit hb
    have hlt := lowEdges_lt hat.1 e he hbi
    unfold tdep
    rw [List.getElem?_toArray, ho]
    simp only [Array.any_eq_true', Bool.and_eq_true, Bool.or_eq_true]
    refine ⟨e, by simpa using he, hbi, ?_⟩
    rcases h1 with q | q
    · exact .inl (by rw [q]; exact Nat.beq_refl h)
    · exact .inr (tdep_mono (by omega) (ih e.on hlt h q))
def pairsOkM (ops : Array Oper) (M : List Nat) : List (Nat × Md) → Bool
  | [] => true
  | i :: σ => (σ.all fun j => !Nat.beq i.1 j.1 && ((M.getD j.1 0).testBit i.1 || swapOk ops i j)) && pairsOkM ops M σ
theorem pairsOk_of_M {l : List Oper} {M : List Nat} (hM : masksOk M l 0 = true) (hML : M.length = l.length) : ∀ {σ : List (Nat × Md)}, (∀ x ∈ σ, x.1 < l.length) → pairsOkM l.toArray M σ = true → pairsOk l.toArray l.length σ = true
  | [], _, _ => rfl
  | i :: σ, hlt, h => by
    simp only [pairsOkM, Bool.and_eq_true, List.all_eq_true, Bool.or_eq_true] at h
    simp only [pairsOk, Bool.and_eq_true, List.all_eq_true, Bool.or_eq_true]
    refine ⟨fun j hj => ⟨(h.1 j hj).1, (h.1 j hj).2.imp (fun q => ?_) id⟩, pairsOk_of_M hM hML (fun x hx => hlt x (List.mem_cons_of_mem _ hx)) h.2⟩
    have := hlt j (List.mem_cons_of_mem _ hj)
    exact tdep_mono (by omega) (masks_sound hM hML _ _ q)
def drawOkM (l : List Oper) (M : List Nat) (σ : List (Nat × Md)) : Bool :=
  Nat.ble σ.length l.length && (List.range l.length).all (fun i => σ.any fun x => Nat.beq x.1 i) && σ.all (fun x => Nat.blt x.1 l.length) && (Nat.beq M.length l.length && masksOk M l 0 && pairsOkM l.toArray M σ) && topoOk l.toArray σ &&
  l.all fun o => match o.op with | .select .. => false | _ => true
theorem drawOk_of_M {l : List Oper} {M : List Nat} {σ : List (Nat × Md)} (h : drawOkM l M σ = true) : drawOk l.toArray σ = true := by
  simp only [drawOkM, Bool.and_eq_true] at h
  obtain ⟨⟨⟨⟨⟨h1, h2⟩, h3⟩, ⟨⟨h4, h5⟩, h6⟩⟩, h7⟩, h8⟩ := h
  have hs : l.toArray.size = l.length := by simp
  simp only [drawOk, Bool.and_eq_true, hs]
  refine ⟨⟨⟨⟨⟨h1, h2⟩, h3⟩, pairsOk_of_M h5 (Nat.eq_of_beq_eq_true h4) (fun x hx => ?_) h6⟩, h7⟩, ?_⟩
  · have := List.all_eq_true.1 h3 x hx
    rwa [Nat.blt_eq] at this
  · rw [← hs, Array.all_eq_true']
    intro x hx
    have hx := List.all_eq_true.1 h8 x (by simpa using hx)
    cases hop : x.op <;> first | rfl | (rw [hop] at hx; cases hx)
end
section
variable {P : Program} {N : Nat} {ρ : Nat → Value} {w0 w : World} {Q : Exit → Act → World → Prop} {H : List Blk}
theorem c_forget {C : Code} {ρ : Nat → Value} {w : World} (M : (Nat → Value) → Prop) (h0 : M ρ) (h : ∀ ρ, M ρ → C.wp P Q (act N ρ) w) : C.wp P Q (act N ρ) w := h ρ h0
theorem c_drawM {id : Nat} {l : List Oper} (M : List Nat) (σ : List (Nat × Md)) (hm : P.follows .mixedOrders = true) (hchk : drawOkM l M σ = true) (hS : St w0 w H)
    (h : ∀ w', St w0 w' H → Below w.heap.size w w' → Wr P l.toArray (Q .normal) σ N ρ w') : (Code.region id l.toArray true).wp P Q (act N ρ) w :=
  c_draw σ hm (drawOk_of_M hchk) hS h
end
end Go.Sx
namespace Go.Sx
open Go Go.RowKit Go.ChangeShapes Go.WideShapes Go.Proofs.YtknccjbkacaelaaGreatDoor
section
variable {H : Type} {enc : TypeId × Value → H} {P : Program} {w : World}
theorem add_add (a : Addr) (m n : Nat) : (a.add m).add n = a.add (m + n) := by
  obtain ⟨b, o, s⟩ := a
  unfold Addr.add
  by_cases hn : n = 0
  · subst hn; simp
  · by_cases hm : m = 0
    · subst hm; simp [hn]
    · simp [hn, hm, Nat.add_assoc]
/-- The arguments read behind the call as they did before. -/
theorem args_kept (hl : laidOutB P = true) {w' : World} (hb : Below w.heap.size w w') : ∀ {ts : List TypeId} {vs : List Value} {ds : List (DataW H)} {ps : List MemPlace}, (∀ t ∈ ts, P.readableRec t = true ∧ t < P.types.size) → (∀ x ∈ ps, x.block < w.heap.size) →
    DataW.TrodAll enc P w 0 (fun _ => true) true ts vs ds ps → DataW.TrodAll enc P w' 0 (fun b => decide (b < w.heap.size)) true ts vs ds ps
  | [], [], [], _, _, _, h => h
  | t :: ts, v :: vs, d :: ds, ps, hT, hlt, ⟨p, q, h1, h2, e⟩ => by
    subst e
    exact ⟨p, q, Below.trod hl (hT t (List.mem_cons_self ..)).1 (hT t (List.mem_cons_self ..)).2 h1 hb (fun x hx => hlt x (List.mem_append_left _ hx)),
      args_kept hl hb (fun t ht => hT t (List.mem_cons_of_mem _ ht)) (fun x hx => hlt x (List.mem_append_right _ hx)) h2, rfl⟩
  | [], [], _ :: _, _, _, _, h => h.elim
  | [], _ :: _, [], _, _, _, h => h.elim
  | [], _ :: _, _ :: _, _, _, _, h => h.elim
  | _ :: _, [], [], _, _, _, h => h.elim
  | _ :: _, [], _ :: _, _, _, _, h => h.elim
  | _ :: _, _ :: _, [], _, _, _, h => h.elim
/-- A law's last step: the call answers, and what was there is as it was. -/
theorem law_post {f : Func} {s : ChangeSpec} {w' : World} {args : Array Value} {v : Value} {ds gs : List (DataW H)} {before : List MemPlace} (hl : laidOutB P = true)
    (hW : DataW.Whole enc P f.params.toList s.vars false w args.toList ds gs before) (hT : ∀ t ∈ f.params.toList, P.readableRec t = true ∧ t < P.types.size) (hv : s.vars = []) (hb : Below w.heap.size w w')
    (hres : DataW.TrodAll enc P w' w.heap.size (fun _ => false) false f.resultTypes.toList (v.resultList f.resultTypes.size) (s.fn H (ds ++ gs)).results []) (hargs : (s.fn H (ds ++ gs)).args = ds) (hvars : (s.fn H (ds ++ gs)).vars = []) :
    s.post enc P f false true false false w args v w' := by
  have hlt : ∀ x ∈ before, x.block < w.heap.size := fun x hx => hW.lt x hx
  have hW2 := hW
  obtain ⟨p, q, h1, h2, rfl, _, _⟩ := hW
  rw [hv] at h2
  obtain ⟨rfl, rfl⟩ := trodVars_none h2
  rw [List.append_nil] at hlt
  refine ⟨ds, [], _, [], p, [], hW2, hres, ?_, ?_, hb.frame _, fun q => by cases q⟩
  · rw [hargs]; exact args_kept hl hb hT hlt h1
  · rw [hvars, hv]; exact rfl
end
end Go.Sx
namespace Go.Proofs.YtknccjbkacaelaaGreatDoor
open Go Go.RowKit Go.Sx Go.ChangeShapes Go.WideShapes Go.ChangeAt
theorem ownNone : ownKnob Tryz.prog.godebug = none := by kernel_rfl
theorem laidOut : laidOutB Tryz.prog = true := by kernel_rfl
end Go.Proofs.YtknccjbkacaelaaGreatDoor
namespace Go.Sx
open Go Go.RowKit
section
variable {P : Program} {N : Nat} {ρ : Nat → Value} {w0 w w' : World}
  {d : Option Tmp} {ty : TypeId} {pos : String} {aft : Array Edge} {g : Option (Nat × Bool)} {x y z : Operand} {t t' e : TypeId} {H : List Blk} {k b o : Nat} {v : Value} {K : Value → Prop} {K2 : Value → World → Prop}
theorem flat_elemG {α : Type} {enc : α → List Value} {size : Nat} (hu : ∀ x, (enc x).length = size) (L : List α) (sp : List Value) (d : α) {i : Nat} (hi : i < L.length) : ((L.flatMap enc ++ sp).drop (i * size)).take size = enc (L.getD i d) := by
  have h1 : (i + 1) * size ≤ L.length * size := Nat.mul_le_mul_right _ hi
  rw [Nat.add_mul] at h1
  have h2 := flat_len hu L
  rw [List.drop_append_of_le_length (by omega), List.take_append_of_le_length (by rw [List.length_drop]; omega)]
  exact flat_elem hu L d hi
theorem flat_setG {α : Type} {enc : α → List Value} {size : Nat} (hu : ∀ x, (enc x).length = size) (L : List α) (sp : List Value) (x : α) {i : Nat} (hi : i < L.length) : splice (L.flatMap enc ++ sp) (i * size) (enc x) = (L.set i x).flatMap enc ++ sp := by
  have h1 : (i + 1) * size ≤ L.length * size := Nat.mul_le_mul_right _ hi
  rw [Nat.add_mul] at h1
  have h2 := flat_len hu L
  rw [← flat_set hu L x hi]
  unfold splice
  rw [List.take_append_of_le_length (by omega), List.drop_append_of_le_length (by rw [hu]; omega)]
  simp
theorem s_ldS {α : Type} {enc : α → List Value} {size : Nat} {L : List α} {sp : List Value} {i : Nat} {zz : List Value} {agg : Bool} (dd : α) (hu : ∀ x, (enc x).length = size) (hx : ev N ρ x = .pointer (some ⟨b, o, none⟩)) (ht : vinfo P t = some (size, agg, zz)) (hS : St w0 w H) (hk : H[k]? = some (b, t', L.flatMap enc ++ sp))
    (ho : o = i * size) (hi : i < L.length) (hv : mkv agg (enc (L.getD i dd)) = v) (hagg : agg = true ∨ size = 1) (h : K v) : Read1 P N ρ w ⟨d, .load t x, ty, pos, aft, g⟩ K := by
  subst ho
  have hat := hS.at hk (i * size) size
  rw [flat_elemG hu L sp dd hi] at hat
  exact s_ld hx ht hat (hu _) hv hagg h
theorem s_stS {α : Type} {enc : α → List Value} {size : Nat} {L : List α} {sp : List Value} {i : Nat} {zz : List Value} {agg : Bool} (u : α) (hu : ∀ x, (enc x).length = size) (hx : ev N ρ x = .pointer (some ⟨b, o, none⟩)) (hy : ev N ρ y = v) (ht : vinfo P t = some (size, agg, zz)) (hS : St w0 w H) (hk : H[k]? = some (b, t', L.flatMap enc ++ sp))
    (ho : o = i * size) (hi : i < L.length) (hv : v.cells.toList = enc u) (h1 : (enc u).all (·.oneCell') = true)
    (h : ∀ w', St w0 w' (H.set k (b, t', (L.set i u).flatMap enc ++ sp)) → K2 undef w') : Hup1 P N ρ w ⟨d, .store t x y, ty, pos, aft, g⟩ K2 := by
  subst ho
  refine s_sta hx hy ht hS hk hv (hu u) ?_ h1 (fun w' hS' => ?_)
  · rw [List.length_append, flat_len hu]
    have : (i + 1) * size ≤ L.length * size := Nat.mul_le_mul_right _ hi
    rw [Nat.add_mul] at this; omega
  · rw [flat_setG hu L sp u hi] at hS'
    exact h w' hS'
theorem s_mkf1 {fn : Fn} (hx : ev N ρ x = v) (h : K (.func fn #[] #[v])) : Pure1 P N ρ ⟨d, .makeFunc fn #[] #[x], ty, pos, aft, g⟩ K :=
  ⟨_, fun w => (by simp [execOp, hx, Instr.makeFunc]), h⟩
end
end Go.Sx
namespace Go.Sx
open Go Go.RowKit
section
variable {α : Type}
/-- x behind a list, moved ahead of those at its end that it goes ahead of. -/
def insAt (lt : α → α → Bool) (S : List α) (x : α) : List α := (S.reverse.dropWhile (lt x)).reverse ++ x :: (S.reverse.takeWhile (lt x)).reverse
def isort (lt : α → α → Bool) (L : List α) : List α := L.foldl (insAt lt) []
theorem insAt_eq {lt : α → α → Bool} {A B : List α} {x : α} (hB : ∀ y ∈ B, lt x y = true) (hA : ∀ y, A.getLast? = some y → lt x y = false) : insAt lt (A ++ B) x = A ++ x :: B := by
  have h1 : A.reverse.takeWhile (lt x) = [] ∧ A.reverse.dropWhile (lt x) = A.reverse := by
    cases h : A.reverse with
    | nil => exact ⟨rfl, rfl⟩
    | cons y t =>
      have hy : A.getLast? = some y := by rw [← List.head?_reverse, h]; rfl
      have := hA y hy
      simp [this]
  unfold insAt
  rw [List.reverse_append, List.takeWhile_append_of_pos (fun y hy => hB y (List.mem_reverse.1 hy)), List.dropWhile_append_of_pos (fun y hy => hB y (List.mem_reverse.1 hy)), h1.1, h1.2]
  simp
theorem isort_snoc (lt : α → α → Bool) (L : List α) (x : α) : isort lt (L ++ [x]) = insAt lt (isort lt L) x := by unfold isort; rw [List.foldl_append]; rfl
theorem insAt_split (lt : α → α → Bool) (S : List α) (x : α) : ∃ A B, S = A ++ B ∧ insAt lt S x = A ++ x :: B ∧ (∀ y ∈ B, lt x y = true) ∧ ∀ y, A.getLast? = some y → lt x y = false := by
  refine ⟨(S.reverse.dropWhile (lt x)).reverse, (S.reverse.takeWhile (lt x)).reverse, ?_, rfl, fun y hy => ?_, fun y hy => ?_⟩
  · rw [← List.reverse_append, List.takeWhile_append_dropWhile, List.reverse_reverse]
  · rw [List.mem_reverse] at hy
    generalize S.reverse = T at hy
    induction T with
    | nil => cases hy
    | cons z T ih =>
      rw [List.takeWhile_cons] at hy
      split at hy
      · next h =>
        rcases List.mem_cons.1 hy with rfl | hy
        · exact h
        · exact ih hy
      · cases hy
  · rw [List.getLast?_reverse] at hy
    generalize S.reverse = T at hy
    induction T with
    | nil => cases hy
    | cons z T ih =>
      rw [List.dropWhile_cons] at hy
      split at hy
      · exact ih hy
      · next h =>
        obtain rfl : z = y := Option.some.inj hy
        exact Bool.eq_false_iff.2 h
theorem insAt_perm (lt : α → α → Bool) (S : List α) (x : α) : (insAt lt S x).Perm (x :: S) := by
  obtain ⟨A, B, rfl, e, _⟩ := insAt_split lt S x
  rw [e]
  exact List.perm_middle
theorem isort_perm (lt : α → α → Bool) (L : List α) : (isort lt L).Perm L := by
  have key : ∀ (L S : List α), (L.foldl (insAt lt) S).Perm (S ++ L) := by
    intro L
    induction L with
    | nil => intro S; simp
    | cons x L ih =>
      intro S
      rw [List.foldl_cons]
      refine (ih _).trans ?_
      refine ((insAt_perm lt S x).append_right L).trans ?_
      exact List.perm_middle.symm
  have := key L []
  rwa [List.nil_append] at this
theorem isort_len (lt : α → α → Bool) (L : List α) : (isort lt L).length = L.length := (isort_perm lt L).length_eq
/-- Sorted: nobody goes ahead of one that stands ahead of it; of two that go ahead of neither, the one that came first stands first. -/
theorem isort_sorted {lt : α → α → Bool} (hasym : ∀ a b, lt a b = true → lt b a = false) (hneg : ∀ a b c, lt a b = false → lt b c = false → lt a c = false) {L : List α} {R : α → α → Prop} (hL : L.Pairwise R) :
    (isort lt L).Pairwise fun a b => lt b a = false ∧ (lt a b = false → R a b) := by
  have key : ∀ k, k ≤ L.length → (isort lt (L.take k)).Pairwise fun a b => lt b a = false ∧ (lt a b = false → R a b) := by
    intro k
    induction k with
    | zero => intro _; exact List.Pairwise.nil
    | succ k ih =>
      intro hk
      have h0 := ih (by omega)
      have hkl : k < L.length := by omega
      rw [List.take_succ_eq_append_getElem hkl, isort_snoc]
      obtain ⟨A, B, e, e2, hB, hA⟩ := insAt_split lt (isort lt (L.take k)) L[k]
      have hmem : ∀ y ∈ isort lt (L.take k), R y L[k] := by
        intro y hy
        have hy' := (isort_perm lt (L.take k)).mem_iff.1 hy
        obtain ⟨i, hi, rfl⟩ := List.mem_iff_getElem.1 hy'
        rw [List.length_take] at hi
        rw [List.getElem_take]
        exact List.pairwise_iff_getElem.1 hL i k (by omega) hkl (by omega)
      rw [e] at h0 hmem
      rw [e2, List.pairwise_append]
      rw [List.pairwise_append] at h0
      obtain ⟨hA1, hB1, hAB⟩ := h0
      -- of the front: none of it is passed
      have hfront : ∀ y ∈ A, lt L[k] y = false := by
        intro y hy
        cases hl : A.getLast? with
        | none => rw [List.getLast?_eq_none_iff] at hl; subst hl; cases hy
        | some z =>
          have hz := hA z hl
          obtain ⟨A', rfl⟩ : ∃ A', A = A' ++ [z] := List.getLast?_eq_some_iff.1 hl
          rcases List.mem_append.1 hy with h | h
          · have := (List.pairwise_append.1 hA1).2.2 y h z (List.mem_singleton.2 rfl)
            exact hneg _ _ _ hz this.1
          · rw [List.mem_singleton] at h
            rw [h]; exact hz
      refine ⟨hA1, List.pairwise_cons.2 ⟨fun b hb => ?_, hB1⟩, fun a ha b hb => ?_⟩
      · have h1 := hB b hb
        exact ⟨hasym _ _ h1, fun h => by rw [h1] at h; cases h⟩
      · rcases List.mem_cons.1 hb with rfl | hb
        · exact ⟨hfront a ha, fun _ => hmem a (List.mem_append_left _ ha)⟩
        · exact hAB a ha b hb
  have := key L.length (Nat.le_refl _)
  rwa [List.take_length] at this
/-- The same order through a map. -/
theorem isort_map {β : Type} {lt : α → α → Bool} {lt' : β → β → Bool} {f : α → β} (h : ∀ x y, lt' (f x) (f y) = lt x y) (L : List α) : isort lt' (L.map f) = (isort lt L).map f := by
  have hins : ∀ (S : List α) (x : α), insAt lt' (S.map f) (f x) = (insAt lt S x).map f := by
    intro S x
    obtain ⟨A, B, e, e2, hB, hA⟩ := insAt_split lt S x
    rw [e2, e, List.map_append, insAt_eq (fun y hy => ?_) (fun y hy => ?_)]
    · simp
    · obtain ⟨z, hz, rfl⟩ := List.mem_map.1 hy
      rw [h]; exact hB z hz
    · rw [List.getLast?_map] at hy
      cases hl : A.getLast? with
      | none => rw [hl] at hy; cases hy
      | some z =>
        rw [hl] at hy
        obtain rfl : f z = y := Option.some.inj hy
        rw [h]; exact hA z hl
  have key : ∀ k, k ≤ L.length → isort lt' ((L.take k).map f) = (isort lt (L.take k)).map f := by
    intro k
    induction k with
    | zero => intro _; rfl
    | succ k ih =>
      intro hk
      rw [List.take_succ_eq_append_getElem (by omega), List.map_append, List.map_cons, List.map_nil, isort_snoc, isort_snoc, ih (by omega), hins]
  have := key L.length (Nat.le_refl _)
  rwa [List.take_length] at this
end
end Go.Sx
namespace Go.Proofs.YtknccjbkacaelaaGreatDoor
open Go Go.RowKit Go.Sx
/-- What a comparing function is asked: on what is sorted, it answers c, and makes memory alone. -/
def CmpOk (f : FuncId) (cap : List Value) (c : Int → Int → Int) (D : List Int) (w0 : World) (b : Nat) (t : TypeId) (H : List Blk) : Prop :=
  (∀ args w, (callFunc f args).run Tryz.prog w = .ok (.enter f args) w) ∧
  ∀ cs x y w', St w0 w' ((b, t, cs) :: H) → x ∈ D → y ∈ D → Ret Tryz.prog f ([Value.int .i64 x, Value.int .i64 y] ++ cap).toArray w' fun v w'' => v = .int .i64 (c x y) ∧ Below w'.heap.size w' w''
def ltC (c : Int → Int → Int) (x y : Int) : Bool := decide (c x y < 0)
theorem getD_at {α : Type} (A B : List α) (x d : α) : (A ++ x :: B).getD A.length d = x := by
  rw [List.getD_eq_getElem?_getD, List.getElem?_append_right (Nat.le_refl _), Nat.sub_self]; rfl
theorem set_at {α : Type} (A B : List α) (x y : α) : (A ++ x :: B).set A.length y = A ++ y :: B := by
  rw [List.set_append_right _ _ (Nat.le_refl _), Nat.sub_self]; rfl
set_option maxHeartbeats 1000000 in
theorem insertionSort_ok {f : FuncId} {cap : List Value} {c : Int → Int → Int} {D : List Int} {w0 : World} {b : Nat} {t : TypeId} {H : List Blk} (hc : CmpOk f cap c D w0 b t H) (Pre M Suf : List Int) (sp : List Value) (n cp a e : Nat)
    (hn : Pre.length + M.length + Suf.length = n) (ha : a = Pre.length) (he : e = Pre.length + M.length) (hD : ∀ x ∈ M, x ∈ D) (hmax : n ≤ 1000000) (w : World) (hS : St w0 w ((b, t, (Pre ++ M ++ Suf).flatMap enI ++ sp) :: H)) :
    Ret Tryz.prog 104 #[.slice (some ⟨b, 0, none⟩) n cp, .int .i64 a, .int .i64 e, .func (.func f) #[] cap.toArray] w fun v w' => v = .tuple #[] ∧ St w0 w' ((b, t, (Pre ++ isort (ltC c) M ++ Suf).flatMap enI ++ sp) :: H) := by
  obtain ⟨hcall, hcmp⟩ := hc
  refine enter Tryz.func104 rfl Tryz.ntmps104 rfl ?_
  repeat (with_reducible first | refine c_seq ?_ | refine c_block ?_ | refine c_skip ?_ | refine x_then ?_ | refine x_block ?_)
  refine c_reg ?_
  refine l_pure rfl (s_move  rfl ?_)
  refine l_pure rfl (s_add  rfl rfl (IntWalk.i64_in _ (by omega)) ?_)
  refine l_pure rfl (s_asg  rfl ?_)
  refine l_nil ?_
  repeat (with_reducible first | refine c_seq ?_ | refine c_block ?_ | refine c_skip ?_ | refine x_then ?_ | refine x_block ?_)
  refine c_loop (σ := Nat) (fun k ρ w' => 1 ≤ k ∧ (k ≤ M.length ∨ M.length = 0) ∧ ρ 0 = .slice (some ⟨b, 0, none⟩) n cp ∧ ρ 1 = .int .i64 a ∧ ρ 2 = .int .i64 e ∧ ρ 3 = .func (.func f) #[] cap.toArray ∧ ρ 8 = .int .i64 ((a : Int) + k) ∧
      St w0 w' ((b, t, (Pre ++ isort (ltC c) (M.take k) ++ (M.drop k ++ Suf)).flatMap enI ++ sp) :: H)) (fun k => M.length + 1 - k) 1
    ⟨Nat.le_refl _, by omega, rfl, rfl, rfl, rfl, rfl, ?_⟩ ?_
  · have e1 : Pre ++ isort (ltC c) (M.take 1) ++ (M.drop 1 ++ Suf) = Pre ++ M ++ Suf := by
      cases M with
      | nil => rfl
      | cons x M => show Pre ++ [x] ++ (M ++ Suf) = _; simp
    rw [e1]; exact hS
  clear hS
  rintro k ρ w2 ⟨hk1, hkM, h0, h1, h2, h3, h8, hS⟩
  repeat (with_reducible first | refine c_seq ?_ | refine c_block ?_ | refine c_skip ?_ | refine x_then ?_ | refine x_block ?_)
  refine c_reg ?_
  refine l_pure rfl (s_move  h8 ?_)
  refine l_pure rfl (s_move  h2 ?_)
  refine l_pure rfl (s_lss  rfl rfl ?_)
  refine l_nil ?_
  repeat (with_reducible first | refine c_seq ?_ | refine c_block ?_ | refine c_skip ?_ | refine x_then ?_ | refine x_block ?_)
  by_cases hlt : k < M.length
  · refine c_yes rfl (decide_eq_true (by omega)) ?_
    repeat (with_reducible first | refine c_seq ?_ | refine c_block ?_ | refine c_skip ?_ | refine x_then ?_ | refine x_block ?_)
    obtain ⟨x, hx⟩ : ∃ x, x = M.getD k 0 := ⟨_, rfl⟩
    obtain ⟨S, hSe⟩ : ∃ S, S = isort (ltC c) (M.take k) := ⟨_, rfl⟩
    obtain ⟨R, hR⟩ : ∃ R, R = M.drop (k + 1) ++ Suf := ⟨_, rfl⟩
    have hSl : S.length = k := by rw [hSe, isort_len, List.length_take]; omega
    have hRl : R.length = M.length - (k + 1) + Suf.length := by rw [hR, List.length_append, List.length_drop]
    have hxD : x ∈ D := hD x (by rw [hx]; exact getD_mem M k 0 hlt)
    have hSD : ∀ y ∈ S, y ∈ D := fun y hy => by
      rw [hSe] at hy
      exact hD y (List.mem_of_mem_take ((isort_perm _ _).mem_iff.1 hy))
    have hdr : M.drop k ++ Suf = x :: R := by
      rw [List.drop_eq_getElem_cons hlt, hR, hx, List.getD_eq_getElem?_getD, List.getElem?_eq_getElem hlt]; rfl
    have hnx : isort (ltC c) (M.take (k + 1)) = insAt (ltC c) S x := by
      rw [take_succ' M k 0 hlt, isort_snoc, ← hx, ← hSe]
    rw [← hSe, hdr] at hS
    repeat (with_reducible first | refine c_seq ?_ | refine c_block ?_ | refine c_skip ?_ | refine x_then ?_ | refine x_block ?_)
    refine c_reg ?_
    refine l_pure rfl (s_move  h8 ?_)
    refine l_pure rfl (s_asg  rfl ?_)
    refine l_nil ?_
    repeat (with_reducible first | refine c_seq ?_ | refine c_skip ?_ | refine x_then ?_ | refine x_block ?_)
    refine c_cut1 (fun ρ w' => ρ 0 = .slice (some ⟨b, 0, none⟩) n cp ∧ ρ 1 = .int .i64 a ∧ ρ 2 = .int .i64 e ∧ ρ 3 = .func (.func f) #[] cap.toArray ∧ ρ 8 = .int .i64 ((a : Int) + k) ∧ St w0 w' ((b, t, (Pre ++ insAt (ltC c) S x ++ R).flatMap enI ++ sp) :: H)) ?_ ?_
    · repeat (with_reducible first | refine c_seq ?_ | refine c_block ?_ | refine c_skip ?_ | refine x_then ?_ | refine x_block ?_)
      refine c_loop (σ := List Int × List Int) (fun s ρ w' => S = s.1 ++ s.2 ∧ (∀ y ∈ s.2, ltC c x y = true) ∧ ρ 0 = .slice (some ⟨b, 0, none⟩) n cp ∧ ρ 1 = .int .i64 a ∧ ρ 2 = .int .i64 e ∧ ρ 3 = .func (.func f) #[] cap.toArray ∧ ρ 8 = .int .i64 ((a : Int) + k) ∧ ρ 9 = .int .i64 ((a : Int) + s.1.length) ∧
          St w0 w' ((b, t, (Pre ++ s.1 ++ x :: (s.2 ++ R)).flatMap enI ++ sp) :: H)) (fun s => s.1.length) (S, [])
        ⟨(List.append_nil _).symm, (fun y hy => (by cases hy)), by assumption, by assumption, by assumption, by assumption, by assumption, vi rfl (by rw [hSl]), hS⟩ ?_
      clear hS
      rintro ⟨A, B⟩ ρ w3 ⟨hAB, hB, h0, h1, h2, h3, h8, h9, hS⟩
      simp only at hAB hB h9 hS
      have hABl : A.length + B.length = k := by rw [← List.length_append, ← hAB, hSl]
      have hLl : (Pre ++ A ++ x :: (B ++ R)).length = n := by simp only [List.length_append, List.length_cons]; omega
      repeat (with_reducible first | refine c_seq ?_ | refine c_block ?_ | refine c_skip ?_ | refine x_then ?_ | refine x_block ?_)
      rcases List.eq_nil_or_concat A with hA | ⟨A', y, hA⟩
      · subst hA
        repeat (with_reducible first | refine c_seq ?_ | refine c_block ?_ | refine c_skip ?_ | refine x_then ?_ | refine x_block ?_)
        refine c_draw [(0, .pure), (1, .pure), (2, .pure), (3, .pure), (4, .pure), (5, .pure), (6, .pure), (7, .pure), (8, .read), (9, .pure), (10, .pure), (11, .pure), (12, .pure), (13, .read), (14, .grow), (15, .pure), (16, .pure)] (by kernel_rfl) (by kernel_rfl) hS ?_
        intro wz1 hS hBz1
        refine w_pure rfl rfl (s_move  h9 ?_)
        refine w_pure rfl rfl (s_move  h1 ?_)
        refine w_pure rfl rfl (s_gtr  rfl rfl ?_)
        refine w_pure rfl rfl (s_move  rfl ?_)
        refine w_no rfl (gno_yes 21 (by kernel_rfl) rfl (decide_eq_false (by simp))) ?_
        refine w_no rfl (gno_yes 21 (by kernel_rfl) rfl (decide_eq_false (by simp))) ?_
        refine w_no rfl (gno_yes 21 (by kernel_rfl) rfl (decide_eq_false (by simp))) ?_
        refine w_no rfl (gno_yes 21 (by kernel_rfl) rfl (decide_eq_false (by simp))) ?_
        refine w_no rfl (gno_yes 21 (by kernel_rfl) rfl (decide_eq_false (by simp))) ?_
        refine w_no rfl (gno_yes 21 (by kernel_rfl) rfl (decide_eq_false (by simp))) ?_
        refine w_no rfl (gno_yes 21 (by kernel_rfl) rfl (decide_eq_false (by simp))) ?_
        refine w_no rfl (gno_yes 21 (by kernel_rfl) rfl (decide_eq_false (by simp))) ?_
        refine w_no rfl (gno_yes 21 (by kernel_rfl) rfl (decide_eq_false (by simp))) ?_
        refine w_no rfl (gno_yes 21 (by kernel_rfl) rfl (decide_eq_false (by simp))) ?_
        refine w_no rfl (gno_yes 21 (by kernel_rfl) rfl (decide_eq_false (by simp))) ?_
        refine w_no rfl (gno_yes 21 (by kernel_rfl) rfl (decide_eq_false (by simp))) ?_
        refine w_pure rfl rfl (s_pick (vb rfl (decide_eq_false (by simp))) rfl ?_)
        refine w_end ?_
        repeat (with_reducible first | refine c_seq ?_ | refine c_block ?_ | refine c_skip ?_ | refine x_then ?_ | refine x_block ?_)
        refine c_no rfl (rfl) ?_
        repeat (with_reducible first | refine c_seq ?_ | refine c_block ?_ | refine c_skip ?_ | refine x_then ?_ | refine x_block ?_)
        refine c_exit ?_
        repeat (with_reducible first | refine x_then_exit ?_ | refine x_block_exit ?_ | refine x_block_pass rfl ?_)
        repeat (with_reducible first | refine c_seq ?_ | refine c_block ?_ | refine c_skip ?_ | refine x_then ?_ | refine x_block ?_)
        refine ⟨_, rfl, by assumption, by assumption, by assumption, by assumption, by assumption, ?_⟩
        rw [hAB, insAt_eq hB (fun y hy => by cases hy)]
        simpa using hS
      · rw [List.concat_eq_append] at hA
        subst hA
        have hA'l : (A' ++ [y]).length = A'.length + 1 := by simp
        have hyD : y ∈ D := hSD y (by rw [hAB]; simp)
        have hg1 : (Pre ++ (A' ++ [y]) ++ x :: (B ++ R)).getD (a + A'.length + 1) 0 = x := by
          rw [show a + A'.length + 1 = (Pre ++ (A' ++ [y])).length by simp [ha]; omega]
          exact getD_at _ _ _ _
        have hg2 : (Pre ++ (A' ++ [y]) ++ x :: (B ++ R)).getD (a + A'.length) 0 = y := by
          rw [show Pre ++ (A' ++ [y]) ++ x :: (B ++ R) = (Pre ++ A') ++ y :: (x :: (B ++ R)) by simp, show a + A'.length = (Pre ++ A').length by simp [ha]]
          exact getD_at _ _ _ _
        repeat (with_reducible first | refine c_seq ?_ | refine c_block ?_ | refine c_skip ?_ | refine x_then ?_ | refine x_block ?_)
        refine c_draw [(0, .pure), (1, .pure), (2, .pure), (3, .pure), (4, .pure), (5, .pure), (6, .pure), (7, .pure), (8, .read), (9, .pure), (10, .pure), (11, .pure), (12, .pure), (13, .read), (14, .grow), (15, .pure), (16, .pure)] (by kernel_rfl) (by kernel_rfl) hS ?_
        intro wz2 hS hBz2
        refine w_pure rfl rfl (s_move  h9 ?_)
        refine w_pure rfl rfl (s_move  h1 ?_)
        refine w_pure rfl rfl (s_gtr  rfl rfl ?_)
        refine w_pure rfl rfl (s_move  rfl ?_)
        refine w_pure rfl (gd_yes 21 (by kernel_rfl) rfl (decide_eq_true (by omega))) (s_move  h3 ?_)
        refine w_pure rfl (gd_yes 21 (by kernel_rfl) rfl (decide_eq_true (by omega))) (s_move  h0 ?_)
        refine w_pure rfl (gd_yes 21 (by kernel_rfl) rfl (decide_eq_true (by omega))) (s_move  h9 ?_)
        refine w_pure rfl (gd_yes 21 (by kernel_rfl) rfl (decide_eq_true (by omega))) (s_ixo (i := a + A'.length + 1)  rfl rfl (by omega) (by first | omega | (simp; done) | (simp; omega)) si_63 ?_)
        refine w_read rfl (gd_yes 21 (by kernel_rfl) rfl (decide_eq_true (by omega))) (s_ldS (k := 0) (i := a + A'.length + 1) (enc := enI) 0 (fun _ => rfl)  rfl vi_3 hS rfl (by first | omega | simp) (by first | omega | (simp; done) | (simp; omega)) rfl (.inr rfl) ?_)
        refine w_pure rfl (gd_yes 21 (by kernel_rfl) rfl (decide_eq_true (by omega))) (s_move  h0 ?_)
        refine w_pure rfl (gd_yes 21 (by kernel_rfl) rfl (decide_eq_true (by omega))) (s_move  h9 ?_)
        refine w_pure rfl (gd_yes 21 (by kernel_rfl) rfl (decide_eq_true (by omega))) (s_sub  rfl rfl (IntWalk.i64_in _ (by omega)) ?_)
        refine w_pure rfl (gd_yes 21 (by kernel_rfl) rfl (decide_eq_true (by omega))) (s_ixo (i := a + A'.length)  rfl rfl (by omega) (by first | omega | (simp; done) | (simp; omega)) si_63 ?_)
        refine w_read rfl (gd_yes 21 (by kernel_rfl) rfl (decide_eq_true (by omega))) (s_ldS (k := 0) (i := a + A'.length) (enc := enI) 0 (fun _ => rfl)  rfl vi_3 hS rfl (by first | omega | simp) (by first | omega | (simp; done) | (simp; omega)) rfl (.inr rfl) ?_)
        rw [hg1, hg2]
        refine w_grow rfl (gd_yes 21 (by kernel_rfl) rfl (decide_eq_true (by omega))) (s_callv hcall rfl rfl (hcmp _ x y _ hS hxD hyD) ?_)
        rintro r w4 ⟨rfl, hB4⟩
        refine ⟨hB4, ?_⟩
        replace hS := hS.grow hB4
        refine w_pure rfl (gd_yes 21 (by kernel_rfl) rfl (decide_eq_true (by omega))) (s_lss  rfl rfl ?_)
        refine w_pure rfl rfl (s_pick (vb rfl (decide_eq_true (by omega))) rfl ?_)
        refine w_end ?_
        repeat (with_reducible first | refine c_seq ?_ | refine c_block ?_ | refine c_skip ?_ | refine x_then ?_ | refine x_block ?_)
        by_cases hcy : c x y < 0
        · refine c_yes rfl (decide_eq_true hcy) ?_
          repeat (with_reducible first | refine c_seq ?_ | refine c_block ?_ | refine c_skip ?_ | refine x_then ?_ | refine x_block ?_)
          refine c_forget (fun ρ' => ρ' 0 = .slice (some ⟨b, 0, none⟩) n cp ∧ ρ' 1 = .int .i64 a ∧ ρ' 2 = .int .i64 e ∧ ρ' 3 = .func (.func f) #[] cap.toArray ∧ ρ' 8 = .int .i64 ((a : Int) + k) ∧ ρ' 9 = .int .i64 ((a : Int) + (A' ++ [y]).length) ∧ True) ⟨h0, h1, h2, h3, h8, h9, trivial⟩ ?_
          rintro ρk3 ⟨hk3_0, hk3_1, hk3_2, hk3_3, hk3_8, hk3_9, -⟩
          have hset : ((Pre ++ (A' ++ [y]) ++ x :: (B ++ R)).set (a + A'.length + 1) y).set (a + A'.length) x = Pre ++ A' ++ x :: (y :: B ++ R) := by
            rw [show a + A'.length + 1 = (Pre ++ (A' ++ [y])).length by simp [ha]; omega, set_at, show Pre ++ (A' ++ [y]) ++ y :: (B ++ R) = (Pre ++ A') ++ y :: (y :: (B ++ R)) by simp, show a + A'.length = (Pre ++ A').length by simp [ha], set_at]
            simp
          repeat (with_reducible first | refine c_seq ?_ | refine c_block ?_ | refine c_skip ?_ | refine x_then ?_ | refine x_block ?_)
          refine c_draw [(0, .pure), (1, .pure), (2, .pure), (3, .pure), (4, .pure), (5, .pure), (6, .pure), (7, .pure), (8, .pure), (9, .read), (10, .pure), (11, .pure), (12, .pure), (13, .read), (14, .pure), (15, .free), (16, .pure), (17, .free)] (by kernel_rfl) (by kernel_rfl) hS ?_
          intro wz4 hS hBz4
          refine w_pure rfl rfl (s_move  hk3_0 ?_)
          refine w_pure rfl rfl (s_move  hk3_9 ?_)
          refine w_pure rfl rfl (s_move  hk3_0 ?_)
          refine w_pure rfl rfl (s_move  hk3_9 ?_)
          refine w_pure rfl rfl (s_sub  rfl rfl (IntWalk.i64_in _ (by omega)) ?_)
          refine w_pure rfl rfl (s_move  hk3_0 ?_)
          refine w_pure rfl rfl (s_move  hk3_9 ?_)
          refine w_pure rfl rfl (s_sub  rfl rfl (IntWalk.i64_in _ (by omega)) ?_)
          refine w_pure rfl rfl (s_ixo (i := a + A'.length)  rfl rfl (by omega) (by first | omega | (simp; done) | (simp; omega)) si_63 ?_)
          refine w_read rfl rfl (s_ldS (k := 0) (i := a + A'.length) (enc := enI) (v := .int .i64 y) 0 (fun _ => rfl)  rfl vi_3 hS rfl (by simp) (by omega) (by rw [hg2]; rfl) (.inr rfl) ?_)
          refine w_pure rfl rfl (s_move  hk3_0 ?_)
          refine w_pure rfl rfl (s_move  hk3_9 ?_)
          refine w_pure rfl rfl (s_ixo (i := a + A'.length + 1)  rfl rfl (by omega) (by first | omega | (simp; done) | (simp; omega)) si_63 ?_)
          refine w_read rfl rfl (s_ldS (k := 0) (i := a + A'.length + 1) (enc := enI) (v := .int .i64 x) 0 (fun _ => rfl)  rfl vi_3 hS rfl (by simp) (by omega) (by rw [hg1]; rfl) (.inr rfl) ?_)
          refine w_pure rfl rfl (s_ixo (i := a + A'.length + 1)  rfl rfl (by omega) (by first | omega | (simp; done) | (simp; omega)) si_63 ?_)
          refine w_free rfl rfl (s_stS (k := 0) (i := a + A'.length + 1) (enc := enI) y (fun _ => rfl)  rfl rfl vi_3 hS rfl (by first | omega | simp) (by first | omega | (simp; done) | (simp; omega)) rfl rfl ?_)
          intro wz5 hS
          refine w_pure rfl rfl (s_ixo (i := a + A'.length)  rfl rfl (by omega) (by first | omega | (simp; done) | (simp; omega)) si_63 ?_)
          refine w_free rfl rfl (s_stS (k := 0) (i := a + A'.length) (enc := enI) x (fun _ => rfl)  rfl rfl vi_3 hS rfl (by first | omega | simp) (by first | omega | (simp; done) | (simp; omega)) rfl rfl ?_)
          intro wz6 hS
          refine w_end ?_
          repeat (with_reducible first | refine c_seq ?_ | refine c_block ?_ | refine c_skip ?_ | refine x_then ?_ | refine x_block ?_)
          refine c_reg ?_
          refine l_pure rfl (s_move  hk3_9 ?_)
          refine l_pure rfl (s_sub  rfl rfl (IntWalk.i64_in _ (by omega)) ?_)
          refine l_pure rfl (s_asg  rfl ?_)
          refine l_nil ?_
          repeat (with_reducible first | refine c_seq ?_ | refine c_block ?_ | refine c_skip ?_ | refine x_then ?_ | refine x_block ?_)
          replace hS : St w0 _ ((b, t, (((Pre ++ (A' ++ [y]) ++ x :: (B ++ R)).set (a + A'.length + 1) y).set (a + A'.length) x).flatMap enI ++ sp) :: H) := hS
          rw [hset] at hS
          exact ⟨(A', y :: B), _, rfl, ⟨by rw [hAB]; simp, fun z hz => (List.mem_cons.1 hz).elim (fun e => by rw [e]; exact decide_eq_true hcy) (hB z), by assumption, by assumption, by assumption, by assumption, by assumption, vi rfl (show (a : Int) + ((A' ++ [y]).length : Nat) - 1 = (a : Int) + (A'.length : Nat) by omega), hS⟩, (show A'.length < (A' ++ [y]).length by omega)⟩
        · refine c_no rfl (decide_eq_false hcy) ?_
          repeat (with_reducible first | refine c_seq ?_ | refine c_block ?_ | refine c_skip ?_ | refine x_then ?_ | refine x_block ?_)
          refine c_exit ?_
          repeat (with_reducible first | refine x_then_exit ?_ | refine x_block_exit ?_ | refine x_block_pass rfl ?_)
          repeat (with_reducible first | refine c_seq ?_ | refine c_block ?_ | refine c_skip ?_ | refine x_then ?_ | refine x_block ?_)
          refine ⟨_, rfl, by assumption, by assumption, by assumption, by assumption, by assumption, ?_⟩
          rw [hAB, insAt_eq hB (fun z hz => by
            rw [List.getLast?_append, List.getLast?_singleton] at hz
            obtain rfl : y = z := by simpa using hz
            exact decide_eq_false hcy)]
          simpa using hS
    clear hS
    rintro ρ w3 ⟨h0, h1, h2, h3, h8, hS⟩
    repeat (with_reducible first | refine c_seq ?_ | refine c_block ?_ | refine c_skip ?_ | refine x_then ?_ | refine x_block ?_)
    refine c_reg ?_
    refine l_pure rfl (s_move  h8 ?_)
    refine l_pure rfl (s_add  rfl rfl (IntWalk.i64_in _ (by omega)) ?_)
    refine l_pure rfl (s_asg  rfl ?_)
    refine l_nil ?_
    repeat (with_reducible first | refine c_seq ?_ | refine c_block ?_ | refine c_skip ?_ | refine x_then ?_ | refine x_block ?_)
    exact ⟨k + 1, _, rfl, ⟨by omega, .inl hlt, by assumption, by assumption, by assumption, by assumption, vi rfl (by omega), by rw [hnx, ← hR]; exact hS⟩, by omega⟩
  · refine c_no rfl (decide_eq_false (by omega)) ?_
    repeat (with_reducible first | refine c_seq ?_ | refine c_block ?_ | refine c_skip ?_ | refine x_then ?_ | refine x_block ?_)
    refine c_exit ?_
    repeat (with_reducible first | refine x_then_exit ?_ | refine x_block_exit ?_ | refine x_block_pass rfl ?_)
    repeat (with_reducible first | refine c_seq ?_ | refine c_block ?_ | refine c_skip ?_ | refine x_then ?_ | refine x_block ?_)
    have e1 : M.take k = M := List.take_of_length_le (by omega)
    have e2 : M.drop k = [] := List.drop_of_length_le (by omega)
    rw [e1, e2] at hS
    refine r_none rfl ⟨rfl, ?_⟩
    simpa using hS
end Go.Proofs.YtknccjbkacaelaaGreatDoor
namespace Go.Proofs.YtknccjbkacaelaaGreatDoor
open Go Go.RowKit Go.Sx
set_option maxHeartbeats 1000000 in
theorem stable_ok {f : FuncId} {cap : List Value} {c : Int → Int → Int} {w0 : World} {b : Nat} {t : TypeId} {H : List Blk} (L : List Int) (hc : CmpOk f cap c L w0 b t H) (sp : List Value) (n cp : Nat)
    (hn : L.length = n) (h20 : n ≤ 20) (w : World) (hS : St w0 w ((b, t, L.flatMap enI ++ sp) :: H)) :
    Ret Tryz.prog 80 #[.slice (some ⟨b, 0, none⟩) n cp, .int .i64 n, .func (.func f) #[] cap.toArray] w fun v w' => v = .tuple #[] ∧ St w0 w' ((b, t, (isort (ltC c) L).flatMap enI ++ sp) :: H) := by
  have hl := isort_len (ltC c) L
  refine enter Tryz.func80 rfl Tryz.ntmps80 rfl ?_
  repeat (with_reducible first | refine c_seq ?_ | refine c_block ?_ | refine c_skip ?_ | refine x_then ?_ | refine x_block ?_)
  refine c_reg ?_
  refine l_pure rfl (s_asg  rfl ?_)
  refine l_nil ?_
  repeat (with_reducible first | refine c_seq ?_ | refine c_block ?_ | refine c_skip ?_ | refine x_then ?_ | refine x_block ?_)
  refine c_reg ?_
  refine l_pure rfl (s_move  rfl ?_)
  refine l_pure rfl (s_asg  rfl ?_)
  refine l_pure rfl (s_asg  rfl ?_)
  refine l_nil ?_
  repeat (with_reducible first | refine c_seq ?_ | refine c_skip ?_ | refine x_then ?_ | refine x_block ?_)
  refine c_cut1 (fun ρ w' => ρ 0 = .slice (some ⟨b, 0, none⟩) n cp ∧ ρ 1 = .int .i64 n ∧ ρ 2 = .func (.func f) #[] cap.toArray ∧ ρ 6 = .int .i64 20 ∧ ((ρ 7 = .int .i64 0 ∧ St w0 w' ((b, t, L.flatMap enI ++ sp) :: H)) ∨ (ρ 7 = .int .i64 n ∧ St w0 w' ((b, t, (isort (ltC c) L).flatMap enI ++ sp) :: H)))) ?_ ?_
  · repeat (with_reducible first | refine c_seq ?_ | refine c_block ?_ | refine c_skip ?_ | refine x_then ?_ | refine x_block ?_)
    refine c_loop (σ := Nat) (fun d ρ w' => ρ 0 = .slice (some ⟨b, 0, none⟩) n cp ∧ ρ 1 = .int .i64 n ∧ ρ 2 = .func (.func f) #[] cap.toArray ∧ ρ 6 = .int .i64 20 ∧ d ≤ 1 ∧
        ((d = 0 ∧ ρ 7 = .int .i64 0 ∧ ρ 8 = .int .i64 20 ∧ St w0 w' ((b, t, L.flatMap enI ++ sp) :: H)) ∨ (d = 1 ∧ n = 20 ∧ ρ 7 = .int .i64 20 ∧ ρ 8 = .int .i64 40 ∧ St w0 w' ((b, t, (isort (ltC c) L).flatMap enI ++ sp) :: H)))) (fun d => 1 - d) 0
      ⟨rfl, rfl, rfl, rfl, by omega, .inl ⟨rfl, rfl, rfl, hS⟩⟩ ?_
    clear hS
    rintro d ρ w2 ⟨h0, h1, h2, h6, hd, ⟨rfl, h7, h8, hS⟩ | ⟨rfl, hn20, h7, h8, hS⟩⟩
    · repeat (with_reducible first | refine c_seq ?_ | refine c_block ?_ | refine c_skip ?_ | refine x_then ?_ | refine x_block ?_)
      repeat (with_reducible first | refine c_seq ?_ | refine c_block ?_ | refine c_skip ?_ | refine x_then ?_ | refine x_block ?_)
      refine c_reg ?_
      refine l_pure rfl (s_move  h8 ?_)
      refine l_pure rfl (s_move  h1 ?_)
      refine l_pure rfl (s_leq  rfl rfl ?_)
      refine l_nil ?_
      repeat (with_reducible first | refine c_seq ?_ | refine c_block ?_ | refine c_skip ?_ | refine x_then ?_ | refine x_block ?_)
      by_cases hlt : n = 20
      · refine c_yes rfl (decide_eq_true (by omega)) ?_
        repeat (with_reducible first | refine c_seq ?_ | refine c_block ?_ | refine c_skip ?_ | refine x_then ?_ | refine x_block ?_)
        subst hlt
        repeat (with_reducible first | refine c_seq ?_ | refine c_block ?_ | refine c_skip ?_ | refine x_then ?_ | refine x_block ?_)
        refine c_reg ?_
        refine l_pure rfl (s_move  h0 ?_)
        refine l_pure rfl (s_move  h7 ?_)
        refine l_pure rfl (s_move  h8 ?_)
        refine l_pure rfl (s_move  h2 ?_)
        have hS2 : St w0 w2 ((b, t, ([] ++ L ++ []).flatMap enI ++ sp) :: H) := by simpa using hS
        refine l_heavy rfl (s_call Tryz.call104 rfl (insertionSort_ok hc [] L [] sp 20 cp 0 20 (by simp [hn]) rfl (by simp [hn]) (fun _ h => h) (by omega) _ hS2) ?_)
        rintro r w3 ⟨rfl, hS3⟩
        replace hS3 : St w0 w3 ((b, t, (isort (ltC c) L).flatMap enI ++ sp) :: H) := by simpa using hS3
        clear hS hS2
        have hS := hS3
        refine l_nil ?_
        repeat (with_reducible first | refine c_seq ?_ | refine c_block ?_ | refine c_skip ?_ | refine x_then ?_ | refine x_block ?_)
        refine c_reg ?_
        refine l_pure rfl (s_move  h8 ?_)
        refine l_pure rfl (s_asg  rfl ?_)
        refine l_nil ?_
        repeat (with_reducible first | refine c_seq ?_ | refine c_block ?_ | refine c_skip ?_ | refine x_then ?_ | refine x_block ?_)
        refine c_reg ?_
        refine l_pure rfl (s_move  h8 ?_)
        refine l_pure rfl (s_move  h6 ?_)
        refine l_pure rfl (s_add  rfl rfl (IntWalk.i64_in _ (by omega)) ?_)
        refine l_pure rfl (s_asg  rfl ?_)
        refine l_nil ?_
        repeat (with_reducible first | refine c_seq ?_ | refine c_block ?_ | refine c_skip ?_ | refine x_then ?_ | refine x_block ?_)
        exact ⟨1, _, rfl, ⟨by assumption, by assumption, by assumption, by assumption, by omega, .inr ⟨rfl, rfl, rfl, vi rfl (by omega), hS⟩⟩, by omega⟩
      · refine c_no rfl (decide_eq_false (by omega)) ?_
        repeat (with_reducible first | refine c_seq ?_ | refine c_block ?_ | refine c_skip ?_ | refine x_then ?_ | refine x_block ?_)
        refine c_exit ?_
        repeat (with_reducible first | refine x_then_exit ?_ | refine x_block_exit ?_ | refine x_block_pass rfl ?_)
        repeat (with_reducible first | refine c_seq ?_ | refine c_block ?_ | refine c_skip ?_ | refine x_then ?_ | refine x_block ?_)
        exact ⟨_, rfl, by assumption, by assumption, by assumption, by assumption, .inl ⟨by assumption, hS⟩⟩
    · repeat (with_reducible first | refine c_seq ?_ | refine c_block ?_ | refine c_skip ?_ | refine x_then ?_ | refine x_block ?_)
      repeat (with_reducible first | refine c_seq ?_ | refine c_block ?_ | refine c_skip ?_ | refine x_then ?_ | refine x_block ?_)
      refine c_reg ?_
      refine l_pure rfl (s_move  h8 ?_)
      refine l_pure rfl (s_move  h1 ?_)
      refine l_pure rfl (s_leq  rfl rfl ?_)
      refine l_nil ?_
      repeat (with_reducible first | refine c_seq ?_ | refine c_block ?_ | refine c_skip ?_ | refine x_then ?_ | refine x_block ?_)
      refine c_no rfl (decide_eq_false (by omega)) ?_
      repeat (with_reducible first | refine c_seq ?_ | refine c_block ?_ | refine c_skip ?_ | refine x_then ?_ | refine x_block ?_)
      refine c_exit ?_
      repeat (with_reducible first | refine x_then_exit ?_ | refine x_block_exit ?_ | refine x_block_pass rfl ?_)
      repeat (with_reducible first | refine c_seq ?_ | refine c_block ?_ | refine c_skip ?_ | refine x_then ?_ | refine x_block ?_)
      exact ⟨_, rfl, by assumption, by assumption, by assumption, by assumption, .inr ⟨vi h7 (by omega), hS⟩⟩
  clear hS
  rintro ρ w2 ⟨h0, h1, h2, h6, h78⟩
  have key : ∃ k : Nat, ρ 7 = .int .i64 k ∧ Ret Tryz.prog 104 #[.slice (some ⟨b, 0, none⟩) n cp, .int .i64 k, .int .i64 n, .func (.func f) #[] cap.toArray] w2 fun v w' => v = .tuple #[] ∧ St w0 w' ((b, t, (isort (ltC c) L).flatMap enI ++ sp) :: H) := by
    rcases h78 with ⟨h7, hS⟩ | ⟨h7, hS⟩
    · refine ⟨0, h7, ?_⟩
      have hS2 : St w0 w2 ((b, t, ([] ++ L ++ []).flatMap enI ++ sp) :: H) := by simpa using hS
      refine (insertionSort_ok hc [] L [] sp n cp 0 n (by simp [hn]) rfl (by simp [hn]) (fun _ h => h) (by omega) _ hS2).mono ?_
      rintro v w' ⟨rfl, h⟩
      exact ⟨rfl, by simpa using h⟩
    · refine ⟨n, h7, ?_⟩
      have hS2 : St w0 w2 ((b, t, (isort (ltC c) L ++ [] ++ []).flatMap enI ++ sp) :: H) := by simpa using hS
      refine (insertionSort_ok hc (isort (ltC c) L) [] [] sp n cp n n (by simp [hl, hn]) (by rw [hl, hn]) (by simp [hl, hn]) (fun _ h => (by cases h)) (by omega) _ hS2).mono ?_
      rintro v w' ⟨rfl, h⟩
      exact ⟨rfl, by simpa [isort] using h⟩
  obtain ⟨k, h7, hret⟩ := key
  repeat (with_reducible first | refine c_seq ?_ | refine c_block ?_ | refine c_skip ?_ | refine x_then ?_ | refine x_block ?_)
  refine c_reg ?_
  refine l_pure rfl (s_move  h0 ?_)
  refine l_pure rfl (s_move  h7 ?_)
  refine l_pure rfl (s_move  h1 ?_)
  refine l_pure rfl (s_move  h2 ?_)
  refine l_heavy rfl (s_call Tryz.call104 rfl (hret) ?_)
  rintro r w3 ⟨rfl, hS⟩
  refine l_nil ?_
  repeat (with_reducible first | refine c_seq ?_ | refine c_block ?_ | refine c_skip ?_ | refine x_then ?_ | refine x_block ?_)
  refine c_loop (σ := Unit) (fun _ ρ w' => ρ 1 = .int .i64 n ∧ ρ 6 = .int .i64 20 ∧ w' = w3) (fun _ => 0) () ⟨h1, h6, rfl⟩ ?_
  rintro _ ρ w4 ⟨h1, h6, rfl⟩
  repeat (with_reducible first | refine c_seq ?_ | refine c_block ?_ | refine c_skip ?_ | refine x_then ?_ | refine x_block ?_)
  refine c_reg ?_
  refine l_pure rfl (s_move  h6 ?_)
  refine l_pure rfl (s_move  h1 ?_)
  refine l_pure rfl (s_lss  rfl rfl ?_)
  refine l_nil ?_
  repeat (with_reducible first | refine c_seq ?_ | refine c_block ?_ | refine c_skip ?_ | refine x_then ?_ | refine x_block ?_)
  refine c_no rfl (decide_eq_false (by omega)) ?_
  repeat (with_reducible first | refine c_seq ?_ | refine c_block ?_ | refine c_skip ?_ | refine x_then ?_ | refine x_block ?_)
  refine c_exit ?_
  repeat (with_reducible first | refine x_then_exit ?_ | refine x_block_exit ?_ | refine x_block_pass rfl ?_)
  repeat (with_reducible first | refine c_seq ?_ | refine c_block ?_ | refine c_skip ?_ | refine x_then ?_ | refine x_block ?_)
  exact r_none rfl ⟨rfl, hS⟩
theorem SortStable_ok {f : FuncId} {cap : List Value} {c : Int → Int → Int} {w0 : World} {b : Nat} {t : TypeId} {H : List Blk} (L : List Int) (hc : CmpOk f cap c L w0 b t H) (sp : List Value) (n cp : Nat)
    (hn : L.length = n) (h20 : n ≤ 20) (w : World) (hS : St w0 w ((b, t, L.flatMap enI ++ sp) :: H)) :
    Ret Tryz.prog 51 #[.slice (some ⟨b, 0, none⟩) n cp, .func (.func f) #[] cap.toArray] w fun v w' => v = .tuple #[] ∧ St w0 w' ((b, t, (isort (ltC c) L).flatMap enI ++ sp) :: H) := by
  refine enter Tryz.func51 rfl Tryz.ntmps51 rfl ?_
  repeat (with_reducible first | refine c_seq ?_ | refine c_block ?_ | refine c_skip ?_ | refine x_then ?_ | refine x_block ?_)
  refine c_reg ?_
  refine l_pure rfl (s_move  rfl ?_)
  refine l_pure rfl (s_move  rfl ?_)
  refine l_pure rfl (s_leno  rfl ⟨_, Tryz.underlying63⟩ ?_)
  refine l_pure rfl (s_move  rfl ?_)
  refine l_heavy rfl (s_call Tryz.call80 rfl (stable_ok L hc sp n cp hn h20 _ hS) ?_)
  rintro r w3 ⟨rfl, hS⟩
  refine l_nil ?_
  repeat (with_reducible first | refine c_seq ?_ | refine c_block ?_ | refine c_skip ?_ | refine x_then ?_ | refine x_block ?_)
  exact r_none rfl ⟨rfl, hS⟩
end Go.Proofs.YtknccjbkacaelaaGreatDoor
namespace Go.Proofs.YtknccjbkacaelaaGreatDoor
open Go Go.RowKit Go.Sx
theorem sg_mul (p q : Rat) (X Y : Nat) : mkRat (sg (decide (p.num < 0) != decide (q.num < 0)) X) Y = mkRat (sg (decide (p.num < 0)) 1 * sg (decide (q.num < 0)) 1 * X) Y := by
  congr 1
  by_cases h1 : p.num < 0 <;> by_cases h2 : q.num < 0 <;> simp [h1, h2, sg]
theorem sg_abs (n : Int) : sg (decide (n < 0)) 1 * (n.natAbs : Int) = n := by
  by_cases h : n < 0
  · simp [h, sg]; omega
  · simp [h, sg]; omega
theorem mulQ_eq (p q : Rat) : mkRat (sg (decide (p.num < 0) != decide (q.num < 0)) (p.num.natAbs * q.num.natAbs)) (p.den * q.den) = p * q := by
  rw [sg_mul]
  have e : sg (decide (p.num < 0)) 1 * sg (decide (q.num < 0)) 1 * ((p.num.natAbs * q.num.natAbs : Nat) : Int) = p.num * q.num := by
    have h1 := sg_abs p.num
    have h2 := sg_abs q.num
    calc _ = (sg (decide (p.num < 0)) 1 * (p.num.natAbs : Int)) * (sg (decide (q.num < 0)) 1 * (q.num.natAbs : Int)) := by push_cast; grind
      _ = _ := by rw [h1, h2]
  rw [e]
  conv => rhs; rw [← Rat.mkRat_self p, ← Rat.mkRat_self q]
  exact (Rat.mkRat_mul_mkRat _ _ _ _).symm
theorem divQ_eq (p q : Rat) : mkRat (sg (decide (p.num < 0) != decide (q.num < 0)) (p.num.natAbs * q.den)) (p.den * q.num.natAbs) = p / q := by
  by_cases hq : q = 0
  · subst hq
    simp [Rat.mkRat_zero, Rat.div_def]
  have hqn : q.num.natAbs ≠ 0 := fun h => hq (Rat.num_eq_zero.1 (Int.natAbs_eq_zero.1 h))
  have key : mkRat (sg (decide (p.num < 0) != decide (q.num < 0)) (p.num.natAbs * q.den)) (p.den * q.num.natAbs) * q = p := by
    rw [sg_mul]
    conv => lhs; rhs; rw [← Rat.mkRat_self q]
    rw [Rat.mkRat_mul_mkRat]
    have h1 := sg_abs p.num
    have h2 := sg_abs q.num
    have hs : sg (decide (q.num < 0)) 1 * sg (decide (q.num < 0)) 1 = 1 := by
      by_cases h : q.num < 0 <;> simp [h, sg]
    have e : sg (decide (p.num < 0)) 1 * sg (decide (q.num < 0)) 1 * ((p.num.natAbs * q.den : Nat) : Int) * q.num = p.num * ((q.num.natAbs * q.den : Nat) : Int) := by
      calc _ = (sg (decide (p.num < 0)) 1 * (p.num.natAbs : Int)) * (sg (decide (q.num < 0)) 1 * q.num * (q.den : Int)) := by push_cast; grind
        _ = p.num * (sg (decide (q.num < 0)) 1 * (sg (decide (q.num < 0)) 1 * (q.num.natAbs : Int)) * (q.den : Int)) := by rw [h1, h2]
        _ = p.num * ((sg (decide (q.num < 0)) 1 * sg (decide (q.num < 0)) 1) * (q.num.natAbs : Int) * (q.den : Int)) := by grind
        _ = _ := by rw [hs]; push_cast; grind
    rw [e, Nat.mul_assoc]
    have := Rat.mkRat_mul_right (n := p.num) (d := p.den) (a := q.num.natAbs * q.den) (Nat.mul_ne_zero hqn q.den_nz)
    rw [this, Rat.mkRat_self]
  rw [← key, Rat.div_def, Rat.mul_assoc, Rat.mul_inv_cancel _ hq, Rat.mul_one, key]
set_option maxHeartbeats 1000000 in
theorem QMultiply_ok (r s : RR) (w : World) (hr : Lr r + Lr s ≤ MX) :
    Ret Tryz.prog 12 #[aggR r, aggR s] w fun v w' => v = aggR (ofQ (toQ r * toQ s)) ∧ Below w.heap.size w w' := by
  have hM : MX = 1099511627776 := rfl
  have hL1 := L_toQ r
  have hL2 := L_toQ s
  obtain ⟨p, hp⟩ : ∃ p, p = toQ r := ⟨_, rfl⟩
  obtain ⟨q, hq⟩ : ∃ q, q = toQ s := ⟨_, rfl⟩
  have hc1 := fun w => clean_ok r w (show Lr r ≤ MX by omega)
  have hc2 := fun w => clean_ok s w (show Lr s ≤ MX by omega)
  unfold fx at hc1 hc2
  rw [← hp] at hL1 hc1 ⊢
  rw [← hq] at hL2 hc2 ⊢
  have hn1 := L_num p
  have hn2 := L_num q
  have hd1 := L_den p
  have hd2 := L_den q
  have hm1 := natS_size_mul p.num.natAbs q.num.natAbs
  have hm2 := natS_size_mul p.den q.den
  have hD2 : val (natS (p.den * q.den)) ≠ 0 := by rw [val_natS]; exact Nat.mul_ne_zero p.den_nz q.den_nz
  have hred := fun w => reduced_ok (decide (p.num < 0) != decide (q.num < 0)) (natS (p.num.natAbs * q.num.natAbs)) (natS (p.den * q.den)) w (by omega) (by omega) hD2
  rw [val_natS, val_natS, mulQ_eq] at hred
  have hS := St.init w
  refine enter Tryz.func12 rfl Tryz.ntmps12 rfl ?_
  repeat (with_reducible first | refine c_seq ?_ | refine c_block ?_ | refine c_skip ?_ | refine x_then ?_ | refine x_block ?_)
  refine c_reg ?_
  refine l_heavy rfl (s_box (new := encR r)  rfl rfl hS ?_)
  intro b1 wz2 hS hBz2
  refine l_heavy rfl (s_box (new := encR s)  rfl rfl hS ?_)
  intro b3 wz4 hS hBz4
  refine l_heavy rfl (s_alloc  vi_29 hS ?_)
  intro b5 wz6 hS hBz6
  refine l_nil ?_
  repeat (with_reducible first | refine c_seq ?_ | refine c_block ?_ | refine c_skip ?_ | refine x_then ?_ | refine x_block ?_)
  refine c_draw [(0, .read), (2, .read), (1, .grow), (3, .grow), (4, .free), (5, .free)] (by kernel_rfl) (by kernel_rfl) hS ?_
  intro wz7 hS hBz7
  refine w_read rfl rfl (s_ldo (k := 2)  rfl vi_29 hS rfl rfl rfl (.inl rfl) ?_)
  refine w_read rfl rfl (s_ldo (k := 1)  rfl vi_29 hS rfl rfl rfl (.inl rfl) ?_)
  refine w_grow rfl rfl (s_call Tryz.call34 rfl (hc1 _) ?_)
  rintro _ wc8 ⟨rfl, hBc8⟩
  replace hS := hS.grow hBc8
  refine ⟨hBc8, ?_⟩
  refine w_grow rfl rfl (s_call Tryz.call34 rfl (hc2 _) ?_)
  rintro _ wc9 ⟨rfl, hBc9⟩
  replace hS := hS.grow hBc9
  refine ⟨hBc9, ?_⟩
  refine w_free rfl rfl (s_sta (k := 2)  rfl rfl vi_29 hS rfl rfl rfl (Nat.le_of_ble_eq_true rfl) rfl ?_)
  intro wz10 hS
  refine w_free rfl rfl (s_sta (k := 1)  rfl rfl vi_29 hS rfl rfl rfl (Nat.le_of_ble_eq_true rfl) rfl ?_)
  intro wz11 hS
  refine w_end ?_
  repeat (with_reducible first | refine c_seq ?_ | refine c_block ?_ | refine c_skip ?_ | refine x_then ?_ | refine x_block ?_)
  refine c_draw [(0, .pure), (1, .read), (2, .pure), (3, .read), (4, .pure), (5, .pure), (6, .read), (7, .pure), (8, .read), (10, .read), (12, .read), (9, .grow), (11, .grow), (13, .grow), (14, .grow), (15, .grow), (16, .free)] (by kernel_rfl) (by kernel_rfl) hS ?_
  intro wz12 hS hBz12
  refine w_pure rfl rfl (s_fld  rfl fo_29_0 ?_)
  refine w_read rfl rfl (s_ldo (k := 2)  rfl vi_4 hS rfl rfl rfl (.inr rfl) ?_)
  refine w_pure rfl rfl (s_fld  rfl fo_29_0 ?_)
  refine w_read rfl rfl (s_ldo (k := 1)  rfl vi_4 hS rfl rfl rfl (.inr rfl) ?_)
  refine w_pure rfl rfl (s_neb  rfl rfl Tryz.underlying4 ?_)
  refine w_pure rfl rfl (s_fld  rfl fo_29_1 ?_)
  refine w_read rfl rfl (s_ldo (k := 2)  rfl vi_9 hS rfl rfl rfl (.inr rfl) ?_)
  refine w_pure rfl rfl (s_fld  rfl fo_29_1 ?_)
  refine w_read rfl rfl (s_ldo (k := 1)  rfl vi_9 hS rfl rfl rfl (.inr rfl) ?_)
  refine w_read rfl rfl (s_ldo (k := 2)  rfl vi_29 hS rfl rfl rfl (.inl rfl) ?_)
  refine w_read rfl rfl (s_ldo (k := 1)  rfl vi_29 hS rfl rfl rfl (.inl rfl) ?_)
  refine w_grow rfl rfl (s_call Tryz.call36 rfl (N_mul p.num.natAbs q.num.natAbs _ (by omega) (by omega)) ?_)
  rintro _ wc13 ⟨rfl, hBc13⟩
  replace hS := hS.grow hBc13
  refine ⟨hBc13, ?_⟩
  refine w_grow rfl rfl (s_call Tryz.call37 rfl (den_ok p _) ?_)
  rintro _ wc14 ⟨rfl, hBc14⟩
  replace hS := hS.grow hBc14
  refine ⟨hBc14, ?_⟩
  refine w_grow rfl rfl (s_call Tryz.call37 rfl (den_ok q _) ?_)
  rintro _ wc15 ⟨rfl, hBc15⟩
  replace hS := hS.grow hBc15
  refine ⟨hBc15, ?_⟩
  refine w_grow rfl rfl (s_call Tryz.call36 rfl (N_mul p.den q.den _ (by omega) (by omega)) ?_)
  rintro _ wc16 ⟨rfl, hBc16⟩
  replace hS := hS.grow hBc16
  refine ⟨hBc16, ?_⟩
  refine w_grow rfl rfl (s_call Tryz.call35 rfl (hred _) ?_)
  rintro _ wc17 ⟨rfl, hBc17⟩
  replace hS := hS.grow hBc17
  refine ⟨hBc17, ?_⟩
  refine w_free rfl rfl (s_sta (k := 0)  rfl rfl vi_29 hS rfl rfl rfl (Nat.le_of_ble_eq_true rfl) rfl ?_)
  intro wz18 hS
  refine w_end ?_
  repeat (with_reducible first | refine c_seq ?_ | refine c_block ?_ | refine c_skip ?_ | refine x_then ?_ | refine x_block ?_)
  refine c_ret ?_
  repeat (with_reducible first | refine x_then_ret ?_ | refine x_block_ret ?_)
  refine r_cell (k := 0) rfl rfl vi_29 hS rfl rfl ?_
  exact ⟨rfl, hS.below⟩
theorem QMake_ok (b : Bool) (num den : ByteArray) (w : World) (hn : num.size ≤ 2 * MX) (hd : den.size ≤ 2 * MX) (h0 : val den ≠ 0) :
    Ret Tryz.prog 106 #[.bool b, .string num, .string den] w fun v w' => v = .tuple #[aggR (ofQ (mkRat (sg b (val num)) (val den))), .bool true] ∧ Below w.heap.size w w' := by
  have hM : MX = 1099511627776 := rfl
  have hS := St.init w
  refine enter Tryz.func106 rfl Tryz.ntmps106 rfl ?_
  repeat (with_reducible first | refine c_seq ?_ | refine c_block ?_ | refine c_skip ?_ | refine x_then ?_ | refine x_block ?_)
  refine c_reg ?_
  refine l_heavy rfl (s_alloc  vi_29 hS ?_)
  intro b1 wz2 hS hBz2
  refine l_pure rfl (s_asg  rfl ?_)
  refine l_nil ?_
  repeat (with_reducible first | refine c_seq ?_ | refine c_block ?_ | refine c_skip ?_ | refine x_then ?_ | refine x_block ?_)
  refine c_reg ?_
  refine l_pure rfl (s_move  rfl ?_)
  refine l_heavy rfl (s_call Tryz.call62 rfl (Normalize_ok _ _ (show den.size ≤ _ by omega)) ?_)
  rintro _ wq3 ⟨rfl, hq3⟩
  replace hq3 := hq3.symm
  subst hq3
  refine l_pure rfl (s_eqs  rfl rfl ?_)
  refine l_nil ?_
  repeat (with_reducible first | refine c_seq ?_ | refine c_block ?_ | refine c_skip ?_ | refine x_then ?_ | refine x_block ?_)
  refine c_no rfl (decide_eq_false (fun h => h0 (natS_nil.1 h))) ?_
  repeat (with_reducible first | refine c_seq ?_ | refine c_block ?_ | refine c_skip ?_ | refine x_then ?_ | refine x_block ?_)
  refine c_reg ?_
  refine l_pure rfl (s_move  rfl ?_)
  refine l_pure rfl (s_move  rfl ?_)
  refine l_pure rfl (s_move  rfl ?_)
  refine l_heavy rfl (s_call Tryz.call35 rfl (reduced_ok b num den _ hn hd h0) ?_)
  rintro _ wc4 ⟨rfl, hBc4⟩
  replace hS := hS.grow hBc4
  refine l_heavy rfl (s_sta (k := 0)  rfl rfl vi_29 hS rfl rfl rfl (Nat.le_of_ble_eq_true rfl) rfl ?_)
  intro wz5 hS
  refine l_pure rfl (s_asg  rfl ?_)
  refine l_nil ?_
  repeat (with_reducible first | refine c_seq ?_ | refine c_block ?_ | refine c_skip ?_ | refine x_then ?_ | refine x_block ?_)
  refine c_ret ?_
  repeat (with_reducible first | refine x_then_ret ?_ | refine x_block_ret ?_)
  refine r_cell_tmp (k := 0) rfl rfl rfl vi_29 hS rfl rfl ?_
  exact ⟨rfl, hS.below⟩
set_option maxHeartbeats 1000000 in
theorem QDivide_ok (r s : RR) (w : World) (hr : Lr r + Lr s ≤ MX) (hs : toQ s ≠ 0) :
    Ret Tryz.prog 81 #[aggR r, aggR s] w fun v w' => v = .tuple #[aggR (ofQ (toQ r / toQ s)), .bool true] ∧ Below w.heap.size w w' := by
  have hM : MX = 1099511627776 := rfl
  have hL1 := L_toQ r
  have hL2 := L_toQ s
  obtain ⟨p, hp⟩ : ∃ p, p = toQ r := ⟨_, rfl⟩
  obtain ⟨q, hq⟩ : ∃ q, q = toQ s := ⟨_, rfl⟩
  have hc1 := fun w => clean_ok r w (show Lr r ≤ MX by omega)
  have hc2 := fun w => clean_ok s w (show Lr s ≤ MX by omega)
  unfold fx at hc1 hc2
  rw [← hp] at hL1 hc1 ⊢
  rw [← hq] at hL2 hc2 hs ⊢
  have hn1 := L_num p
  have hn2 := L_num q
  have hd1 := L_den p
  have hd2 := L_den q
  have hm1 := natS_size_mul p.num.natAbs q.den
  have hm2 := natS_size_mul p.den q.num.natAbs
  have hqn : q.num.natAbs ≠ 0 := fun h => hs (Rat.num_eq_zero.1 (Int.natAbs_eq_zero.1 h))
  have hD2 : val (natS (p.den * q.num.natAbs)) ≠ 0 := by rw [val_natS]; exact Nat.mul_ne_zero p.den_nz hqn
  have hred := fun w => QMake_ok (decide (p.num < 0) != decide (q.num < 0)) (natS (p.num.natAbs * q.den)) (natS (p.den * q.num.natAbs)) w (by omega) (by omega) hD2
  rw [val_natS, val_natS, divQ_eq] at hred
  have hS := St.init w
  refine enter Tryz.func81 rfl Tryz.ntmps81 rfl ?_
  repeat (with_reducible first | refine c_seq ?_ | refine c_block ?_ | refine c_skip ?_ | refine x_then ?_ | refine x_block ?_)
  refine c_reg ?_
  refine l_heavy rfl (s_box (new := encR r)  rfl rfl hS ?_)
  intro b1 wz2 hS hBz2
  refine l_heavy rfl (s_box (new := encR s)  rfl rfl hS ?_)
  intro b3 wz4 hS hBz4
  refine l_heavy rfl (s_alloc  vi_29 hS ?_)
  intro b5 wz6 hS hBz6
  refine l_pure rfl (s_asg  rfl ?_)
  refine l_nil ?_
  repeat (with_reducible first | refine c_seq ?_ | refine c_block ?_ | refine c_skip ?_ | refine x_then ?_ | refine x_block ?_)
  refine c_draw [(0, .read), (2, .read), (1, .grow), (3, .grow), (4, .free), (5, .free)] (by kernel_rfl) (by kernel_rfl) hS ?_
  intro wz7 hS hBz7
  refine w_read rfl rfl (s_ldo (k := 2)  rfl vi_29 hS rfl rfl rfl (.inl rfl) ?_)
  refine w_read rfl rfl (s_ldo (k := 1)  rfl vi_29 hS rfl rfl rfl (.inl rfl) ?_)
  refine w_grow rfl rfl (s_call Tryz.call34 rfl (hc1 _) ?_)
  rintro _ wc8 ⟨rfl, hBc8⟩
  replace hS := hS.grow hBc8
  refine ⟨hBc8, ?_⟩
  refine w_grow rfl rfl (s_call Tryz.call34 rfl (hc2 _) ?_)
  rintro _ wc9 ⟨rfl, hBc9⟩
  replace hS := hS.grow hBc9
  refine ⟨hBc9, ?_⟩
  refine w_free rfl rfl (s_sta (k := 2)  rfl rfl vi_29 hS rfl rfl rfl (Nat.le_of_ble_eq_true rfl) rfl ?_)
  intro wz10 hS
  refine w_free rfl rfl (s_sta (k := 1)  rfl rfl vi_29 hS rfl rfl rfl (Nat.le_of_ble_eq_true rfl) rfl ?_)
  intro wz11 hS
  refine w_end ?_
  repeat (with_reducible first | refine c_seq ?_ | refine c_block ?_ | refine c_skip ?_ | refine x_then ?_ | refine x_block ?_)
  refine c_draw [(0, .pure), (1, .read), (2, .pure), (3, .read), (4, .pure), (5, .pure), (6, .read), (7, .read), (10, .read), (12, .pure), (13, .read), (8, .grow), (9, .grow), (11, .grow), (14, .grow), (15, .grow), (16, .pure), (17, .pure), (18, .free), (19, .pure)] (by kernel_rfl) (by kernel_rfl) hS ?_
  intro wz12 hS hBz12
  refine w_pure rfl rfl (s_fld  rfl fo_29_0 ?_)
  refine w_read rfl rfl (s_ldo (k := 2)  rfl vi_4 hS rfl rfl rfl (.inr rfl) ?_)
  refine w_pure rfl rfl (s_fld  rfl fo_29_0 ?_)
  refine w_read rfl rfl (s_ldo (k := 1)  rfl vi_4 hS rfl rfl rfl (.inr rfl) ?_)
  refine w_pure rfl rfl (s_neb  rfl rfl Tryz.underlying4 ?_)
  refine w_pure rfl rfl (s_fld  rfl fo_29_1 ?_)
  refine w_read rfl rfl (s_ldo (k := 2)  rfl vi_9 hS rfl rfl rfl (.inr rfl) ?_)
  refine w_read rfl rfl (s_ldo (k := 1)  rfl vi_29 hS rfl rfl rfl (.inl rfl) ?_)
  refine w_read rfl rfl (s_ldo (k := 2)  rfl vi_29 hS rfl rfl rfl (.inl rfl) ?_)
  refine w_pure rfl rfl (s_fld  rfl fo_29_1 ?_)
  refine w_read rfl rfl (s_ldo (k := 1)  rfl vi_9 hS rfl rfl rfl (.inr rfl) ?_)
  refine w_grow rfl rfl (s_call Tryz.call37 rfl (den_ok q _) ?_)
  rintro _ wc13 ⟨rfl, hBc13⟩
  replace hS := hS.grow hBc13
  refine ⟨hBc13, ?_⟩
  refine w_grow rfl rfl (s_call Tryz.call36 rfl (N_mul p.num.natAbs q.den _ (by omega) (by omega)) ?_)
  rintro _ wc14 ⟨rfl, hBc14⟩
  replace hS := hS.grow hBc14
  refine ⟨hBc14, ?_⟩
  refine w_grow rfl rfl (s_call Tryz.call37 rfl (den_ok p _) ?_)
  rintro _ wc15 ⟨rfl, hBc15⟩
  replace hS := hS.grow hBc15
  refine ⟨hBc15, ?_⟩
  refine w_grow rfl rfl (s_call Tryz.call36 rfl (N_mul p.den q.num.natAbs _ (by omega) (by omega)) ?_)
  rintro _ wc16 ⟨rfl, hBc16⟩
  replace hS := hS.grow hBc16
  refine ⟨hBc16, ?_⟩
  refine w_grow rfl rfl (s_call Tryz.call106 rfl (hred _) ?_)
  rintro _ wc17 ⟨rfl, hBc17⟩
  replace hS := hS.grow hBc17
  refine ⟨hBc17, ?_⟩
  refine w_pure rfl rfl (s_ext  rfl rfl ?_)
  refine w_pure rfl rfl (s_ext  rfl rfl ?_)
  refine w_free rfl rfl (s_sta (k := 0)  rfl rfl vi_29 hS rfl rfl rfl (Nat.le_of_ble_eq_true rfl) rfl ?_)
  intro wz18 hS
  refine w_pure rfl rfl (s_asg  rfl ?_)
  refine w_end ?_
  repeat (with_reducible first | refine c_seq ?_ | refine c_block ?_ | refine c_skip ?_ | refine x_then ?_ | refine x_block ?_)
  refine c_ret ?_
  repeat (with_reducible first | refine x_then_ret ?_ | refine x_block_ret ?_)
  refine r_cell_tmp (k := 0) rfl rfl rfl vi_29 hS rfl rfl ?_
  exact ⟨rfl, hS.below⟩
end Go.Proofs.YtknccjbkacaelaaGreatDoor
namespace Go.Proofs.YtknccjbkacaelaaGreatDoor
open Go Go.RowKit Go.Sx
structure Ob where
  deb : Int
  cre : Int
  amt : RR
  inc : Int
  acq : Int
  cont : Bool
def zOb : Ob := ⟨0, 0, zRR, 0, 0, false⟩
def isDay (d : Int) : Bool := decide (0 ≤ d ∧ d ≤ 1048576)
def eligB (o : Ob) (c s : Int) : Bool := isDay c && isDay s && !o.cont && decide (o.inc ≤ c) && (decide (o.acq = o.inc) || decide (o.acq < c - s))
def gO (l : List Ob) (i : Nat) : Ob := l.getD i zOb
def goes (l : List Ob) (c s a b : Int) (i : Nat) : Bool := decide ((gO l i).deb = a) && decide ((gO l i).cre = b) && eligB (gO l i) c s
/-- i goes ahead of k. -/
def ahead (l : List Ob) (i k : Nat) : Prop := (gO l i).inc < (gO l k).inc ∨ ((gO l i).inc = (gO l k).inc ∧ i < k)
def totS (f : Nat → Rat) (idx : List Nat) : Rat := sumQ (idx.map f)
theorem sumQ_cons (q : Rat) (l : List Rat) : sumQ (q :: l) = q + sumQ l := by
  have key : ∀ (l : List Rat) (a : Rat), l.foldl (· + ·) a = a + sumQ l := by
    intro l
    induction l with
    | nil => intro a; show a = a + 0; grind
    | cons x l ih =>
      intro a
      rw [List.foldl_cons, ih]
      unfold sumQ
      rw [List.foldl_cons, ih]
      grind
  show l.foldl (· + ·) (0 + q) = _
  rw [key]; grind
theorem sumQ_perm {l m : List Rat} (h : l.Perm m) : sumQ l = sumQ m := by
  induction h with
  | nil => rfl
  | cons x _ ih => rw [sumQ_cons, sumQ_cons, ih]
  | swap x y l => rw [sumQ_cons, sumQ_cons, sumQ_cons, sumQ_cons]; grind
  | trans _ _ ih1 ih2 => rw [ih1, ih2]
theorem sumQ_nonneg {l : List Rat} (h : ∀ q ∈ l, 0 ≤ q) : 0 ≤ sumQ l := by
  induction l with
  | nil => exact Rat.le_refl
  | cons q l ih =>
    rw [sumQ_cons]
    have h1 := ih fun x hx => h x (List.mem_cons_of_mem _ hx)
    have h2 := h q (List.mem_cons_self ..)
    grind
theorem L_sumQ' {l : List Rat} {K : Nat} (h : ∀ q ∈ l, L q ≤ K) (k : Nat) : L (sumQ (l.take k)) ≤ k * (K + 1) + 1 := by
  induction k with
  | zero => rw [List.take_zero]; show L 0 ≤ _; rw [L_zero]; omega
  | succ k ih =>
    by_cases hk : k < l.length
    · rw [take_succ' l k 0 hk, sumQ_snoc]
      have h1 := L_add (sumQ (l.take k)) (l.getD k 0)
      have h2 := h _ (getD_mem l k 0 hk)
      rw [Nat.add_mul]; omega
    · rw [List.take_of_length_le (by omega)]
      rw [List.take_of_length_le (by omega)] at ih
      rw [Nat.add_mul]; omega
end Go.Proofs.YtknccjbkacaelaaGreatDoor
namespace Go.Proofs.YtknccjbkacaelaaGreatDoor
open Go Go.RowKit Go.Sx
def zI (L : List Nat) : List Int := L.map fun i : Nat => (i : Int)
theorem zI_len (L : List Nat) : (zI L).length = L.length := List.length_map _
theorem zI_get (L : List Nat) {k : Nat} (h : k < L.length) : (zI L).getD k 0 = ((L.getD k 0 : Nat) : Int) := by
  unfold zI
  rw [List.getD_eq_getElem?_getD, List.getElem?_map, List.getD_eq_getElem?_getD, List.getElem?_eq_getElem h]; rfl
theorem zI_drop (L : List Nat) (t : Nat) : (zI L).drop t = zI (L.drop t) := by unfold zI; rw [List.map_drop]
theorem zI_take (L : List Nat) (t : Nat) : (zI L).take t = zI (L.take t) := by unfold zI; rw [List.map_take]
/-- Of a block that holds a table of numbers: it reads as a slice. -/
theorem sl_tab {w0 w : World} {b n : Nat} {t : TypeId} {q : Nat → Rat} {X : List Blk} (hn : n ≤ 1000000) (h : St w0 w ((b, t, (tab n fun i => ofQ (q i)).flatMap encR) :: X)) : Sl encR 3 w (.slice (some ⟨b, 0, none⟩) n n) (tab n fun i => ofQ (q i)) := by
  have h1 := h.sle (k := 0) (L := tab n fun i => ofQ (q i)) (n := n) (cap := n) rfl encR_len (by rw [tab_len]; exact Nat.le_refl _) (Nat.le_refl _) (by omega)
  rwa [List.take_of_length_le (by rw [tab_len]; exact Nat.le_refl _)] at h1
theorem L_totS {q : Nat → Rat} {J : List Nat} {K : Nat} (h : ∀ i ∈ J, L (q i) ≤ K) : L (totS q J) ≤ J.length * (K + 1) + 1 := by
  have h1 := L_sumQ' (l := J.map q) (K := K) (fun x hx => by obtain ⟨j, hj, rfl⟩ := List.mem_map.1 hx; exact h j hj) J.length
  rw [List.take_of_length_le (by simp)] at h1
  exact h1
theorem totS_snoc (f : Nat → Rat) (J : List Nat) (i : Nat) : totS f (J ++ [i]) = totS f J + f i := by
  unfold totS; rw [List.map_append, List.map_cons, List.map_nil, sumQ_snoc]
theorem totS_cons (f : Nat → Rat) (J : List Nat) (i : Nat) : totS f (i :: J) = f i + totS f J := by
  unfold totS; rw [List.map_cons, sumQ_cons]
theorem totS_nil (f : Nat → Rat) : totS f [] = 0 := rfl
theorem totS_append (f : Nat → Rat) (A B : List Nat) : totS f (A ++ B) = totS f A + totS f B := by
  induction A with
  | nil => rw [List.nil_append, totS_nil]; grind
  | cons a A ih => rw [List.cons_append, totS_cons, totS_cons, ih]; grind
theorem totS_congr {f g : Nat → Rat} {J : List Nat} (h : ∀ i ∈ J, f i = g i) : totS f J = totS g J := by
  unfold totS; rw [List.map_congr_left h]
theorem totS_nonneg {f : Nat → Rat} {J : List Nat} (h : ∀ i ∈ J, 0 ≤ f i) : 0 ≤ totS f J := sumQ_nonneg fun q hq => by
  obtain ⟨i, hi, rfl⟩ := List.mem_map.1 hq; exact h i hi
theorem totS_mul (f : Nat → Rat) (J : List Nat) (c : Rat) : totS (fun i => f i * c) J = totS f J * c := by
  induction J with
  | nil => show (0 : Rat) = 0 * c; grind
  | cons a J ih => rw [totS_cons, totS_cons, ih]; grind
theorem totS_perm {f : Nat → Rat} {J M : List Nat} (h : J.Perm M) : totS f J = totS f M := sumQ_perm (h.map f)
def gC (cs : List Ch) (i : Nat) : Ch := cs.getD i zCh
def pr (cs : List Ch) (i : Nat) : Int := (gC cs i).prio
def lower (cs : List Ch) (i k : Nat) : Bool := decide (pr cs i < pr cs k)
def ordC (cs : List Ch) : List Nat := isort (lower cs) (List.range cs.length)
theorem ordC_perm (cs : List Ch) : (ordC cs).Perm (List.range cs.length) := isort_perm _ _
theorem ordC_len (cs : List Ch) : (ordC cs).length = cs.length := by rw [(ordC_perm cs).length_eq, List.length_range]
theorem ordC_mem {cs : List Ch} {i : Nat} : i ∈ ordC cs ↔ i < cs.length := by rw [(ordC_perm cs).mem_iff, List.mem_range]
theorem ordC_nodup (cs : List Ch) : (ordC cs).Nodup := (ordC_perm cs).nodup_iff.2 List.nodup_range
/-- i stands ahead of k. -/
def aheadC (cs : List Ch) (i k : Nat) : Prop := pr cs i < pr cs k ∨ (pr cs i = pr cs k ∧ i < k)
theorem ordC_sorted (cs : List Ch) : (ordC cs).Pairwise (aheadC cs) := by
  have := isort_sorted (lt := lower cs) (fun a b h => by unfold lower at *; simp at *; omega) (fun a b c h1 h2 => by unfold lower at *; simp at *; omega) (L := List.range cs.length) (R := (· < ·)) List.pairwise_lt_range
  refine this.imp ?_
  intro a b h
  unfold aheadC
  unfold lower at h
  simp only [decide_eq_false_iff_not] at h
  omega
def cmpC (cs : List Ch) (x y : Int) : Int := if pr cs x.toNat < pr cs y.toNat then -1 else if pr cs y.toNat < pr cs x.toNat then 1 else 0
theorem ltC_cmpC (cs : List Ch) (i k : Nat) : ltC (cmpC cs) (i : Int) (k : Int) = lower cs i k := by
  unfold ltC cmpC lower
  rw [decide_eq_decide, Int.toNat_natCast, Int.toNat_natCast]
  split
  · simp_all
  · split <;> simp_all
theorem sort_zC (cs : List Ch) (L : List Nat) : isort (ltC (cmpC cs)) (zI L) = zI (isort (lower cs) L) := isort_map (f := fun i : Nat => (i : Int)) (fun i k => ltC_cmpC cs i k) L
structure CS where
  op : Nat → Rat
  cap : Nat → Rat
def roomQ (c : Ch) (q : Rat) : Rat := if c.lim = true then minQ (maxQ q 0) (toQ c.limit) else maxQ q 0
def clm (cs : List Ch) (i : Nat) : Nat := (gC cs i).claim.toNat
def cstp (cs : List Ch) (s : CS) (i : Nat) : CS :=
  ⟨fun k => if k = clm cs i then s.op k - roomQ (gC cs i) (s.op (clm cs i)) else s.op k, fun j => if j = i then roomQ (gC cs i) (s.op (clm cs i)) else s.cap j⟩
def kapS (cs : List Ch) (ow : Nat → Rat) (J : List Nat) : CS := J.foldl (cstp cs) ⟨ow, fun _ => 0⟩
theorem kapS_snoc (cs : List Ch) (ow : Nat → Rat) (J : List Nat) (i : Nat) : kapS cs ow (J ++ [i]) = cstp cs (kapS cs ow J) i := by unfold kapS; rw [List.foldl_append]; rfl
/-- The capacity of charge i. -/
def kapQ (cs : List Ch) (ow : Nat → Rat) (i : Nat) : Rat := (kapS cs ow (ordC cs)).cap i
/-- Charges and what is owed are as Check wants them, and of a size. -/
structure ChOk (cs : List Ch) (ow : Nat → Rat) (m K : Nat) : Prop where
  n8 : cs.length ≤ 8
  clm : ∀ i, i < cs.length → 0 ≤ (gC cs i).claim ∧ (gC cs i).claim < m
  lim : ∀ i, i < cs.length → (gC cs i).lim = true → 0 ≤ toQ (gC cs i).limit
  lB : ∀ i, i < cs.length → Lr (gC cs i).limit ≤ K
  ow0 : ∀ c, c < m → 0 ≤ ow c
  oB : ∀ c, c < m → L (ow c) ≤ K
theorem ChOk.cl {cs : List Ch} {ow : Nat → Rat} {m K : Nat} (h : ChOk cs ow m K) {i : Nat} (hi : i < cs.length) : Proofs.YtknccjbkacaelaaGreatDoor.clm cs i < m ∧ (gC cs i).claim = (Proofs.YtknccjbkacaelaaGreatDoor.clm cs i : Nat) := by
  have := h.clm i hi
  unfold Proofs.YtknccjbkacaelaaGreatDoor.clm
  omega
theorem maxQ_pos {q : Rat} (h : 0 ≤ q) : maxQ q 0 = q := if_pos h
theorem roomQ_of {c : Ch} {q : Rat} (h : 0 ≤ q) : roomQ c q = if c.lim = true then minQ q (toQ c.limit) else q := by unfold roomQ; rw [maxQ_pos h]
theorem room_bound {c : Ch} {q : Rat} (h : 0 ≤ q) (hl : c.lim = true → 0 ≤ toQ c.limit) : 0 ≤ roomQ c q ∧ roomQ c q ≤ q := by
  rw [roomQ_of h]
  split
  · next g =>
    have := hl g
    unfold minQ
    split
    · exact ⟨h, Rat.le_refl⟩
    · exact ⟨this, by grind⟩
  · exact ⟨h, Rat.le_refl⟩
theorem kapS_bound {cs : List Ch} {ow : Nat → Rat} {m K : Nat} (h : ChOk cs ow m K) {J : List Nat} (hJ : ∀ i ∈ J, i < cs.length) (k : Nat) (hk : k ≤ J.length) :
    (∀ c, c < m → 0 ≤ (kapS cs ow (J.take k)).op c ∧ (kapS cs ow (J.take k)).op c ≤ ow c ∧ L ((kapS cs ow (J.take k)).op c) ≤ K + k * (K + 1) ) ∧
    (∀ i, 0 ≤ (kapS cs ow (J.take k)).cap i ∧ L ((kapS cs ow (J.take k)).cap i) ≤ K + k * (K + 1) + 1) := by
  induction k with
  | zero => exact ⟨fun c hc => ⟨h.ow0 c hc, Rat.le_refl, by have := h.oB c hc; show L (ow c) ≤ _; omega⟩, fun i => ⟨Rat.le_refl, by show L 0 ≤ _; rw [L_zero]; omega⟩⟩
  | succ k ih =>
    obtain ⟨ih1, ih2⟩ := ih (by omega)
    have hlt : k < J.length := by omega
    rw [take_succ' J k 0 hlt, kapS_snoc]
    obtain ⟨i, hi⟩ : ∃ i, i = J.getD k 0 := ⟨_, rfl⟩
    have hil : i < cs.length := hJ i (by rw [hi]; exact getD_mem J k 0 hlt)
    rw [← hi]
    obtain ⟨S, hS⟩ : ∃ S, S = kapS cs ow (J.take k) := ⟨_, rfl⟩
    rw [← hS] at ih1 ih2 ⊢
    obtain ⟨hc1, hc2⟩ := h.cl hil
    obtain ⟨o1, o2, o3⟩ := ih1 _ hc1
    obtain ⟨r1, r2⟩ := room_bound (c := gC cs i) o1 (h.lim i hil)
    have hLim := h.lB i hil
    have hLt := L_toQ (gC cs i).limit
    have hrm : (roomQ (gC cs i) (S.op (clm cs i)) = S.op (clm cs i)) ∨ roomQ (gC cs i) (S.op (clm cs i)) = toQ (gC cs i).limit := by
      rw [roomQ_of o1]
      split
      · unfold minQ; split
        · exact .inl rfl
        · exact .inr rfl
      · exact .inl rfl
    rw [Nat.add_mul]
    refine ⟨fun c hc => ?_, fun j => ?_⟩
    · show 0 ≤ (if c = clm cs i then _ else _) ∧ (if c = clm cs i then _ else _) ≤ _ ∧ L (if c = clm cs i then _ else _) ≤ _
      by_cases e : c = clm cs i
      · subst e
        rw [if_pos rfl]
        refine ⟨by grind, by grind, ?_⟩
        rcases hrm with e | e
        · rw [e, show S.op (clm cs i) - S.op (clm cs i) = 0 by grind, L_zero]; omega
        · rw [e]
          have := L_sub (S.op (clm cs i)) (toQ (gC cs i).limit)
          omega
      · rw [if_neg e]
        obtain ⟨a1, a2, a3⟩ := ih1 c hc
        exact ⟨a1, a2, by omega⟩
    · show 0 ≤ (if j = i then _ else _) ∧ L (if j = i then _ else _) ≤ _
      by_cases e : j = i
      · rw [if_pos e]
        refine ⟨r1, ?_⟩
        rcases hrm with e | e <;> rw [e] <;> omega
      · rw [if_neg e]
        obtain ⟨a1, a2⟩ := ih2 j
        exact ⟨a1, by omega⟩
theorem kap_bound {cs : List Ch} {ow : Nat → Rat} {m K : Nat} (h : ChOk cs ow m K) (i : Nat) : 0 ≤ kapQ cs ow i ∧ L (kapQ cs ow i) ≤ 9 * K + 9 := by
  have h8 := h.n8
  have hol := ordC_len cs
  obtain ⟨_, h2⟩ := kapS_bound h (J := ordC cs) (fun i hi => ordC_mem.1 hi) (ordC cs).length (Nat.le_refl _)
  rw [List.take_of_length_le (Nat.le_refl _)] at h2
  obtain ⟨a, b⟩ := h2 i
  have : (ordC cs).length * (K + 1) ≤ 8 * (K + 1) := Nat.mul_le_mul_right _ (by omega)
  exact ⟨a, by unfold kapQ; omega⟩
def quoQ (m s : Rat) : Rat := if m < s then m / s else 1
/-- What charges of a lower priority number take, and those of the same. -/
def befQ (cs : List Ch) (kp : Nat → Rat) (p : Int) : Rat := totS kp ((ordC cs).filter fun j => decide (pr cs j < p))
def samQ (cs : List Ch) (kp : Nat → Rat) (p : Int) : Rat := totS kp ((ordC cs).filter fun j => decide (pr cs j = p))
def monQ (cs : List Ch) (kp : Nat → Rat) (P : Rat) (p : Int) : Rat := maxQ (P - befQ cs kp p) 0
def shQ (cs : List Ch) (kp : Nat → Rat) (P : Rat) (i : Nat) : Rat := kp i * quoQ (monQ cs kp P (pr cs i)) (samQ cs kp (pr cs i))
def lefQ (cs : List Ch) (kp : Nat → Rat) (P : Rat) : Rat := maxQ (P - totS kp (ordC cs)) 0
/-- A run of charges of one priority: what stands ahead is lower, what stands behind is higher. -/
theorem run_split {cs : List Ch} {A G B : List Nat} {p : Int} (h : ordC cs = A ++ G ++ B) (hA : ∀ i ∈ A, pr cs i < p) (hG : ∀ i ∈ G, pr cs i = p) (hB : ∀ i ∈ B, p < pr cs i) (kp : Nat → Rat) :
    befQ cs kp p = totS kp A ∧ samQ cs kp p = totS kp G := by
  unfold befQ samQ
  rw [h]
  constructor
  · rw [List.filter_append, List.filter_append, List.filter_eq_self.2 (fun i hi => decide_eq_true (hA i hi)), List.filter_eq_nil_iff.2 (fun i hi => by have := hG i hi; simp; omega), List.filter_eq_nil_iff.2 (fun i hi => by have := hB i hi; simp; omega), List.append_nil, List.append_nil]
  · rw [List.filter_append, List.filter_append, List.filter_eq_nil_iff.2 (fun i hi => by have := hA i hi; simp; omega), List.filter_eq_self.2 (fun i hi => decide_eq_true (hG i hi)), List.filter_eq_nil_iff.2 (fun i hi => by have := hB i hi; simp; omega), List.append_nil, List.nil_append]
/-- What is left behind a run. -/
theorem run_money {m s : Rat} (hm : 0 ≤ m) : m - s * quoQ m s = maxQ (m - s) 0 := by
  unfold quoQ maxQ
  by_cases h : m < s
  · rw [if_pos h, if_neg (by grind)]
    have hs0 : s ≠ 0 := by grind
    rw [Rat.mul_comm, Rat.div_mul_cancel hs0]; grind
  · rw [if_neg h, if_pos (by grind)]; grind
theorem max_step (P a s : Rat) (hs : 0 ≤ s) : maxQ (maxQ (P - a) 0 - s) 0 = maxQ (P - (a + s)) 0 := by
  unfold maxQ
  split <;> split <;> split <;> grind
theorem quo_L {m s : Rat} {A B : Nat} (h1 : L m ≤ A) (h2 : L s ≤ B) : L (quoQ m s) ≤ A + B := by
  have := L_pos m
  unfold quoQ
  split
  · have := L_div m s; omega
  · rw [L_one]; omega
end Go.Proofs.YtknccjbkacaelaaGreatDoor
namespace Go.Proofs.YtknccjbkacaelaaGreatDoor
open Go Go.RowKit Go.Sx
theorem tab_setQ {n : Nat} (f : Nat → Rat) (i : Nat) (q : Rat) : (tab n fun j => ofQ (f j)).set i (ofQ q) = tab n fun j => ofQ (if j = i then q else f j) := by
  rw [tab_set]
  refine tab_congr fun j _ => ?_
  split <;> rfl
set_option maxHeartbeats 2000000 in
theorem pay_ok (b n K : Nat) (vc vg : Value) (o cp : Nat → Rat) (m : Rat) (G : List Nat) (w0 w : World) (H : List Blk) (hS : St w0 w ((b, 29, (tab n fun i => ofQ (o i)).flatMap encR) :: H))
    (hG : ∀ w', St w0 w' H → Sl enI 1 w' vg (zI G)) (hC : ∀ w', St w0 w' H → Sl encR 3 w' vc (tab n fun i => ofQ (cp i)))
    (hGn : ∀ i ∈ G, i < n) (hG8 : G.length ≤ 8) (hcp : ∀ i ∈ G, 0 ≤ cp i ∧ L (cp i) ≤ K) (hm0 : 0 ≤ m) (hm : L m ≤ K) (hK : 200 * K + 200 ≤ MX) :
    Ret Tryz.prog 56 #[.slice (some ⟨b, 0, none⟩) n n, vc, vg, aggR (ofQ m)] w fun r w' => r = aggR (ofQ (m - totS cp G * quoQ m (totS cp G))) ∧
      St w0 w' ((b, 29, (tab n fun i => ofQ (if i ∈ G then cp i * quoQ m (totS cp G) else o i)).flatMap encR) :: H) := by
  have hM : MX = 1099511627776 := rfl
  have hzl := zI_len G
  have hG3 : ∀ (x y z u : Blk) w', St w0 w' (x :: y :: z :: u :: H) → Sl enI 1 w' vg (zI G) := fun x y z u w' h => hG w' (h.drop ((((List.sublist_cons_self _ _).trans (List.sublist_cons_self _ _)).trans (List.sublist_cons_self _ _)).trans (List.sublist_cons_self _ _)))
  have hC3 : ∀ (x y z u : Blk) w', St w0 w' (x :: y :: z :: u :: H) → Sl encR 3 w' vc (tab n fun i => ofQ (cp i)) := fun x y z u w' h => hC w' (h.drop ((((List.sublist_cons_self _ _).trans (List.sublist_cons_self _ _)).trans (List.sublist_cons_self _ _)).trans (List.sublist_cons_self _ _)))
  obtain ⟨T, hT⟩ : ∃ T, T = totS cp G := ⟨_, rfl⟩
  have hT0 : 0 ≤ T := by rw [hT]; exact totS_nonneg fun i hi => (hcp i hi).1
  have lsum : ∀ k, k ≤ G.length → L (totS cp (G.take k)) ≤ 8 * (K + 1) + 1 := fun k hk => by
    have h1 := L_totS (q := cp) (J := G.take k) (K := K) fun i hi => (hcp i (List.mem_of_mem_take hi)).2
    have h2 : (G.take k).length * (K + 1) ≤ 8 * (K + 1) := Nat.mul_le_mul_right _ (by rw [List.length_take]; omega)
    omega
  have lT : L T ≤ 8 * (K + 1) + 1 := by
    have := lsum G.length (Nat.le_refl _)
    rwa [List.take_of_length_le (Nat.le_refl _), ← hT] at this
  obtain ⟨q, hq⟩ : ∃ q, q = quoQ m T := ⟨_, rfl⟩
  have lq : L q ≤ K + (8 * (K + 1) + 1) := by rw [hq]; exact quo_L hm lT
  have lo : ∀ i ∈ G, L (cp i * q) ≤ 10 * K + 9 := fun i hi => by
    have := L_mul (cp i) q
    have := (hcp i hi).2
    omega
  obtain ⟨mon, hmon⟩ : ∃ f : Nat → Rat, f = fun k => m - totS (fun i => cp i * q) (G.take k) := ⟨_, rfl⟩
  have hmon0 : mon 0 = m := by rw [hmon]; show m - 0 = m; grind
  have lmon : ∀ k, k ≤ G.length → L (mon k) ≤ 90 * K + 90 := fun k hk => by
    rw [hmon]
    have h1 := L_totS (q := fun i => cp i * q) (J := G.take k) (K := 10 * K + 9) fun i hi => lo i (List.mem_of_mem_take hi)
    have h2 : (G.take k).length * (10 * K + 9 + 1) ≤ 8 * (10 * K + 9 + 1) := Nat.mul_le_mul_right _ (by rw [List.length_take]; omega)
    have h3 := L_sub m (totS (fun i => cp i * q) (G.take k))
    show L (m - _) ≤ _
    omega
  have hmonE : mon G.length = m - totS cp G * quoQ m (totS cp G) := by
    rw [hmon, ← hT, ← hq]
    show m - totS _ (G.take G.length) = _
    rw [List.take_of_length_le (Nat.le_refl _), totS_mul, ← hT]
  obtain ⟨ou, hou⟩ : ∃ f : Nat → Nat → Rat, f = fun k i => if i ∈ G.take k then cp i * q else o i := ⟨_, rfl⟩
  have hou0 : ou 0 = o := by rw [hou]; funext i; show (if i ∈ G.take 0 then _ else _) = _; rw [List.take_zero, if_neg (fun h => nomatch h)]
  have houE : (tab n fun i => ofQ (if i ∈ G then cp i * quoQ m (totS cp G) else o i)) = tab n fun i => ofQ (ou G.length i) := by
    rw [hou, ← hT, ← hq]
    refine tab_congr fun i _ => ?_
    show _ = ofQ (if i ∈ G.take G.length then _ else _)
    rw [List.take_of_length_le (Nat.le_refl _)]
  rw [← hmonE, houE]
  rw [← hou0] at hS
  rw [← hmon0]
  have hmax := hC w (hS.drop (List.sublist_cons_self _ _)) |>.maxLen
  refine enter Tryz.func56 rfl Tryz.ntmps56 rfl ?_
  repeat (with_reducible first | refine c_seq ?_ | refine c_block ?_ | refine c_skip ?_ | refine x_then ?_ | refine x_block ?_)
  refine c_reg ?_
  refine l_heavy rfl (s_box  rfl rfl hS ?_)
  intro b7 wz1 hS hBz1
  refine l_heavy rfl (s_alloc  vi_29 hS ?_)
  intro b8 wz2 hS hBz2
  refine l_nil ?_
  repeat (with_reducible first | refine c_seq ?_ | refine c_block ?_ | refine c_skip ?_ | refine x_then ?_ | refine x_block ?_)
  refine c_reg ?_
  refine l_pure rfl (s_build  rfl bz_29 ?_)
  refine l_heavy rfl (s_alloc  vi_29 hS ?_)
  intro b9 wz3 hS hBz3
  refine l_heavy rfl (s_sta (k := 0)  rfl rfl vi_29 hS rfl rfl rfl (Nat.le_of_ble_eq_true rfl) rfl ?_)
  intro wz4 hS
  refine l_nil ?_
  repeat (with_reducible first | refine c_seq ?_ | refine c_block ?_ | refine c_skip ?_ | refine x_then ?_ | refine x_block ?_)
  replace hS : St w0 _ ((b9, 29, encR zRR) :: (b8, 29, encR zRR) :: (b7, 29, encR (ofQ (mon 0))) :: (b, 29, (tab n fun i => ofQ (ou 0 i)).flatMap encR) :: H) := hS
  rw [encR_zero] at hS
  repeat (with_reducible first | refine c_seq ?_ | refine c_block ?_ | refine c_skip ?_ | refine x_then ?_ | refine x_block ?_)
  refine c_reg ?_
  refine l_pure rfl (s_move  rfl ?_)
  refine l_pure rfl (s_lenr  rfl (hG3 _ _ _ _ _ hS) ⟨_, Tryz.underlying63⟩ ?_)
  refine l_pure rfl (s_move  rfl ?_)
  refine l_nil ?_
  repeat (with_reducible first | refine c_seq ?_ | refine c_skip ?_ | refine x_then ?_ | refine x_block ?_)
  refine c_cut1 (fun ρ w' => ρ 0 = .slice (some ⟨b, 0, none⟩) n n ∧ ρ 1 = vc ∧ ρ 2 = vg ∧ ρ 7 = .pointer (some ⟨b7, 0, none⟩) ∧ ρ 8 = .pointer (some ⟨b8, 0, none⟩) ∧ ρ 9 = .pointer (some ⟨b9, 0, none⟩) ∧
      St w0 w' ((b9, 29, encR (ofQ T)) :: (b8, 29, encR (ofQ 0)) :: (b7, 29, encR (ofQ (mon 0))) :: (b, 29, (tab n fun i => ofQ (ou 0 i)).flatMap encR) :: H)) ?_ ?_
  · repeat (with_reducible first | refine c_seq ?_ | refine c_block ?_ | refine c_skip ?_ | refine x_then ?_ | refine x_block ?_)
    refine c_loop (σ := Nat) (fun k ρ w' => k ≤ G.length ∧ ρ 0 = .slice (some ⟨b, 0, none⟩) n n ∧ ρ 1 = vc ∧ ρ 2 = vg ∧ ρ 7 = .pointer (some ⟨b7, 0, none⟩) ∧ ρ 8 = .pointer (some ⟨b8, 0, none⟩) ∧ ρ 9 = .pointer (some ⟨b9, 0, none⟩) ∧ ρ 16 = vg ∧ ρ 17 = .int .i64 G.length ∧ ρ 18 = .int .i64 k ∧
        St w0 w' ((b9, 29, encR (ofQ (totS cp (G.take k)))) :: (b8, 29, encR (ofQ 0)) :: (b7, 29, encR (ofQ (mon 0))) :: (b, 29, (tab n fun i => ofQ (ou 0 i)).flatMap encR) :: H)) (fun k => G.length - k) 0
      ⟨Nat.zero_le _, rfl, rfl, rfl, rfl, rfl, rfl, rfl, vi rfl (by rw [hzl]), rfl, hS⟩ ?_
    clear hS
    rintro k ρ w2 ⟨hk, h0, h1, h2, h7, h8, h9, h16, h17, h18, hS⟩
    repeat (with_reducible first | refine c_seq ?_ | refine c_block ?_ | refine c_skip ?_ | refine x_then ?_ | refine x_block ?_)
    refine c_reg ?_
    refine l_pure rfl (s_lss  h18 h17 ?_)
    refine l_nil ?_
    repeat (with_reducible first | refine c_seq ?_ | refine c_block ?_ | refine c_skip ?_ | refine x_then ?_ | refine x_block ?_)
    by_cases hlt : k < G.length
    · refine c_yes rfl (decide_eq_true (by omega)) ?_
      repeat (with_reducible first | refine c_seq ?_ | refine c_block ?_ | refine c_skip ?_ | refine x_then ?_ | refine x_block ?_)
      have hzg := zI_get G hlt
      obtain ⟨i, hi⟩ : ∃ i, i = G.getD k 0 := ⟨_, rfl⟩
      have hiG : i ∈ G := by rw [hi]; exact getD_mem G k 0 hlt
      have hin := hGn i hiG
      rw [← hi] at hzg
      have e1 : (tab n fun i => ofQ (cp i)).getD i zRR = ofQ (cp i) := tab_get _ _ hin
      have htl : (tab n fun i => ofQ (cp i)).length = n := tab_len _ _
      have e2 : totS cp (G.take (k + 1)) = totS cp (G.take k) + cp i := by rw [take_succ' G k 0 hlt, totS_snoc, ← hi]
      have l1 := lsum k (by omega)
      have l2 := (hcp i hiG).2
      repeat (with_reducible first | refine c_seq ?_ | refine c_block ?_ | refine c_skip ?_ | refine x_then ?_ | refine x_block ?_)
      refine c_reg ?_
      refine l_pure rfl (s_ixr (i := k)  h16 h18 (hG3 _ _ _ _ _ hS) (by omega) (by first | omega | (simp; done) | (simp; omega)) si_63 ?_)
      refine l_read rfl (s_lde (i := k) 0  rfl vi_3 (hG3 _ _ _ _ _ hS) (by first | omega | (simp; done) | (simp; omega)) rfl rfl (.inr rfl) ?_)
      refine l_pure rfl (s_asg  rfl ?_)
      refine l_nil ?_
      repeat (with_reducible first | refine c_seq ?_ | refine c_block ?_ | refine c_skip ?_ | refine x_then ?_ | refine x_block ?_)
      rw [hzg]
      repeat (with_reducible first | refine c_seq ?_ | refine c_block ?_ | refine c_skip ?_ | refine x_then ?_ | refine x_block ?_)
      refine c_draw [(0, .read), (1, .pure), (2, .pure), (3, .pure), (4, .read), (5, .grow), (6, .free)] (by kernel_rfl) (by kernel_rfl) hS ?_
      intro wz5 hS hBz5
      refine w_read rfl rfl (s_ldo (k := 0)  h9 vi_29 hS rfl rfl rfl (.inl rfl) ?_)
      refine w_pure rfl rfl (s_move  h1 ?_)
      refine w_pure rfl rfl (s_move  rfl ?_)
      refine w_pure rfl rfl (s_ixr (i := i)  rfl rfl (hC3 _ _ _ _ _ hS) (by omega) (by first | omega | (simp; done) | (simp; omega)) si_24 ?_)
      refine w_read rfl rfl (s_lde (i := i) zRR  rfl vi_29 (hC3 _ _ _ _ _ hS) (by first | omega | (simp; done) | (simp; omega)) rfl rfl (.inl rfl) ?_)
      rw [e1]
      refine w_grow rfl rfl (s_call Tryz.call19 rfl (QAdd_ok (ofQ (totS cp (G.take k))) (ofQ (cp i)) _ (by rw [Lr_ofQ, Lr_ofQ]; omega)) ?_)
      rintro r w3 ⟨rfl, hB3⟩
      refine ⟨hB3, ?_⟩
      rw [toQ_ofQ, toQ_ofQ, ← e2]
      replace hS := hS.grow hB3
      refine w_free rfl rfl (s_sta (k := 0)  h9 rfl vi_29 hS rfl rfl rfl (Nat.le_of_ble_eq_true rfl) rfl ?_)
      intro wz6 hS
      refine w_end ?_
      repeat (with_reducible first | refine c_seq ?_ | refine c_block ?_ | refine c_skip ?_ | refine x_then ?_ | refine x_block ?_)
      refine c_reg ?_
      refine l_pure rfl (s_add  h18 rfl (IntWalk.i64_in _ (by omega)) ?_)
      refine l_pure rfl (s_move  rfl ?_)
      refine l_nil ?_
      repeat (with_reducible first | refine c_seq ?_ | refine c_block ?_ | refine c_skip ?_ | refine x_then ?_ | refine x_block ?_)
      exact ⟨k + 1, _, rfl, ⟨hlt, h0, h1, h2, h7, h8, h9, h16, h17, vi rfl (by omega), hS⟩, by omega⟩
    · refine c_no rfl (decide_eq_false (by omega)) ?_
      repeat (with_reducible first | refine c_seq ?_ | refine c_block ?_ | refine c_skip ?_ | refine x_then ?_ | refine x_block ?_)
      refine c_exit ?_
      repeat (with_reducible first | refine x_then_exit ?_ | refine x_block_exit ?_ | refine x_block_pass rfl ?_)
      repeat (with_reducible first | refine c_seq ?_ | refine c_block ?_ | refine c_skip ?_ | refine x_then ?_ | refine x_block ?_)
      have e : G.take k = G := List.take_of_length_le (by omega)
      rw [e, ← hT] at hS
      exact ⟨_, rfl, h0, h1, h2, h7, h8, h9, hS⟩
  clear hS
  rintro ρ w2 ⟨h0, h1, h2, h7, h8, h9, hS⟩
  repeat (with_reducible first | refine c_seq ?_ | refine c_block ?_ | refine c_skip ?_ | refine x_then ?_ | refine x_block ?_)
  refine c_reg ?_
  refine l_heavy rfl (s_call Tryz.call38 rfl (QInt_ok 1 _ (by decide) (by decide)) ?_)
  rintro r w3 ⟨rfl, hB3⟩
  replace hS := hS.grow hB3
  refine l_heavy rfl (s_alloc  vi_29 hS ?_)
  intro b12 wz7 hS hBz7
  refine l_heavy rfl (s_sta (k := 0)  rfl rfl vi_29 hS rfl rfl rfl (Nat.le_of_ble_eq_true rfl) rfl ?_)
  intro wz8 hS
  refine l_nil ?_
  repeat (with_reducible first | refine c_seq ?_ | refine c_block ?_ | refine c_skip ?_ | refine x_then ?_ | refine x_block ?_)
  replace hS : St w0 _ ((b12, 29, encR (ofQ 1)) :: (b9, 29, encR (ofQ T)) :: (b8, 29, encR (ofQ 0)) :: (b7, 29, encR (ofQ (mon 0))) :: (b, 29, (tab n fun i => ofQ (ou 0 i)).flatMap encR) :: H) := hS
  repeat (with_reducible first | refine c_seq ?_ | refine c_block ?_ | refine c_skip ?_ | refine x_then ?_ | refine x_block ?_)
  refine c_forget (fun ρ' => ρ' 0 = .slice (some ⟨b, 0, none⟩) n n ∧ ρ' 1 = vc ∧ ρ' 2 = vg ∧ ρ' 7 = .pointer (some ⟨b7, 0, none⟩) ∧ ρ' 8 = .pointer (some ⟨b8, 0, none⟩) ∧ ρ' 9 = .pointer (some ⟨b9, 0, none⟩) ∧ ρ' 12 = .pointer (some ⟨b12, 0, none⟩) ∧ True) ⟨h0, h1, h2, h7, h8, h9, rfl, trivial⟩ ?_
  rintro ρk9 ⟨hk9_0, hk9_1, hk9_2, hk9_7, hk9_8, hk9_9, hk9_12, -⟩
  have hlm0 : L (mon 0) ≤ K := by rw [hmon0]; exact hm
  repeat (with_reducible first | refine c_seq ?_ | refine c_block ?_ | refine c_skip ?_ | refine x_then ?_ | refine x_block ?_)
  refine c_reg ?_
  refine l_read rfl (s_ldo (k := 3)  hk9_7 vi_29 hS rfl rfl rfl (.inl rfl) ?_)
  refine l_read rfl (s_ldo (k := 1)  hk9_9 vi_29 hS rfl rfl rfl (.inl rfl) ?_)
  refine l_heavy rfl (s_call Tryz.call21 rfl (QCompare_ok (ofQ (mon 0)) (ofQ T) _ (by rw [Lr_ofQ, Lr_ofQ]; omega)) ?_)
  rintro r w4 ⟨rfl, hB4⟩
  rw [toQ_ofQ, toQ_ofQ, hmon0]
  replace hS := hS.grow hB4
  refine l_pure rfl (s_lss  rfl rfl ?_)
  refine l_nil ?_
  repeat (with_reducible first | refine c_seq ?_ | refine c_block ?_ | refine c_skip ?_ | refine x_then ?_ | refine x_block ?_)
  refine c_cut1 (fun ρ w' => ρ 0 = .slice (some ⟨b, 0, none⟩) n n ∧ ρ 1 = vc ∧ ρ 2 = vg ∧ ρ 7 = .pointer (some ⟨b7, 0, none⟩) ∧ ρ 8 = .pointer (some ⟨b8, 0, none⟩) ∧ ρ 12 = .pointer (some ⟨b12, 0, none⟩) ∧
      St w0 w' ((b12, 29, encR (ofQ q)) :: (b8, 29, encR (ofQ 0)) :: (b7, 29, encR (ofQ (mon 0))) :: (b, 29, (tab n fun i => ofQ (ou 0 i)).flatMap encR) :: H)) ?_ ?_
  · repeat (with_reducible first | refine c_seq ?_ | refine c_block ?_ | refine c_skip ?_ | refine x_then ?_ | refine x_block ?_)
    by_cases hlt : m < T
    · have hqe : q = m / T := by rw [hq]; exact if_pos hlt
      have hTne : toQ (ofQ T) ≠ 0 := by rw [toQ_ofQ]; grind
      refine c_yes rfl (decide_eq_true (by unfold cmpQ; rw [if_pos hlt]; decide)) ?_
      repeat (with_reducible first | refine c_seq ?_ | refine c_block ?_ | refine c_skip ?_ | refine x_then ?_ | refine x_block ?_)
      refine c_reg ?_
      refine l_read rfl (s_ldo (k := 3)  hk9_7 vi_29 hS rfl rfl rfl (.inl rfl) ?_)
      refine l_read rfl (s_ldo (k := 1)  hk9_9 vi_29 hS rfl rfl rfl (.inl rfl) ?_)
      refine l_heavy rfl (s_call Tryz.call81 rfl (QDivide_ok (ofQ (mon 0)) (ofQ T) _ (by rw [Lr_ofQ, Lr_ofQ]; omega) hTne) ?_)
      rintro r w5 ⟨rfl, hB5⟩
      rw [toQ_ofQ, toQ_ofQ, hmon0, ← hqe]
      replace hS := hS.grow hB5
      refine l_pure rfl (s_move  rfl ?_)
      refine l_pure rfl (s_ext  rfl rfl ?_)
      refine l_pure rfl (s_ext  rfl rfl ?_)
      refine l_heavy rfl (s_sta (k := 0)  hk9_12 rfl vi_29 hS rfl rfl rfl (Nat.le_of_ble_eq_true rfl) rfl ?_)
      intro wz10 hS
      refine l_nil ?_
      repeat (with_reducible first | refine c_seq ?_ | refine c_block ?_ | refine c_skip ?_ | refine x_then ?_ | refine x_block ?_)
      replace hS : St w0 _ ((b12, 29, encR (ofQ q)) :: (b9, 29, encR (ofQ T)) :: (b8, 29, encR (ofQ 0)) :: (b7, 29, encR (ofQ (mon 0))) :: (b, 29, (tab n fun i => ofQ (ou 0 i)).flatMap encR) :: H) := hS
      rw [hmon0] at hS
      exact ⟨_, rfl, by assumption, by assumption, by assumption, by assumption, by assumption, by assumption, hS.drop ((List.sublist_cons_self _ _).cons_cons _)⟩
    · have hqe : q = 1 := by rw [hq]; exact if_neg hlt
      refine c_no rfl (decide_eq_false (by unfold cmpQ; rw [if_neg hlt]; split <;> decide)) ?_
      repeat (with_reducible first | refine c_seq ?_ | refine c_block ?_ | refine c_skip ?_ | refine x_then ?_ | refine x_block ?_)
      rw [← hqe] at hS
      exact ⟨_, rfl, by assumption, by assumption, by assumption, by assumption, by assumption, by assumption, hS.drop ((List.sublist_cons_self _ _).cons_cons _)⟩
  clear hS h0 h1 h2 h7 h8 h9
  rintro ρ w4 ⟨h0, h1, h2, h7, h8, h12, hS⟩
  repeat (with_reducible first | refine c_seq ?_ | refine c_block ?_ | refine c_skip ?_ | refine x_then ?_ | refine x_block ?_)
  refine c_reg ?_
  refine l_pure rfl (s_move  h2 ?_)
  refine l_pure rfl (s_lenr  rfl (hG3 _ _ _ _ _ hS) ⟨_, Tryz.underlying63⟩ ?_)
  refine l_pure rfl (s_move  rfl ?_)
  refine l_nil ?_
  repeat (with_reducible first | refine c_seq ?_ | refine c_skip ?_ | refine x_then ?_ | refine x_block ?_)
  refine c_cut1 (fun ρ w' => ρ 7 = .pointer (some ⟨b7, 0, none⟩) ∧ ρ 8 = .pointer (some ⟨b8, 0, none⟩) ∧
      St w0 w' ((b12, 29, encR (ofQ q)) :: (b8, 29, encR (ofQ 0)) :: (b7, 29, encR (ofQ (mon G.length))) :: (b, 29, (tab n fun i => ofQ (ou G.length i)).flatMap encR) :: H)) ?_ ?_
  · repeat (with_reducible first | refine c_seq ?_ | refine c_block ?_ | refine c_skip ?_ | refine x_then ?_ | refine x_block ?_)
    refine c_loop (σ := Nat) (fun k ρ w' => k ≤ G.length ∧ ρ 0 = .slice (some ⟨b, 0, none⟩) n n ∧ ρ 1 = vc ∧ ρ 7 = .pointer (some ⟨b7, 0, none⟩) ∧ ρ 8 = .pointer (some ⟨b8, 0, none⟩) ∧ ρ 12 = .pointer (some ⟨b12, 0, none⟩) ∧ ρ 40 = vg ∧ ρ 41 = .int .i64 G.length ∧ ρ 42 = .int .i64 k ∧
        St w0 w' ((b12, 29, encR (ofQ q)) :: (b8, 29, encR (ofQ 0)) :: (b7, 29, encR (ofQ (mon k))) :: (b, 29, (tab n fun i => ofQ (ou k i)).flatMap encR) :: H)) (fun k => G.length - k) 0
      ⟨Nat.zero_le _, by assumption, by assumption, by assumption, by assumption, by assumption, rfl, vi rfl (by rw [hzl]), rfl, hS⟩ ?_
    clear hS h0 h1 h2 h7 h8 h12
    rintro k ρ w5 ⟨hk, h0, h1, h7, h8, h12, h40, h41, h42, hS⟩
    repeat (with_reducible first | refine c_seq ?_ | refine c_block ?_ | refine c_skip ?_ | refine x_then ?_ | refine x_block ?_)
    refine c_reg ?_
    refine l_pure rfl (s_lss  h42 h41 ?_)
    refine l_nil ?_
    repeat (with_reducible first | refine c_seq ?_ | refine c_block ?_ | refine c_skip ?_ | refine x_then ?_ | refine x_block ?_)
    by_cases hlt : k < G.length
    · refine c_yes rfl (decide_eq_true (by omega)) ?_
      repeat (with_reducible first | refine c_seq ?_ | refine c_block ?_ | refine c_skip ?_ | refine x_then ?_ | refine x_block ?_)
      have hzg := zI_get G hlt
      obtain ⟨i, hi⟩ : ∃ i, i = G.getD k 0 := ⟨_, rfl⟩
      have hiG : i ∈ G := by rw [hi]; exact getD_mem G k 0 hlt
      have hin := hGn i hiG
      have htk := take_succ' G k 0 hlt
      rw [← hi] at hzg htk
      have e1 : (tab n fun i => ofQ (cp i)).getD i zRR = ofQ (cp i) := tab_get _ _ hin
      have htl : (tab n fun i => ofQ (cp i)).length = n := tab_len _ _
      have htl2 : (tab n fun i => ofQ (ou k i)).length = n := tab_len _ _
      have htl3 : (tab n fun i => ofQ (ou (k + 1) i)).length = n := tab_len _ _
      have e2 : mon (k + 1) = mon k - cp i * q := by rw [hmon]; show m - totS _ (G.take (k + 1)) = _; rw [htk, totS_snoc]; grind
      have hset : (tab n fun j => ofQ (ou k j)).set i (ofQ (cp i * q)) = tab n fun j => ofQ (ou (k + 1) j) := by
        rw [tab_setQ]
        refine tab_congr fun j _ => ?_
        rw [hou]
        show ofQ (if j = i then _ else if j ∈ G.take k then _ else _) = ofQ (if j ∈ G.take (k + 1) then _ else _)
        rw [htk]
        by_cases g : j = i
        · subst g; simp
        · simp [g]
      have e3 : (tab n fun j => ofQ (ou (k + 1) j)).getD i zRR = ofQ (cp i * q) := by
        rw [tab_get _ _ hin, hou]
        show ofQ (if i ∈ G.take (k + 1) then _ else _) = _
        rw [htk, if_pos (by simp)]
      have l1 := lmon k (by omega)
      have l2 := (hcp i hiG).2
      have l3 := lo i hiG
      repeat (with_reducible first | refine c_seq ?_ | refine c_block ?_ | refine c_skip ?_ | refine x_then ?_ | refine x_block ?_)
      refine c_reg ?_
      refine l_pure rfl (s_ixr (i := k)  h40 h42 (hG3 _ _ _ _ _ hS) (by omega) (by first | omega | (simp; done) | (simp; omega)) si_63 ?_)
      refine l_read rfl (s_lde (i := k) 0  rfl vi_3 (hG3 _ _ _ _ _ hS) (by first | omega | (simp; done) | (simp; omega)) rfl rfl (.inr rfl) ?_)
      refine l_pure rfl (s_asg  rfl ?_)
      refine l_nil ?_
      repeat (with_reducible first | refine c_seq ?_ | refine c_block ?_ | refine c_skip ?_ | refine x_then ?_ | refine x_block ?_)
      rw [hzg]
      repeat (with_reducible first | refine c_seq ?_ | refine c_block ?_ | refine c_skip ?_ | refine x_then ?_ | refine x_block ?_)
      refine c_forget (fun ρ' => ρ' 0 = .slice (some ⟨b, 0, none⟩) n n ∧ ρ' 1 = vc ∧ ρ' 7 = .pointer (some ⟨b7, 0, none⟩) ∧ ρ' 8 = .pointer (some ⟨b8, 0, none⟩) ∧ ρ' 12 = .pointer (some ⟨b12, 0, none⟩) ∧ ρ' 40 = vg ∧ ρ' 41 = .int .i64 G.length ∧ ρ' 42 = .int .i64 k ∧ ρ' 14 = .int .i64 i ∧ True) ⟨h0, h1, h7, h8, h12, h40, h41, h42, rfl, trivial⟩ ?_
      rintro ρk11 ⟨hk11_0, hk11_1, hk11_7, hk11_8, hk11_12, hk11_40, hk11_41, hk11_42, hk11_14, -⟩
      repeat (with_reducible first | refine c_seq ?_ | refine c_block ?_ | refine c_skip ?_ | refine x_then ?_ | refine x_block ?_)
      refine c_draw [(0, .pure), (1, .pure), (2, .pure), (3, .pure), (4, .pure), (5, .read), (6, .read), (7, .grow), (8, .pure), (9, .free)] (by kernel_rfl) (by kernel_rfl) hS ?_
      intro wz12 hS hBz12
      refine w_pure rfl rfl (s_move  hk11_0 ?_)
      refine w_pure rfl rfl (s_move  hk11_14 ?_)
      refine w_pure rfl rfl (s_move  hk11_1 ?_)
      refine w_pure rfl rfl (s_move  hk11_14 ?_)
      refine w_pure rfl rfl (s_ixr (i := i)  rfl rfl (hC3 _ _ _ _ _ hS) (by omega) (by first | omega | (simp; done) | (simp; omega)) si_24 ?_)
      refine w_read rfl rfl (s_lde (i := i) zRR  rfl vi_29 (hC3 _ _ _ _ _ hS) (by first | omega | (simp; done) | (simp; omega)) rfl rfl (.inl rfl) ?_)
      refine w_read rfl rfl (s_ldo (k := 0)  hk11_12 vi_29 hS rfl rfl rfl (.inl rfl) ?_)
      rw [e1]
      refine w_grow rfl rfl (s_call Tryz.call12 rfl (QMultiply_ok (ofQ (cp i)) (ofQ q) _ (by rw [Lr_ofQ, Lr_ofQ]; omega)) ?_)
      rintro r w6 ⟨rfl, hB6⟩
      refine ⟨hB6, ?_⟩
      rw [toQ_ofQ, toQ_ofQ]
      replace hS := hS.grow hB6
      refine w_pure rfl rfl (s_ixo (i := i)  rfl rfl (by omega) (by first | omega | (simp; done) | (simp; omega)) si_24 ?_)
      refine w_free rfl rfl (s_stE (k := 3) (i := i) (enc := encR) (ofQ (cp i * q)) (fun _ => rfl)  rfl rfl vi_29 hS rfl (by first | omega | simp) (by first | omega | (simp; done) | (simp; omega)) rfl rfl ?_)
      intro wz13 hS
      refine w_end ?_
      repeat (with_reducible first | refine c_seq ?_ | refine c_block ?_ | refine c_skip ?_ | refine x_then ?_ | refine x_block ?_)
      replace hS : St w0 _ ((b12, 29, encR (ofQ q)) :: (b8, 29, encR (ofQ 0)) :: (b7, 29, encR (ofQ (mon k))) :: (b, 29, ((tab n fun i => ofQ (ou k i)).set i (ofQ (cp i * q))).flatMap encR) :: H) := hS
      rw [hset] at hS
      repeat (with_reducible first | refine c_seq ?_ | refine c_block ?_ | refine c_skip ?_ | refine x_then ?_ | refine x_block ?_)
      refine c_draw [(0, .read), (1, .pure), (2, .pure), (3, .pure), (4, .read), (5, .grow), (6, .free)] (by kernel_rfl) (by kernel_rfl) hS ?_
      intro wz14 hS hBz14
      refine w_read rfl rfl (s_ldo (k := 2)  hk11_7 vi_29 hS rfl rfl rfl (.inl rfl) ?_)
      refine w_pure rfl rfl (s_move  hk11_0 ?_)
      refine w_pure rfl rfl (s_move  hk11_14 ?_)
      refine w_pure rfl rfl (s_ixo (i := i)  rfl rfl (by omega) (by first | omega | (simp; done) | (simp; omega)) si_24 ?_)
      refine w_read rfl rfl (s_ldE (k := 3) (i := i) (enc := encR) zRR (fun _ => rfl)  rfl vi_29 hS rfl (by first | omega | simp) (by first | omega | (simp; done) | (simp; omega)) rfl (.inl rfl) ?_)
      rw [e3]
      refine w_grow rfl rfl (s_call Tryz.call22 rfl (QSubtract_ok (ofQ (mon k)) (ofQ (cp i * q)) _ (by rw [Lr_ofQ, Lr_ofQ]; omega)) ?_)
      rintro r w7 ⟨rfl, hB7⟩
      refine ⟨hB7, ?_⟩
      rw [toQ_ofQ, toQ_ofQ, ← e2]
      replace hS := hS.grow hB7
      refine w_free rfl rfl (s_sta (k := 2)  hk11_7 rfl vi_29 hS rfl rfl rfl (Nat.le_of_ble_eq_true rfl) rfl ?_)
      intro wz15 hS
      refine w_end ?_
      repeat (with_reducible first | refine c_seq ?_ | refine c_block ?_ | refine c_skip ?_ | refine x_then ?_ | refine x_block ?_)
      refine c_reg ?_
      refine l_pure rfl (s_add  hk11_42 rfl (IntWalk.i64_in _ (by omega)) ?_)
      refine l_pure rfl (s_move  rfl ?_)
      refine l_nil ?_
      repeat (with_reducible first | refine c_seq ?_ | refine c_block ?_ | refine c_skip ?_ | refine x_then ?_ | refine x_block ?_)
      exact ⟨k + 1, _, rfl, ⟨hlt, by assumption, by assumption, by assumption, by assumption, by assumption, by assumption, by assumption, vi rfl (by omega), hS⟩, by omega⟩
    · refine c_no rfl (decide_eq_false (by omega)) ?_
      repeat (with_reducible first | refine c_seq ?_ | refine c_block ?_ | refine c_skip ?_ | refine x_then ?_ | refine x_block ?_)
      refine c_exit ?_
      repeat (with_reducible first | refine x_then_exit ?_ | refine x_block_exit ?_ | refine x_block_pass rfl ?_)
      repeat (with_reducible first | refine c_seq ?_ | refine c_block ?_ | refine c_skip ?_ | refine x_then ?_ | refine x_block ?_)
      obtain rfl : k = G.length := by omega
      exact ⟨_, rfl, h7, h8, hS⟩
  clear hS h0 h1 h2 h7 h8 h12
  rintro ρ w5 ⟨h7, h8, hS⟩
  repeat (with_reducible first | refine c_seq ?_ | refine c_block ?_ | refine c_skip ?_ | refine x_then ?_ | refine x_block ?_)
  refine c_reg ?_
  refine l_read rfl (s_ldo (k := 2)  h7 vi_29 hS rfl rfl rfl (.inl rfl) ?_)
  refine l_heavy rfl (s_sta (k := 1)  h8 rfl vi_29 hS rfl rfl rfl (Nat.le_of_ble_eq_true rfl) rfl ?_)
  intro wz16 hS
  refine l_nil ?_
  repeat (with_reducible first | refine c_seq ?_ | refine c_block ?_ | refine c_skip ?_ | refine x_then ?_ | refine x_block ?_)
  refine c_ret ?_
  repeat (with_reducible first | refine x_then_ret ?_ | refine x_block_ret ?_)
  refine r_cell (k := 1) rfl h8 vi_29 hS rfl rfl ?_
  exact ⟨rfl, hS.drop ((((List.sublist_cons_self _ _)).trans (List.sublist_cons_self _ _)).trans (List.sublist_cons_self _ _))⟩
end Go.Proofs.YtknccjbkacaelaaGreatDoor
namespace Go.Sx
open Go Go.RowKit
theorem Sl.flat {w : World} {α : Type} {enc : α → List Value} {size : Nat} {v : Value} {L : List α} (h : Sl enc size w v L) (hu : ∀ x, (enc x).length = size) (hs : 0 < size) : At w (sbase v) (L.flatMap enc) := by
  intro j u hj
  have hlt : j < L.length * size := by
    have := (List.getElem?_eq_some_iff.1 hj).1
    rwa [flat_len hu] at this
  have hi : j / size < L.length := (Nat.div_lt_iff_lt_mul hs).2 hlt
  have hr : j % size < size := Nat.mod_lt _ hs
  have e : j / size * size + j % size = j := by rw [Nat.mul_comm]; exact Nat.div_add_mod _ _
  have h2 := flat_get hu L (j / size) (j % size) hi hr
  rw [e, hj] at h2
  have h3 := h.elt (j / size) hi (j % size) u h2.symm
  rwa [addr_add_add _ _ _ (h.spot hu hs (Nat.lt_of_le_of_lt (Nat.zero_le _) hi)), e] at h3
section
variable {P : Program} {N : Nat} {ρ : Nat → Value} {w0 w w' : World} {d : Option Tmp} {ty : TypeId} {pos : String} {aft : Array Edge} {g : Option (Nat × Bool)} {x y z : Operand} {t t' e : TypeId} {H L : List Blk} {b : Nat} {cs : List Value} {v : Value} {K : Value → Prop} {K2 : Value → World → Prop}
theorem s_eqnil {a : Option Addr} {n c : Nat} (hx : ev N ρ x = .slice a n c) (hy : ev N ρ y = .slice none 0 0) (ht : ∃ e, P.underlying t = some (.slice e)) (h : K (.bool a.isNone)) : Pure1 P N ρ ⟨d, .binOp .eql t x y t', ty, pos, aft, g⟩ K := by
  obtain ⟨e, ht⟩ := ht
  refine ⟨.bool a.isNone, fun w => ?_, h⟩
  have h2 : (binOp .eql t (.slice a n c) (.slice none 0 0)).run P w = .ok (.bool a.isNone) w := by
    have h4 : ∀ k, (Op.equalIn (k + 1) t (.slice a n c) (.slice none 0 0)).run P w = .ok a.isNone w := fun k => by cases a <;> simp [Op.equalIn, run_underlying ht]
    have h3 := h4 9999
    simp only [binOp]
    simp [Op.equal, Op.maxDepth, h3]
  simp only [execOp, hx, hy, Sem.run_bind]
  have h1 : (eqGuard .eql t x y (.slice a n c) (.slice none 0 0)).run P w = .ok () w := rfl
  rw [h1, Result.andThen_ok, h2, Result.andThen_ok]
  rfl
theorem s_bsl0 {sz by_ : Nat} {zz : List Value} (ht : sinfo P t = some (e, sz, by_, zz)) (hS : St w0 w H)
    (h : ∀ b w', St w0 w' ((b, e, []) :: H) → Below w.heap.size w w' → K2 (.slice (some ⟨b, 0, none⟩) 0 0) w') :
    Hup1 P N ρ w ⟨d, .buildSlice t 0 #[], ty, pos, aft, g⟩ K2 := by
  obtain ⟨hu, ii, zv, hi1, hz, hsz, hby, hcz, hzl⟩ := sinfo_parts ht
  have hr : (Instr.buildSlice t 0 #[]).run P w = .ok (.slice (some ⟨w.heap.size, 0, none⟩) 0 0) (w.alloc (.cells #[] e)) := by
    simp [Instr.buildSlice, run_underlying hu, sizeOf, typeInfo, hi1, newRow, Instr.fill]
    rw [show Array.range 0 = #[] from Array.eq_empty_of_size_eq_zero (by simp)]
    simp
  refine hup_of_run ?_ (h w.heap.size _ (hS.alloc [] e) (below_alloc w _))
  have hp : ((#[] : Array (Nat × Operand)).map fun (i, x) => (i, ev N ρ x)) = #[] := by simp
  simp only [execOp, hp, Sem.run_bind, hr, Result.andThen_ok]
  rfl
/-- append of a slice that is read. -/
theorem s_appc {α : Type} {enc : α → List Value} {size bytes : Nat} {zz : List Value} {X Y : List α} {xv : Value} (hx : ev N ρ x = v) (hy : ev N ρ y = xv) (ht : sinfo P t = some (e, size, bytes, zz)) (hsz : 0 < size)
    (hG : Gl enc e size v X L) (hS : St w0 w (H ++ L)) (hY : Sl enc size w xv Y) (hu : ∀ x, (enc x).length = size) (h1 : ∀ u ∈ Y.flatMap enc, u.oneCell' = true)
    (h63 : X.length + Y.length ≤ 9223372036854775807) (hb : (X.length + Y.length) * bytes ≤ 140737488355328)
    (h : ∀ v' L' w', Gl enc e size v' (X ++ Y) L' → St w0 w' (H ++ L') → w.heap.size ≤ w'.heap.size → ((∀ i, i < w.heap.size → v.ownBlock ≠ some i → w'.heap[i]? = w.heap[i]?)) → K2 v' w') :
    Hup1 P N ρ w ⟨d, .call ⟨.builtin .append, #[x, y], #[t, t]⟩, ty, pos, aft, g⟩ K2 := by
  obtain ⟨ad, c, hxv, hc1, hc2, hn⟩ := hY.form
  cases ad with
  | some ad =>
    have hat := hY.flat hu hsz
    rw [hxv] at hat
    refine s_app (H := H) hx hy ht hsz hG (hS.perm List.perm_append_comm) hxv (by rw [flat_len hu]) hat h1 h63 hb (fun v' L' w' hG' hS' hun hge => ?_)
    refine h v' L' w' ?_ (hS'.perm List.perm_append_comm) hge hun
    unfold Gl
    rw [List.length_append, List.flatMap_append]
    exact hG'
  | none =>
    have hc0 := hn rfl
    obtain rfl : Y = [] := List.eq_nil_of_length_eq_zero (by omega)
    subst hc0
    obtain ⟨hus, ii, zv, hi1, hz, hsize, hby, hcz, hzl⟩ := sinfo_parts ht
    have hr : (Builtin.append_ #[t, t] ty #[v, .slice none 0 0]).run P w = .ok v w := by
      obtain ⟨_, ⟨rfl, _, _⟩ | ⟨b', cap', sp', rfl, _, g1, _, _⟩⟩ := hG
      · simp [Builtin.append_, run_underlying hus, sizeOf, typeInfo, hi1, Builtin.lenOf, Builtin.firstCells]
      · simp [Builtin.append_, run_underlying hus, sizeOf, typeInfo, hi1, Builtin.lenOf, Builtin.firstCells, g1, storeCells]
    refine hup_of_run ?_ (h v L w (by rw [List.append_nil]; exact hG) hS (Nat.le_refl _) (fun _ _ _ => rfl))
    rw [hxv] at hy
    have hy' : ev N ρ y = .slice none 0 0 := hy
    simp [execOp, resolve, invoke, builtin, hx, hy', hr]
/-- append to nil of a slice that is read: it makes memory alone. -/
theorem s_appn {α : Type} {enc : α → List Value} {size bytes : Nat} {zz : List Value} {Y : List α} {xv : Value} (hx : ev N ρ x = .slice none 0 0) (hy : ev N ρ y = xv) (ht : sinfo P t = some (e, size, bytes, zz)) (hsz : 0 < size)
    (hS : St w0 w H) (hY : Sl enc size w xv Y) (hu : ∀ x, (enc x).length = size) (h1 : ∀ u ∈ Y.flatMap enc, u.oneCell' = true)
    (h63 : Y.length ≤ 9223372036854775807) (hb : Y.length * bytes ≤ 140737488355328)
    (h : ∀ v' L' w', Gl enc e size v' Y L' → St w0 w' (H ++ L') → Below w.heap.size w w' → K2 v' w') :
    Hup1 P N ρ w ⟨d, .call ⟨.builtin .append, #[x, y], #[t, t]⟩, ty, pos, aft, g⟩ K2 := by
  refine s_appc (H := H) (L := []) (X := []) hx hy ht hsz (Gl.nil enc e size) (by rw [List.append_nil]; exact hS) hY hu h1 (by rw [List.length_nil]; omega) (by rw [List.length_nil, Nat.zero_add]; exact hb) (fun v' L' w' hG' hS' hge hun => ?_)
  rw [List.nil_append] at hG'
  exact h v' L' w' hG' hS' ⟨hS'.below.os.trans hS.below.os.symm, hS'.below.tape.trans hS.below.tape.symm, hS'.below.output.trans hS.below.output.symm, hge, fun k hk => hun k hk (by simp [Value.ownBlock])⟩
end
section
variable {P : Program} {N : Nat} {ρ : Nat → Value} {w0 w : World} {H : List Blk} {k b : Nat} {t : TypeId} {cs : List Value}
theorem results_tmp_cell {fn : Func} {p u : Tmp} {ty : TypeId} (h : fn.results = #[.tmp u, .cell p ty]) (tmps : Array Value) (P : Program) (w : World) :
    (results fn tmps).run P w =
      ((asAddr (tmps.getD p undef)).run P w).andThen fun a w₁ => ((loadVar ty a).run P w₁).andThen fun v w₂ => .ok (.tuple #[tmps.getD u undef, v]) w₂ := by
  simp only [results, h]
  simp [Sem.run_bind, Result.andThen]
theorem results_tmp_cell_tmp {fn : Func} {p u v : Tmp} {ty : TypeId} (h : fn.results = #[.tmp u, .cell p ty, .tmp v]) (tmps : Array Value) (P : Program) (w : World) :
    (results fn tmps).run P w =
      ((asAddr (tmps.getD p undef)).run P w).andThen fun a w₁ => ((loadVar ty a).run P w₁).andThen fun x w₂ => .ok (.tuple #[tmps.getD u undef, x, tmps.getD v undef]) w₂ := by
  simp only [results, h]
  simp [Sem.run_bind, Result.andThen]
theorem r_tmp_cell {fn : Func} {p u n : Nat} {ty : TypeId} {zz : List Value} {y : Value} {R : Value → World → Prop} (hr : fn.results = #[.tmp u, .cell p ty]) (hp : ev N ρ (.tmp p) = .pointer (some ⟨b, 0, none⟩)) (hy : ev N ρ (.tmp u) = y) (ht : vinfo P ty = some (n, true, zz))
    (hS : St w0 w H) (hk : H[k]? = some (b, t, cs)) (hn : cs.length = n) (h : R (.tuple #[y, .agg cs.toArray]) w) :
    bodyPost P fn (fun e w' => ∃ v, e = .returned v ∧ R v w') .ret (act N ρ) w := by
  refine bodyPost_ret (v := .tuple #[y, .agg cs.toArray]) ?_ rfl ⟨_, rfl, h⟩
  rw [results_tmp_cell hr, tmps_getD, tmps_getD, hp, hy]
  have hl := hS.loadVar hk ht hn
  simp only [asAddr, Sem.run_pure, Result.andThen_ok]
  rw [hl]
  simp [Result.andThen]
theorem r_tmp_cell_tmp {fn : Func} {p u v n : Nat} {ty : TypeId} {zz : List Value} {x y : Value} {R : Value → World → Prop} (hr : fn.results = #[.tmp u, .cell p ty, .tmp v]) (hp : ev N ρ (.tmp p) = .pointer (some ⟨b, 0, none⟩)) (hy : ev N ρ (.tmp u) = y) (hx : ev N ρ (.tmp v) = x) (ht : vinfo P ty = some (n, true, zz))
    (hS : St w0 w H) (hk : H[k]? = some (b, t, cs)) (hn : cs.length = n) (h : R (.tuple #[y, .agg cs.toArray, x]) w) :
    bodyPost P fn (fun e w' => ∃ v, e = .returned v ∧ R v w') .ret (act N ρ) w := by
  refine bodyPost_ret (v := .tuple #[y, .agg cs.toArray, x]) ?_ rfl ⟨_, rfl, h⟩
  rw [results_tmp_cell_tmp hr, tmps_getD, tmps_getD, tmps_getD, hp, hy, hx]
  have hl := hS.loadVar hk ht hn
  simp only [asAddr, Sem.run_pure, Result.andThen_ok]
  rw [hl]
  simp [Result.andThen]
end
end Go.Sx
namespace Go.Proofs.YtknccjbkacaelaaGreatDoor
open Go Go.RowKit Go.Sx
theorem share1_ok (p i k : Nat) (vl : Value) (cs : List Ch) (w : World) (hp : At w ⟨p, 0, none⟩ [vl]) (hl : Sl encCh 6 w vl cs) (hi : i < cs.length) (hk : k < cs.length) :
    Ret Tryz.prog 52 #[.int .i64 i, .int .i64 k, .pointer (some ⟨p, 0, none⟩)] w fun v w' => v = .int .i64 (cmpC cs i k) ∧ Below w.heap.size w w' := by
  have hS := St.init w
  have hci : cmpC cs i k = if pr cs i < pr cs k then -1 else if pr cs k < pr cs i then 1 else 0 := by
    unfold cmpC; rw [Int.toNat_natCast, Int.toNat_natCast]
  rw [hci]
  have e1 : (cs.getD i zCh).prio = pr cs i := rfl
  have e2 : (cs.getD k zCh).prio = pr cs k := rfl
  refine enter Tryz.func52 rfl Tryz.ntmps52 rfl ?_
  repeat (with_reducible first | refine c_seq ?_ | refine c_block ?_ | refine c_skip ?_ | refine x_then ?_ | refine x_block ?_)
  refine c_reg ?_
  refine l_pure rfl (s_asg  rfl ?_)
  refine l_nil ?_
  repeat (with_reducible first | refine c_seq ?_ | refine c_block ?_ | refine c_skip ?_ | refine x_then ?_ | refine x_block ?_)
  refine c_draw [(0, .read), (1, .pure), (2, .pure), (3, .pure), (4, .read), (5, .read), (6, .pure), (7, .pure), (8, .pure), (9, .read), (10, .pure), (11, .pure)] (by kernel_rfl) (by kernel_rfl) hS ?_
  intro wz1 hS hBz1
  refine w_read rfl rfl (s_ld (cs := [vl])  rfl vi_30 (hp.below hS.below) rfl rfl (.inr rfl) ?_)
  refine w_pure rfl rfl (s_move  rfl ?_)
  refine w_pure rfl rfl (s_ixr (i := i)  rfl rfl (hl.below hS.below) (by omega) (by first | omega | (simp; done) | (simp; omega)) si_30 ?_)
  refine w_pure rfl rfl (s_fldr  rfl (spot_el (hl.below hS.below) (fun _ => rfl) (by decide) (by first | omega | (simp; done) | (simp; omega))) fo_38_1 ?_)
  refine w_read rfl rfl (s_ldfe (i := i) (off := 1) zCh  rfl vi_3 (hl.below hS.below) (fun _ => rfl) (by decide) (by first | omega | (simp; done) | (simp; omega)) rfl rfl (.inr rfl) ?_)
  refine w_read rfl rfl (s_ld (cs := [vl])  rfl vi_30 (hp.below hS.below) rfl rfl (.inr rfl) ?_)
  refine w_pure rfl rfl (s_move  rfl ?_)
  refine w_pure rfl rfl (s_ixr (i := k)  rfl rfl (hl.below hS.below) (by omega) (by first | omega | (simp; done) | (simp; omega)) si_30 ?_)
  refine w_pure rfl rfl (s_fldr  rfl (spot_el (hl.below hS.below) (fun _ => rfl) (by decide) (by first | omega | (simp; done) | (simp; omega))) fo_38_1 ?_)
  refine w_read rfl rfl (s_ldfe (i := k) (off := 1) zCh  rfl vi_3 (hl.below hS.below) (fun _ => rfl) (by decide) (by first | omega | (simp; done) | (simp; omega)) rfl rfl (.inr rfl) ?_)
  refine w_pure rfl rfl (s_lss  rfl rfl ?_)
  refine w_pure rfl rfl (s_asg  rfl ?_)
  refine w_end ?_
  repeat (with_reducible first | refine c_seq ?_ | refine c_block ?_ | refine c_skip ?_ | refine x_then ?_ | refine x_block ?_)
  by_cases h1 : pr cs i < pr cs k
  · rw [if_pos h1]
    refine c_yes rfl (decide_eq_true h1) ?_
    repeat (with_reducible first | refine c_seq ?_ | refine c_block ?_ | refine c_skip ?_ | refine x_then ?_ | refine x_block ?_)
    refine c_reg ?_
    refine l_pure rfl (s_asg  rfl ?_)
    refine l_nil ?_
    repeat (with_reducible first | refine c_seq ?_ | refine c_block ?_ | refine c_skip ?_ | refine x_then ?_ | refine x_block ?_)
    refine c_ret ?_
    repeat (with_reducible first | refine x_then_ret ?_ | refine x_block_ret ?_)
    refine r_one rfl rfl ?_
    exact ⟨rfl, hS.below⟩
  · rw [if_neg h1]
    refine c_no rfl (decide_eq_false h1) ?_
    repeat (with_reducible first | refine c_seq ?_ | refine c_block ?_ | refine c_skip ?_ | refine x_then ?_ | refine x_block ?_)
    refine c_draw [(0, .read), (1, .pure), (2, .pure), (3, .pure), (4, .read), (5, .read), (6, .pure), (7, .pure), (8, .pure), (9, .read), (10, .pure), (11, .pure)] (by kernel_rfl) (by kernel_rfl) hS ?_
    intro wz2 hS hBz2
    refine w_read rfl rfl (s_ld (cs := [vl])  rfl vi_30 (hp.below hS.below) rfl rfl (.inr rfl) ?_)
    refine w_pure rfl rfl (s_move  rfl ?_)
    refine w_pure rfl rfl (s_ixr (i := i)  rfl rfl (hl.below hS.below) (by omega) (by first | omega | (simp; done) | (simp; omega)) si_30 ?_)
    refine w_pure rfl rfl (s_fldr  rfl (spot_el (hl.below hS.below) (fun _ => rfl) (by decide) (by first | omega | (simp; done) | (simp; omega))) fo_38_1 ?_)
    refine w_read rfl rfl (s_ldfe (i := i) (off := 1) zCh  rfl vi_3 (hl.below hS.below) (fun _ => rfl) (by decide) (by first | omega | (simp; done) | (simp; omega)) rfl rfl (.inr rfl) ?_)
    refine w_read rfl rfl (s_ld (cs := [vl])  rfl vi_30 (hp.below hS.below) rfl rfl (.inr rfl) ?_)
    refine w_pure rfl rfl (s_move  rfl ?_)
    refine w_pure rfl rfl (s_ixr (i := k)  rfl rfl (hl.below hS.below) (by omega) (by first | omega | (simp; done) | (simp; omega)) si_30 ?_)
    refine w_pure rfl rfl (s_fldr  rfl (spot_el (hl.below hS.below) (fun _ => rfl) (by decide) (by first | omega | (simp; done) | (simp; omega))) fo_38_1 ?_)
    refine w_read rfl rfl (s_ldfe (i := k) (off := 1) zCh  rfl vi_3 (hl.below hS.below) (fun _ => rfl) (by decide) (by first | omega | (simp; done) | (simp; omega)) rfl rfl (.inr rfl) ?_)
    refine w_pure rfl rfl (s_gtr  rfl rfl ?_)
    refine w_pure rfl rfl (s_asg  rfl ?_)
    refine w_end ?_
    repeat (with_reducible first | refine c_seq ?_ | refine c_block ?_ | refine c_skip ?_ | refine x_then ?_ | refine x_block ?_)
    by_cases h2 : pr cs k < pr cs i
    · rw [if_pos h2]
      refine c_yes rfl (decide_eq_true h2) ?_
      repeat (with_reducible first | refine c_seq ?_ | refine c_block ?_ | refine c_skip ?_ | refine x_then ?_ | refine x_block ?_)
      refine c_reg ?_
      refine l_pure rfl (s_asg  rfl ?_)
      refine l_nil ?_
      repeat (with_reducible first | refine c_seq ?_ | refine c_block ?_ | refine c_skip ?_ | refine x_then ?_ | refine x_block ?_)
      refine c_ret ?_
      repeat (with_reducible first | refine x_then_ret ?_ | refine x_block_ret ?_)
      refine r_one rfl rfl ?_
      exact ⟨rfl, hS.below⟩
    · rw [if_neg h2]
      refine c_no rfl (decide_eq_false h2) ?_
      repeat (with_reducible first | refine c_seq ?_ | refine c_block ?_ | refine c_skip ?_ | refine x_then ?_ | refine x_block ?_)
      refine c_reg ?_
      refine l_pure rfl (s_asg  rfl ?_)
      refine l_nil ?_
      repeat (with_reducible first | refine c_seq ?_ | refine c_block ?_ | refine c_skip ?_ | refine x_then ?_ | refine x_block ?_)
      refine c_ret ?_
      repeat (with_reducible first | refine x_then_ret ?_ | refine x_block_ret ?_)
      refine r_one rfl rfl ?_
      exact ⟨rfl, hS.below⟩
theorem Clone_ok (vo : Value) (l : List RR) (w : World) (ho : Sl encR 3 w vo l) (hl : l.length ≤ 1000000) :
    Ret Tryz.prog 53 #[vo] w fun r w' => ∃ LO, Gl encR 29 3 r l LO ∧ St w w' ([] ++ LO) := by
  obtain ⟨a, c, rfl, h1, h2, h3⟩ := ho.form
  have hS := St.init w
  have hW := hS.below
  refine enter Tryz.func53 rfl Tryz.ntmps53 rfl ?_
  repeat (with_reducible first | refine c_seq ?_ | refine c_block ?_ | refine c_skip ?_ | refine x_then ?_ | refine x_block ?_)
  refine c_reg ?_
  refine l_pure rfl (s_asg  rfl ?_)
  refine l_nil ?_
  repeat (with_reducible first | refine c_seq ?_ | refine c_block ?_ | refine c_skip ?_ | refine x_then ?_ | refine x_block ?_)
  refine c_reg ?_
  refine l_pure rfl (s_move  rfl ?_)
  refine l_pure rfl (s_eqnil  rfl rfl (ht := ⟨_, Tryz.underlying24⟩) ?_)
  refine l_nil ?_
  repeat (with_reducible first | refine c_seq ?_ | refine c_block ?_ | refine c_skip ?_ | refine x_then ?_ | refine x_block ?_)
  cases a with
  | none =>
    refine c_yes rfl (rfl) ?_
    repeat (with_reducible first | refine c_seq ?_ | refine c_block ?_ | refine c_skip ?_ | refine x_then ?_ | refine x_block ?_)
    refine c_reg ?_
    refine l_pure rfl (s_asg  rfl ?_)
    refine l_nil ?_
    repeat (with_reducible first | refine c_seq ?_ | refine c_block ?_ | refine c_skip ?_ | refine x_then ?_ | refine x_block ?_)
    refine c_ret ?_
    repeat (with_reducible first | refine x_then_ret ?_ | refine x_block_ret ?_)
    refine r_one rfl rfl ?_
    have := h3 rfl
    obtain rfl : l = [] := List.eq_nil_of_length_eq_zero (by omega)
    exact ⟨[], Gl.nil _ _ _, hS⟩
  | some a =>
    refine c_no rfl (rfl) ?_
    repeat (with_reducible first | refine c_seq ?_ | refine c_block ?_ | refine c_skip ?_ | refine x_then ?_ | refine x_block ?_)
    refine c_reg ?_
    refine l_heavy rfl (s_bsl0  si_24 hS ?_)
    intro b5 wz1 hS hBz1
    refine l_pure rfl (s_move  rfl ?_)
    refine l_heavy rfl (s_appc  rfl rfl si_24 (by decide) (H := []) (Gl.make0 (z := encR zRR) (n := 0) rfl (by decide)) hS (ho.below hS.below) encR_len (encR_one l) (by simp; omega) (by simp; omega) ?_)
    intro va2 La2 wa2 hG hS hga2 hgu2
    refine l_pure rfl (s_asg  rfl ?_)
    refine l_nil ?_
    repeat (with_reducible first | refine c_seq ?_ | refine c_block ?_ | refine c_skip ?_ | refine x_then ?_ | refine x_block ?_)
    refine c_ret ?_
    repeat (with_reducible first | refine x_then_ret ?_ | refine x_block_ret ?_)
    refine r_one rfl rfl ?_
    exact ⟨_, hG, hS⟩
end Go.Proofs.YtknccjbkacaelaaGreatDoor
