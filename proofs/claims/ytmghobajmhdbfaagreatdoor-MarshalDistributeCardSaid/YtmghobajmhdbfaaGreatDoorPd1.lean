/-
  Part 1 of the texts that the law's proof is made of: the framework and the walks.
-/
import Derived.Below
import Derived.OwnWalk
import Derived.Orders
import Derived.KernelRfl
import Derived.Laws.StructEq
import Derived.Laws.Shifts
import Derived.Laws.Strings
import Derived.Laws.Small
import Derived.Great.BuildSlice
import Derived.Laws.BytesString
import Derived.Laws.AppendOwnNone
import Derived.Maps.AppendAt
import Derived.Great.FillDense
import Derived.IntWalk
import Derived.Laws.ResultCell
import Derived.Laws.Rows
import Derived.Test.YtmghobajmhdbfaaGreatDoorProg
namespace Go.Sx
open Go Go.RowKit
/-- A call that returns. -/
def Ret (P : Program) (f : FuncId) (args : Array Value) (w : World) (R : Value → World → Prop) : Prop :=
  Calls P f args w fun e w' => ∃ v, e = .returned v ∧ R v w'
theorem Ret.mono {P : Program} {f : FuncId} {args : Array Value} {w : World} {R R' : Value → World → Prop} (h : Ret P f args w R) (hr : ∀ v w', R v w' → R' v w') : Ret P f args w R' :=
  Calls.mono h fun _ _ ⟨v, he, hR⟩ => ⟨v, he, hr _ _ hR⟩
def ent : List Value → Nat → Value
  | [], _ => undef
  | v :: _, 0 => v
  | _ :: l, n + 1 => ent l n
def upd (ρ : Nat → Value) (d : Nat) (v : Value) : Nat → Value := fun t => bif Nat.beq t d then v else ρ t
def updo (ρ : Nat → Value) : Option Nat → Value → (Nat → Value)
  | some d, v => upd ρ d v
  | none, _ => ρ
def act (N : Nat) (ρ : Nat → Value) : Act := ⟨Array.ofFn (n := N) fun i => ρ i.val, []⟩
def ev (N : Nat) (ρ : Nat → Value) : Operand → Value
  | .tmp t => bif Nat.blt t N then ρ t else undef
  | .const v => v
  | .global g => .pointer (some ⟨g, 0, none⟩)
  | .func f => .func (.func f) #[] #[]
theorem tmps_getD (N : Nat) (ρ : Nat → Value) (t : Nat) : (act N ρ).tmps.getD t undef = ev N ρ (.tmp t) := by
  simp only [act, ev]
  by_cases h : t < N
  · have hb : Nat.blt t N = true := by rw [Nat.blt_eq]; exact h
    simp [hb, Array.getD, h]
  · have hb : Nat.blt t N = false := by
      cases h' : Nat.blt t N with
      | false => rfl
      | true => rw [Nat.blt_eq] at h'; exact absurd h' h
    simp [hb, Array.getD, h]
theorem act_eval (N : Nat) (ρ : Nat → Value) : (act N ρ).eval = ev N ρ := by
  funext x
  cases x with
  | tmp t => exact tmps_getD N ρ t
  | _ => rfl
theorem act_put (N : Nat) (ρ : Nat → Value) (d : Option Tmp) (v : Value) : (act N ρ).put d v = act N (updo ρ d v) := by
  cases d with
  | none => rfl
  | some d =>
    simp only [Act.put, act, updo]
    congr 1
    apply Array.ext
    · simp
    · intro i h1 h2
      rw [Array.getElem_setIfInBounds (by simpa using h2)]
      simp only [Array.getElem_ofFn, upd]
      by_cases h : d = i
      · subst h; simp
      · have : Nat.beq i d = false := by cases h' : Nat.beq i d with | false => rfl | true => exact absurd (Nat.eq_of_beq_eq_true h').symm h
        simp [h, this]
theorem ent_array (args : List Value) (N : Nat) (h : args.length ≤ N) :
    (args.toArray ++ Array.replicate (N - args.toArray.size) undef) = Array.ofFn (n := N) fun i => ent args i.val := by
  apply Array.ext
  · simp; omega
  · intro i h1 h2
    have key : ∀ (l : List Value) (i : Nat) (_ : i < l.length), ent l i = l[i] := by
      intro l
      induction l with
      | nil => intro i hi; simp at hi
      | cons a l ih => intro i hi; cases i with
        | zero => rfl
        | succ i => simpa [ent] using ih i (by simpa using hi)
    have key2 : ∀ (l : List Value) (i : Nat) (_ : l.length ≤ i), ent l i = undef := by
      intro l
      induction l with
      | nil => intro i hi; rfl
      | cons a l ih => intro i hi; cases i with
        | zero => simp at hi
        | succ i => simpa [ent] using ih i (by simpa using hi)
    by_cases hi : i < args.length
    · rw [Array.getElem_append_left (by simpa using hi)]
      simp [key args i hi]
    · rw [Array.getElem_append_right (by simpa using hi)]
      simp [key2 args i (by omega)]
/-- Into a function's body. -/
theorem enter {P : Program} {f : FuncId} {fn : Func} {c : Code} {N : Nat} {l : List Value} {w : World} {R : Value → World → Prop}
    (hf : P.funcs[f]? = some fn) (hb : fn.body = some c) (hN : fn.ntmps = N) (hl : Nat.ble l.length N = true)
    (h : c.wp P (bodyPost P fn fun e w' => ∃ v, e = .returned v ∧ R v w') (act N (ent l)) w) : Ret P f l.toArray w R := by
  subst hN
  refine calls_of_wp hf hb ?_
  rw [ent_array l fn.ntmps (Nat.le_of_ble_eq_true hl)]
  exact h
section
variable {P : Program} {N : Nat} {ρ : Nat → Value} {w : World} {Q : Exit → Act → World → Prop}
/-- A list of operations, from a state that is given slot by slot. -/
structure wl (P : Program) (ops : Array Oper) (Q : Exit → Act → World → Prop) (l : List Oper) (N : Nat) (ρ : Nat → Value) (w : World) : Prop where
  out : wpList P ops Q l (act N ρ) w
theorem c_reg {id : Nat} {l : List Oper} (h : wl P l.toArray Q l N ρ w) : (Code.region id l.toArray false).wp P Q (act N ρ) w := wp_region_lit h.out
theorem c_seq {x y : Code} {a : Act} (h : x.wp P (Exit.then (y.wp P Q) Q) a w) : (Code.seq x y).wp P Q a w := wp_seq h
theorem c_block {id : Nat} {c : Code} {a : Act} (h : c.wp P (Exit.inBlock id Q) a w) : (Code.block id c).wp P Q a w := wp_block h
theorem c_skip {a : Act} (h : Q .normal a w) : Code.skip.wp P Q a w := wp_skip h
theorem c_ret {a : Act} (h : Q .ret a w) : Code.ret.wp P Q a w := wp_ret h
theorem c_exit {id : Nat} {a : Act} (h : Q (.exit id) a w) : (Code.exit id).wp P Q a w := wp_exit h
/-- A test whose outcome is open: both ways. -/
theorem c_if {c : Operand} {x y : Code} (p : Prop) [Decidable p] (hc : ev N ρ c = .bool (decide p)) (ht : p → x.wp P Q (act N ρ) w) (hf : ¬ p → y.wp P Q (act N ρ) w) :
    (Code.cond c x y).wp P Q (act N ρ) w := by
  refine wp_cond_split (t := decide p) (by rw [act_eval]; exact hc) (fun h => ht (of_decide_eq_true h)) (fun h => hf (of_decide_eq_false h))
theorem c_yes {c : Operand} {x y : Code} {b : Bool} (hc : ev N ρ c = .bool b) (hb : b = true) (h : x.wp P Q (act N ρ) w) :
    (Code.cond c x y).wp P Q (act N ρ) w := wp_cond_true (by rw [act_eval, hc, hb]) h
theorem c_no {c : Operand} {x y : Code} {b : Bool} (hc : ev N ρ c = .bool b) (hb : b = false) (h : y.wp P Q (act N ρ) w) :
    (Code.cond c x y).wp P Q (act N ρ) w := wp_cond_false (by rw [act_eval, hc, hb]) h
/-- A loop: what holds at every round's head (of a logical state s), and a measure of it. -/
theorem c_loop {σ : Type} {c : Code} (I : σ → (Nat → Value) → World → Prop) (μ : σ → Nat) (s₀ : σ) (h₀ : I s₀ ρ w)
    (round : ∀ s ρ w, I s ρ w → c.wp P (Exit.then (fun a' w' => ∃ s' ρ', a' = act N ρ' ∧ I s' ρ' w' ∧ μ s' < μ s) Q) (act N ρ) w) :
    (Code.loop c).wp P Q (act N ρ) w := by
  have key : ∀ n, ∀ s ρ w, μ s ≤ n → I s ρ w → ∀ (b : Frame) (k : List Item) (cs : List Frame),
      ∃ e a' w', Q e a' w' ∧ Arrives P (lone (b.at (act N ρ) (.code c :: .inLoop c :: k)) cs w) b k cs e a' w' := by
    intro n
    induction n with
    | zero =>
      intro s ρ w hn hI b k cs
      obtain ⟨e, a₁, w₁, hq, harr⟩ := round s ρ w hI b (.inLoop c :: k) cs
      cases e with
      | normal => obtain ⟨s', ρ', _, _, hlt⟩ := hq; omega
      | exit id => exact ⟨_, a₁, w₁, hq, .pass (x := .inLoop c) rfl (fun _ _ => .inl (by simp)) harr⟩
      | goto l => exact ⟨_, a₁, w₁, hq, .pass (x := .inLoop c) rfl (fun _ _ => .inl (by simp)) harr⟩
      | ret => exact ⟨_, a₁, w₁, hq, .pass (x := .inLoop c) rfl (fun _ _ => .inl (by simp)) harr⟩
      | panic ch => exact ⟨_, a₁, w₁, hq, .pass (x := .inLoop c) rfl (fun _ _ => .inl (by simp)) harr⟩
      | outgrown => exact ⟨_, a₁, w₁, hq, .pass (x := .inLoop c) rfl (fun _ _ => .inl (by simp)) harr⟩
    | succ n ih =>
      intro s ρ w hn hI b k cs
      obtain ⟨e, a₁, w₁, hq, harr⟩ := round s ρ w hI b (.inLoop c :: k) cs
      cases e with
      | normal =>
        obtain ⟨s', ρ', rfl, hI', hlt⟩ := hq
        obtain ⟨e₂, a₂, w₂, hq₂, harr₂⟩ := ih s' ρ' w₁ (by omega) hI' b k cs
        exact ⟨e₂, a₂, w₂, hq₂, .of_steps (Steps.trans harr (.one step_inLoop)) harr₂⟩
      | exit id => exact ⟨_, a₁, w₁, hq, .pass (x := .inLoop c) rfl (fun _ _ => .inl (by simp)) harr⟩
      | goto l => exact ⟨_, a₁, w₁, hq, .pass (x := .inLoop c) rfl (fun _ _ => .inl (by simp)) harr⟩
      | ret => exact ⟨_, a₁, w₁, hq, .pass (x := .inLoop c) rfl (fun _ _ => .inl (by simp)) harr⟩
      | panic ch => exact ⟨_, a₁, w₁, hq, .pass (x := .inLoop c) rfl (fun _ _ => .inl (by simp)) harr⟩
      | outgrown => exact ⟨_, a₁, w₁, hq, .pass (x := .inLoop c) rfl (fun _ _ => .inl (by simp)) harr⟩
  intro b k cs
  obtain ⟨e, a', w', hq, harr⟩ := key _ s₀ ρ w (Nat.le_refl _) h₀ b k cs
  exact ⟨e, a', w', hq, .of_steps (.one step_loop) harr⟩
/-- The same where nothing follows in a sequence (a block's end, a round's end): the end itself is the continuation. -/
theorem c_cut1 {x : Code} (M : (Nat → Value) → World → Prop) (hx : x.wp P (Exit.then (fun a' w' => ∃ ρ', a' = act N ρ' ∧ M ρ' w') Q) (act N ρ) w)
    (hy : ∀ ρ w, M ρ w → Q .normal (act N ρ) w) : x.wp P Q (act N ρ) w := by
  refine Code.wp_mono (fun e a w h => ?_) hx
  cases e <;> first | exact h | (obtain ⟨ρ', rfl, hM⟩ := h; exact hy _ _ hM)
theorem x_then {a : Act} {K : Act → World → Prop} (h : K a w) : Exit.then K Q .normal a w := h
theorem x_then_ret {a : Act} {K : Act → World → Prop} (h : Q .ret a w) : Exit.then K Q .ret a w := h
theorem x_then_exit {a : Act} {K : Act → World → Prop} {i : Nat} (h : Q (.exit i) a w) : Exit.then K Q (.exit i) a w := h
theorem x_block {id : Nat} {a : Act} (h : Q .normal a w) : Exit.inBlock id Q .normal a w := h
theorem x_block_ret {id : Nat} {a : Act} (h : Q .ret a w) : Exit.inBlock id Q .ret a w := h
theorem x_block_exit {id : Nat} {a : Act} (h : Q .normal a w) : Exit.inBlock id Q (.exit id) a w := by simp only [Exit.inBlock, if_true]; exact h
theorem x_block_pass {id i : Nat} {a : Act} (hi : Nat.beq i id = false) (h : Q (.exit i) a w) : Exit.inBlock id Q (.exit i) a w := by
  have : ¬ i = id := fun e => by subst e; simp at hi
  simp only [Exit.inBlock, this, if_false]; exact h
theorem r_one {fn : Func} {t : Nat} {R : Value → World → Prop} {v : Value} (hr : fn.results = #[.tmp t]) (hv : ev N ρ (.tmp t) = v) (h : R v w) :
    bodyPost P fn (fun e w' => ∃ v, e = .returned v ∧ R v w') .ret (act N ρ) w :=
  bodyPost_ret (results_tmp hr _ _ _) rfl ⟨_, rfl, by rw [tmps_getD, hv]; exact h⟩
theorem r_two {fn : Func} {t u : Nat} {R : Value → World → Prop} {x y : Value} (hr : fn.results = #[.tmp t, .tmp u]) (hx : ev N ρ (.tmp t) = x) (hy : ev N ρ (.tmp u) = y) (h : R (.tuple #[x, y]) w) :
    bodyPost P fn (fun e w' => ∃ v, e = .returned v ∧ R v w') .ret (act N ρ) w :=
  bodyPost_ret (results_tmp2 hr _ _ _) rfl ⟨_, rfl, by rw [tmps_getD, tmps_getD, hx, hy]; exact h⟩
theorem r_none {fn : Func} {R : Value → World → Prop} (hr : fn.results = #[]) (h : R (.tuple #[]) w) :
    bodyPost P fn (fun e w' => ∃ v, e = .returned v ∧ R v w') .normal (act N ρ) w :=
  bodyPost_end (results_none hr _ _ _) rfl ⟨_, rfl, h⟩
end
end Go.Sx
namespace Go.Sx
open Go Go.RowKit
/-- A guard's outcome, slot by slot. -/
def gd (ops : Array Oper) (N : Nat) (ρ : Nat → Value) : Option (Nat × Bool) → Bool
  | none => true
  | some (j, b) => match (ops[j]?).bind (·.dst) with
    | some d => match ev N ρ (.tmp d) with
      | .bool c => c == b
      | _ => false
    | none => false
theorem gd_wanted (ops : Array Oper) (N : Nat) (ρ : Nat → Value) (o : Oper) (h : gd ops N ρ o.guard = true) : Region.wanted o (yielded ops (act N ρ).tmps) = true := by
  unfold Region.wanted
  cases hg : o.guard with
  | none => rfl
  | some p =>
    obtain ⟨j, b⟩ := p
    rw [hg] at h
    simp only [gd] at h
    simp only
    split at h
    · rename_i d hd
      have ht := tmps_getD N ρ d
      split at h
      · rename_i c hc
        rw [hc] at ht
        have hq : (act N ρ).tmps[d]? = some (.bool c) := by
          rw [Array.getD_eq_getD_getElem?] at ht
          cases hx : (act N ρ).tmps[d]? with
          | none => rw [hx] at ht; exact absurd ht (by simp [undef])
          | some x => rw [hx] at ht; simpa using ht
        unfold yielded
        rw [hd]
        simp only [Option.bind_some, hq]
        simpa using h
      · cases h
    · cases h
/-- A guard's slot that says the other, or nothing. -/
def gno (ops : Array Oper) (N : Nat) (ρ : Nat → Value) : Option (Nat × Bool) → Bool
  | none => false
  | some (j, b) => match (ops[j]?).bind (·.dst) with
    | some d => match ev N ρ (.tmp d) with
      | .bool c => c != b
      | _ => true
    | none => false
theorem gno_wanted (ops : Array Oper) (N : Nat) (ρ : Nat → Value) (o : Oper) (h : gno ops N ρ o.guard = true) : Region.wanted o (yielded ops (act N ρ).tmps) = false := by
  unfold Region.wanted
  cases hg : o.guard with
  | none => rw [hg] at h; cases h
  | some p =>
    obtain ⟨j, b⟩ := p
    rw [hg] at h
    simp only [gno] at h
    simp only
    split at h
    · rename_i d hd
      have ht := tmps_getD N ρ d
      unfold yielded
      rw [hd]
      simp only [Option.bind_some]
      cases hx : (act N ρ).tmps[d]? with
      | none => rfl
      | some x =>
        rw [Array.getD_eq_getD_getElem?, hx] at ht
        simp only [Option.getD_some] at ht
        rw [← ht] at h
        cases x with
        | bool c =>
          simp only at h
          cases c <;> cases b <;> simp_all
        | _ => rfl
    · cases h
theorem gd_yes {ops : Array Oper} {N : Nat} {ρ : Nat → Value} {j : Nat} {b c : Bool} (d : Nat) (hd : (ops[j]?).bind (·.dst) = some d) (hv : ev N ρ (.tmp d) = .bool c) (hc : c = b) : gd ops N ρ (some (j, b)) = true := by
  simp only [gd, hd, hv, hc, beq_self_eq_true]
theorem gno_yes {ops : Array Oper} {N : Nat} {ρ : Nat → Value} {j : Nat} {b c : Bool} (d : Nat) (hd : (ops[j]?).bind (·.dst) = some d) (hv : ev N ρ (.tmp d) = .bool c) (hc : c = !b) : gno ops N ρ (some (j, b)) = true := by
  simp only [gno, hd, hv, hc]
  cases b <;> rfl
theorem gno_un {ops : Array Oper} {N : Nat} {ρ : Nat → Value} {j : Nat} {b : Bool} (d : Nat) (hd : (ops[j]?).bind (·.dst) = some d) (hv : ev N ρ (.tmp d) = undef) : gno ops N ρ (some (j, b)) = true := by
  simp only [gno, hd, hv, undef]
theorem vb {v : Value} {c b : Bool} (h : v = .bool c) (hc : c = b) : v = .bool b := by rw [h, hc]
theorem vi {v : Value} {k : IntKind} {m n : Int} (h : v = .int k m) (hc : m = n) : v = .int k n := by rw [h, hc]
theorem vs {v : Value} {s s' : ByteArray} (h : v = .string s) (hc : s = s') : v = .string s' := by rw [h, hc]
section
variable {P : Program} {N : Nat} {ρ : Nat → Value} {w w' : World} {Q : Exit → Act → World → Prop} {ops : Array Oper} {rest : List Oper}
  {d : Option Tmp} {ty : TypeId} {pos : String} {aft : Array Edge} {g : Option (Nat × Bool)} {x y z : Operand}
theorem l_nil (h : Q .normal (act N ρ) w) : wl P ops Q [] N ρ w := ⟨wpList_nil h⟩
def Pure1 (P : Program) (N : Nat) (ρ : Nat → Value) (o : Oper) (K : Value → Prop) : Prop := ∃ v, (∀ w, (execOp (ev N ρ) o).run P w = .ok (.value v) w) ∧ K v
def Read1 (P : Program) (N : Nat) (ρ : Nat → Value) (w : World) (o : Oper) (K : Value → Prop) : Prop :=
  ∃ v, (∀ w', Below w.heap.size w w' → (execOp (ev N ρ) o).run P w' = .ok (.value v) w') ∧ K v
def hup (P : Program) (K : Value → World → Prop) : Result Next → Prop
  | .ok (.value v) w' => K v w'
  | .ok .skip w' => K undef w'
  | .ok (.enter f args) w' => Ret P f args w' K
  | _ => False
structure Hup1 (P : Program) (N : Nat) (ρ : Nat → Value) (w : World) (o : Oper) (K : Value → World → Prop) : Prop where
  out : hup P K ((execOp (ev N ρ) o).run P w)
theorem hup_mono {K K' : Value → World → Prop} (hk : ∀ v w, K v w → K' v w) {r : Result Next} (h : hup P K r) : hup P K' r := by
  cases r with
  | ok n w' => cases n <;> first | exact hk _ _ h | exact Ret.mono h hk | exact h.elim
  | halt x w' => exact h.elim
theorem l_heavy {p : Op} (hg : gd ops N ρ g = true) (h : Hup1 P N ρ w ⟨d, p, ty, pos, aft, g⟩ fun v w' => wl P ops Q rest N (updo ρ d v) w') : wl P ops Q (⟨d, p, ty, pos, aft, g⟩ :: rest) N ρ w := by
  constructor
  unfold wpList
  rw [if_pos (gd_wanted ops N ρ ⟨d, p, ty, pos, aft, g⟩ hg)]
  refine .inl ?_
  unfold Oper.wp
  rw [act_eval]
  have h := h.out
  generalize (execOp (ev N ρ) ⟨d, p, ty, pos, aft, g⟩).run P w = r at *
  cases r with
  | halt x w' => exact h.elim
  | ok n w' =>
    cases n with
    | value v => rw [Oper.upon_value, act_put]; exact wl.out h
    | skip => rw [Oper.upon_skip, act_put]; exact wl.out h
    | enter f args =>
      rw [Oper.upon_enter]
      refine Calls.mono h ?_
      rintro e w1 ⟨v, rfl, hR⟩
      simp only [act_put]
      exact wl.out hR
    | _ => exact h.elim
theorem l_read {p : Op} (hg : gd ops N ρ g = true) (h : Read1 P N ρ w ⟨d, p, ty, pos, aft, g⟩ fun v => wl P ops Q rest N (updo ρ d v) w) : wl P ops Q (⟨d, p, ty, pos, aft, g⟩ :: rest) N ρ w := by
  obtain ⟨v, hv, hK⟩ := h
  refine l_heavy hg ⟨?_⟩
  rw [hv w (Below.refl _ _)]
  exact hK
theorem l_pure {p : Op} (hg : gd ops N ρ g = true) (h : Pure1 P N ρ ⟨d, p, ty, pos, aft, g⟩ fun v => wl P ops Q rest N (updo ρ d v) w) : wl P ops Q (⟨d, p, ty, pos, aft, g⟩ :: rest) N ρ w := by
  obtain ⟨v, hv, hK⟩ := h
  exact l_read hg ⟨v, fun w' _ => hv w', hK⟩
/-- An operation whose guard shuts it out. -/
theorem l_no {p : Op} (hg : gno ops N ρ g = true) (h : wl P ops Q rest N (updo ρ d undef) w) : wl P ops Q (⟨d, p, ty, pos, aft, g⟩ :: rest) N ρ w := by
  constructor
  unfold wpList
  rw [if_neg (by rw [gno_wanted ops N ρ ⟨d, p, ty, pos, aft, g⟩ hg]; decide), act_put]
  exact h.out
variable {K : Value → Prop} {K2 : Value → World → Prop}
theorem hup_of_run {o : Oper} {v : Value} (hr : (execOp (ev N ρ) o).run P w = .ok (.value v) w') (h : K2 v w') : Hup1 P N ρ w o K2 := ⟨by rw [hr]; exact h⟩
theorem hup_of_skip {o : Oper} (hr : (execOp (ev N ρ) o).run P w = .ok .skip w') (h : K2 undef w') : Hup1 P N ρ w o K2 := ⟨by rw [hr]; exact h⟩
/-- A call of a Go function. -/
theorem s_call {f : FuncId} {xs : List Operand} {ats : Array TypeId} {args : List Value} {R : Value → World → Prop}
    (hcall : ∀ args w, (callFunc f args).run P w = .ok (.enter f args) w) (hargs : xs.map (ev N ρ) = args)
    (hc : Ret P f args.toArray w R) (h : ∀ v w', R v w' → K2 v w') :
    Hup1 P N ρ w ⟨d, .call ⟨.value (.func f), xs.toArray, ats⟩, ty, pos, aft, g⟩ K2 := by
  have hr : (execOp (ev N ρ) ⟨d, .call ⟨.value (.func f), xs.toArray, ats⟩, ty, pos, aft, g⟩).run P w = .ok (.enter f args.toArray) w := by
    have := hcall args.toArray w
    simp only [execOp, resolve, ev, Deferred.ofValue, invoke, List.map_toArray, hargs, Sem.run_bind, Sem.run_pure, Result.andThen_ok, Array.empty_append, Array.append_empty]
    exact this
  constructor
  rw [hr]
  exact hc.mono h
/-- A call of a function value: a known function, what it has captured behind the arguments. -/
theorem s_callv {f : FuncId} {t : Nat} {cap : List Value} {xs : List Operand} {ats : Array TypeId} {args : List Value} {R : Value → World → Prop}
    (hcall : ∀ args w, (callFunc f args).run P w = .ok (.enter f args) w) (hf : ev N ρ (.tmp t) = .func (.func f) #[] cap.toArray) (hargs : xs.map (ev N ρ) ++ cap = args)
    (hc : Ret P f args.toArray w R) (h : ∀ v w', R v w' → K2 v w') :
    Hup1 P N ρ w ⟨d, .call ⟨.value (.tmp t), xs.toArray, ats⟩, ty, pos, aft, g⟩ K2 := by
  have hr : (execOp (ev N ρ) ⟨d, .call ⟨.value (.tmp t), xs.toArray, ats⟩, ty, pos, aft, g⟩).run P w = .ok (.enter f args.toArray) w := by
    have := hcall args.toArray w
    simp only [execOp, resolve, hf, Deferred.ofValue, invoke, List.map_toArray, Sem.run_bind, Sem.run_pure, Result.andThen_ok, List.append_toArray, List.nil_append, hargs]
    exact this
  constructor
  rw [hr]
  exact hc.mono h
theorem s_move {v : Value} (hx : ev N ρ x = v) (h : K v) : Pure1 P N ρ ⟨d, .move x, ty, pos, aft, g⟩ K :=
  ⟨_, fun w => (by simp [execOp, hx]), h⟩
theorem s_asg {v : Value} (hx : ev N ρ x = v) (h : K v) : Pure1 P N ρ ⟨d, .assign x, ty, pos, aft, g⟩ K :=
  ⟨_, fun w => (by simp [execOp, hx]), h⟩
theorem s_pick {v : Value} {b : Bool} (hx : ev N ρ x = .bool b) (hv : (bif b then ev N ρ y else ev N ρ z) = v) (h : K v) :
    Pure1 P N ρ ⟨d, .pick x y z, ty, pos, aft, g⟩ K :=
  ⟨_, fun w => (by subst hv; cases b <;> simp [execOp, hx, asBool]), h⟩
theorem s_ext {i : Nat} {vs : Array Value} {v : Value} (hx : ev N ρ x = .tuple vs) (hv : vs[i]? = some v) (h : K v) :
    Pure1 P N ρ ⟨d, .extract x i, ty, pos, aft, g⟩ K :=
  ⟨_, fun w => (by simp [execOp, hx, Instr.extract, hv]), h⟩
variable {k k' : IntKind} {m n r : Int} {t t' : TypeId}
theorem s_add (hx : ev N ρ x = .int k m) (hy : ev N ρ y = .int k n) (hr : k.wrap (m + n) = r) (h : K (.int k r)) :
    Pure1 P N ρ ⟨d, .binOp .add t x y t', ty, pos, aft, g⟩ K :=
  ⟨_, fun w => (by simp [execOp, hx, hy, eqGuard, binOp, Op.intArith, hr]), h⟩
theorem s_sub (hx : ev N ρ x = .int k m) (hy : ev N ρ y = .int k n) (hr : k.wrap (m - n) = r) (h : K (.int k r)) :
    Pure1 P N ρ ⟨d, .binOp .sub t x y t', ty, pos, aft, g⟩ K :=
  ⟨_, fun w => (by simp [execOp, hx, hy, eqGuard, binOp, Op.intArith, hr]), h⟩
theorem s_mul (hx : ev N ρ x = .int k m) (hy : ev N ρ y = .int k n) (hr : k.wrap (m * n) = r) (h : K (.int k r)) :
    Pure1 P N ρ ⟨d, .binOp .mul t x y t', ty, pos, aft, g⟩ K :=
  ⟨_, fun w => (by simp [execOp, hx, hy, eqGuard, binOp, Op.intArith, hr]), h⟩
theorem s_quo (hx : ev N ρ x = .int k m) (hy : ev N ρ y = .int k n) (hn : n ≠ 0) (hr : k.wrap (m.tdiv n) = r) (h : K (.int k r)) :
    Pure1 P N ρ ⟨d, .binOp .quo t x y t', ty, pos, aft, g⟩ K :=
  ⟨_, fun w => (by simp [execOp, hx, hy, eqGuard, binOp, Op.intDiv, hn, hr]), h⟩
theorem s_rem (hx : ev N ρ x = .int k m) (hy : ev N ρ y = .int k n) (hn : n ≠ 0) (hr : m.tmod n = r) (h : K (.int k r)) :
    Pure1 P N ρ ⟨d, .binOp .rem t x y t', ty, pos, aft, g⟩ K :=
  ⟨_, fun w => (by simp [execOp, hx, hy, eqGuard, binOp, Op.intDiv, hn, hr]), h⟩
theorem s_shl (hx : ev N ρ x = .int k m) (hy : ev N ρ y = .int k' n) (hn : 0 ≤ n) (hr : k.wrap (m * 2 ^ (min n.toNat k.bits)) = r) (h : K (.int k r)) :
    Pure1 P N ρ ⟨d, .binOp .shl t x y t', ty, pos, aft, g⟩ K :=
  ⟨_, fun w => (by simp [execOp, hx, hy, eqGuard, binOp, Op.shift, Int.not_lt.2 hn, hr]), h⟩
theorem s_shr (hx : ev N ρ x = .int k m) (hy : ev N ρ y = .int k' n) (hn : 0 ≤ n) (hr : m.fdiv (2 ^ (min n.toNat k.bits)) = r) (h : K (.int k r)) :
    Pure1 P N ρ ⟨d, .binOp .shr t x y t', ty, pos, aft, g⟩ K :=
  ⟨_, fun w => (by simp [execOp, hx, hy, eqGuard, binOp, Op.shift, Int.not_lt.2 hn, hr]), h⟩
/-- The four operations on bits, as the model has them. -/
def bitres (op : BinOp) (k : IntKind) (x y : Int) : Int :=
  let a := BitVec.ofInt k.bits x
  let b := BitVec.ofInt k.bits y
  k.wrap (match op with
  | .and => (a &&& b).toNat
  | .or => (a ||| b).toNat
  | .xor => (a ^^^ b).toNat
  | _ => (a &&& ~~~b).toNat)
theorem s_and (hx : ev N ρ x = .int k m) (hy : ev N ρ y = .int k n) (hr : bitres .and k m n = r) (h : K (.int k r)) :
    Pure1 P N ρ ⟨d, .binOp .and t x y t', ty, pos, aft, g⟩ K :=
  ⟨_, fun w => (by subst hr; simp [execOp, hx, hy, eqGuard, binOp, Op.intBits, bitres]), h⟩
theorem s_or (hx : ev N ρ x = .int k m) (hy : ev N ρ y = .int k n) (hr : bitres .or k m n = r) (h : K (.int k r)) :
    Pure1 P N ρ ⟨d, .binOp .or t x y t', ty, pos, aft, g⟩ K :=
  ⟨_, fun w => (by subst hr; simp [execOp, hx, hy, eqGuard, binOp, Op.intBits, bitres]), h⟩
theorem s_xor (hx : ev N ρ x = .int k m) (hy : ev N ρ y = .int k n) (hr : bitres .xor k m n = r) (h : K (.int k r)) :
    Pure1 P N ρ ⟨d, .binOp .xor t x y t', ty, pos, aft, g⟩ K :=
  ⟨_, fun w => (by subst hr; simp [execOp, hx, hy, eqGuard, binOp, Op.intBits, bitres]), h⟩
theorem s_andn (hx : ev N ρ x = .int k m) (hy : ev N ρ y = .int k n) (hr : bitres .andNot k m n = r) (h : K (.int k r)) :
    Pure1 P N ρ ⟨d, .binOp .andNot t x y t', ty, pos, aft, g⟩ K :=
  ⟨_, fun w => (by subst hr; simp [execOp, hx, hy, eqGuard, binOp, Op.intBits, bitres]), h⟩
theorem s_lss (hx : ev N ρ x = .int k m) (hy : ev N ρ y = .int k n) (h : K (.bool (decide (m < n)))) :
    Pure1 P N ρ ⟨d, .binOp .lss t x y t', ty, pos, aft, g⟩ K :=
  ⟨_, fun w => (by simp [execOp, hx, hy, eqGuard, binOp, Op.intCmp]), h⟩
theorem s_leq (hx : ev N ρ x = .int k m) (hy : ev N ρ y = .int k n) (h : K (.bool (decide (m ≤ n)))) :
    Pure1 P N ρ ⟨d, .binOp .leq t x y t', ty, pos, aft, g⟩ K :=
  ⟨_, fun w => (by simp [execOp, hx, hy, eqGuard, binOp, Op.intCmp]), h⟩
theorem s_gtr (hx : ev N ρ x = .int k m) (hy : ev N ρ y = .int k n) (h : K (.bool (decide (n < m)))) :
    Pure1 P N ρ ⟨d, .binOp .gtr t x y t', ty, pos, aft, g⟩ K :=
  ⟨_, fun w => (by simp [execOp, hx, hy, eqGuard, binOp, Op.intCmp]), h⟩
theorem s_geq (hx : ev N ρ x = .int k m) (hy : ev N ρ y = .int k n) (h : K (.bool (decide (n ≤ m)))) :
    Pure1 P N ρ ⟨d, .binOp .geq t x y t', ty, pos, aft, g⟩ K :=
  ⟨_, fun w => (by simp [execOp, hx, hy, eqGuard, binOp, Op.intCmp]), h⟩
theorem s_eql (hx : ev N ρ x = .int k m) (hy : ev N ρ y = .int k n) (h : K (.bool (decide (m = n)))) :
    Pure1 P N ρ ⟨d, .binOp .eql t x y t', ty, pos, aft, g⟩ K :=
  ⟨.bool (decide (m = n)), fun w => (by
    have : (m == n) = decide (m = n) := rfl
    simp [execOp, hx, hy, eqGuard, binOp, Op.intCmp, this]), h⟩
theorem s_neq (hx : ev N ρ x = .int k m) (hy : ev N ρ y = .int k n) (h : K (.bool (decide (m ≠ n)))) :
    Pure1 P N ρ ⟨d, .binOp .neq t x y t', ty, pos, aft, g⟩ K :=
  ⟨.bool (decide (m ≠ n)), fun w => (by
    have : (m != n) = decide (m ≠ n) := by rw [Bool.eq_iff_iff]; simp
    simp [execOp, hx, hy, eqGuard, binOp, Op.intCmp, this]), h⟩
theorem s_conv (hx : ev N ρ x = .int k m) (hk : P.underlying t' = some (.int k')) (hs : ∃ e, P.underlying t = some e) (hr : k'.wrap m = r) (h : K (.int k' r)) :
    Pure1 P N ρ ⟨d, .convert t t' x, ty, pos, aft, g⟩ K := by
  obtain ⟨e, he⟩ := hs
  refine ⟨_, fun w => ?_, h⟩
  subst hr
  simp [execOp, hx, convert, underlying, he, hk, Conv.intToInt]
theorem s_not {b : Bool} (hx : ev N ρ x = .bool b) (h : K (.bool !b)) :
    Pure1 P N ρ ⟨d, .unOp .not t x, ty, pos, aft, g⟩ K :=
  ⟨_, fun w => (by simp [execOp, hx, Op.unary]), h⟩
theorem s_neg (hx : ev N ρ x = .int k m) (hr : k.wrap (0 - m) = r) (h : K (.int k r)) :
    Pure1 P N ρ ⟨d, .unOp .neg t x, ty, pos, aft, g⟩ K :=
  ⟨_, fun w => (by subst hr; simp [execOp, hx, Op.unary, Op.intArith]), h⟩
theorem s_com (hx : ev N ρ x = .int k m) (hr : bitres .xor k (if k.signed then -1 else k.max) m = r) (h : K (.int k r)) :
    Pure1 P N ρ ⟨d, .unOp .xor t x, ty, pos, aft, g⟩ K :=
  ⟨_, fun w => (by subst hr; simp [execOp, hx, Op.unary, Op.intBits, bitres]), h⟩
theorem s_eqb {b c : Bool} (hx : ev N ρ x = .bool b) (hy : ev N ρ y = .bool c) (ht : P.underlying t = some .bool) (h : K (.bool (b == c))) :
    Pure1 P N ρ ⟨d, .binOp .eql t x y t', ty, pos, aft, g⟩ K :=
  ⟨_, fun w => (by simp [execOp, hx, hy, eqGuard, run_eql_bool w t b c ht]), h⟩
theorem s_neb {b c : Bool} (hx : ev N ρ x = .bool b) (hy : ev N ρ y = .bool c) (ht : P.underlying t = some .bool) (h : K (.bool (b != c))) :
    Pure1 P N ρ ⟨d, .binOp .neq t x y t', ty, pos, aft, g⟩ K :=
  ⟨.bool (!(b == c)), fun w => (by simp [execOp, hx, hy, eqGuard, run_neq_bool w t b c ht, -bne_iff_ne, -Bool.not_eq_eq_eq_not]), h⟩
variable {s s' : ByteArray}
theorem tl_eq (s s' : ByteArray) : (s.toList == s'.toList) = decide (s = s') := by
  rw [Bool.eq_iff_iff]
  simp only [beq_iff_eq, decide_eq_true_eq]
  constructor
  · intro h
    cases s; cases s'
    rename_i a b
    rw [ByteArray.toList_eq, ByteArray.toList_eq] at h
    congr 1
    exact Array.ext' h
  · rintro rfl; rfl
theorem s_eqs (hx : ev N ρ x = .string s) (hy : ev N ρ y = .string s') (h : K (.bool (decide (s = s')))) :
    Pure1 P N ρ ⟨d, .binOp .eql t x y t', ty, pos, aft, g⟩ K :=
  ⟨_, fun w => (by simp only [execOp, hx, hy, eqGuard, binOp, Op.stringOp, tl_eq]; simp), h⟩
theorem s_nes (hx : ev N ρ x = .string s) (hy : ev N ρ y = .string s') (h : K (.bool (decide (s ≠ s')))) :
    Pure1 P N ρ ⟨d, .binOp .neq t x y t', ty, pos, aft, g⟩ K :=
  ⟨.bool (decide (s ≠ s')), fun w => (by simp only [execOp, hx, hy, eqGuard, binOp, Op.stringOp, tl_eq]; simp), h⟩
theorem s_lens (hx : ev N ρ x = .string s) (ht : P.underlying t = some .string) (h : K (.int .i64 s.size)) :
    Pure1 P N ρ ⟨d, .call ⟨.builtin .len, #[x], #[t]⟩, ty, pos, aft, g⟩ K :=
  ⟨_, fun w => (by simp [execOp, resolve, invoke, builtin, hx, Builtin.len_, underlying, ht, goInt]), h⟩
theorem s_ixs {i : Nat} (hx : ev N ρ x = .string s) (hy : ev N ρ y = .int k m) (hm : m = (i : Int)) (hi : i < s.size) (ht : P.underlying t = some .string)
    (h : K (.int .u8 (s[i]'hi).toNat)) :
    Pure1 P N ρ ⟨d, .index t x y, ty, pos, aft, g⟩ K := by
  subst hm
  refine ⟨_, fun w => ?_, h⟩
  have h1 : s[i]? = some (s[i]'hi) := by simp [hi]
  simp [execOp, hx, hy, Instr.index, asIntOf, underlying, ht, h1]
theorem s_slcsl {lo : Nat} {kl : IntKind} {ml : Int} (hx : ev N ρ x = .string s) (hl : ev N ρ y = .int kl ml) (hml : ml = (lo : Int))
    (h1 : lo ≤ s.size) (ht : P.underlying t = some .string) (h : K (.string (s.extract lo s.size))) :
    Pure1 P N ρ ⟨d, .slice t x (some y) none none, ty, pos, aft, g⟩ K := by
  subst hml
  refine ⟨_, fun w => ?_, h⟩
  simp [execOp, hx, hl, Instr.sliceAt, Instr.slice, Instr.sliceBounds, Instr.sliceBound, asIntOf, underlying, ht, h1]
end
end Go.Sx
namespace Go.Sx
open Go Go.RowKit
theorem add_lit (b o n : Nat) : (⟨b, o, none⟩ : Addr).add n = ⟨b, o + n, none⟩ := by unfold Addr.add; split <;> simp_all
theorem add_zero (a : Addr) : a.add 0 = a := by simp [Addr.add]
/-- The cells from an address on. -/
def At (w : World) (a : Addr) (cs : List Value) : Prop := ∀ j u, cs[j]? = some u → w.cell? (a.add j) = some u
theorem At.below {w w' : World} {a : Addr} {cs : List Value} (h : At w a cs) (hb : Below w.heap.size w w') : At w' a cs := fun j u hu => by
  have h1 := h j u hu
  rw [hb.cell (by have := World.block_lt_of_cell? w _ h1; exact this)]
  exact h1
theorem At.one {w : World} {a : Addr} {u : Value} (h : w.cell? a = some u) : At w a [u] := fun j v hv => by
  cases j with
  | zero => simp at hv; subst hv; rw [add_zero]; exact h
  | succ j => simp at hv
theorem At.head {w : World} {a : Addr} {u : Value} {cs : List Value} (h : At w a (u :: cs)) : w.cell? a = some u := by
  have := h 0 u rfl
  rwa [add_zero] at this
theorem At.seg {w : World} {b o : Nat} {cs : List Value} (h : At w ⟨b, o, none⟩ cs) (k n : Nat) : At w ⟨b, o + k, none⟩ ((cs.drop k).take n) := fun j u hu => by
  rw [add_lit]
  have h2 : cs[k + j]? = some u := by
    rw [List.getElem?_take] at hu
    split at hu
    · rw [List.getElem?_drop] at hu; exact hu
    · cases hu
  have := h (k + j) u h2
  rw [add_lit] at this
  rw [Nat.add_assoc]
  exact this
theorem At.of_heap {w : World} {b : Nat} {cs : List Value} {t : TypeId} {fr : Nat × Nat} (h : w.heap[b]? = some (.cells cs.toArray t fr)) (k n : Nat) : At w ⟨b, k, none⟩ ((cs.drop k).take n) := by
  have : At w ⟨b, 0, none⟩ cs := fun j u hu => by
    rw [add_lit, cell_of_row w b _ cs.toArray t fr h]
    simpa using hu
  have h2 := this.seg k n
  simpa using h2
def sbase : Value → Addr
  | .slice (some a) _ _ => a
  | _ => ⟨0, 0, none⟩
/-- A slice whose elements are, as cells, 'enc' of the members of a list. -/
structure Sl {α : Type} (enc : α → List Value) (size : Nat) (w : World) (v : Value) (L : List α) : Prop where
  form : ∃ a cap, v = .slice a L.length cap ∧ L.length ≤ cap ∧ cap ≤ maxLen ∧ (a = none → cap = 0)
  elt : ∀ i (h : i < L.length), At w ((sbase v).add (i * size)) (enc L[i])
section
variable {α : Type} {enc : α → List Value} {size : Nat} {w w' : World} {v : Value} {L : List α}
theorem Sl.below (h : Sl enc size w v L) (hb : Below w.heap.size w w') : Sl enc size w' v L := ⟨h.form, fun i hi => (h.elt i hi).below hb⟩
theorem Sl.maxLen (h : Sl enc size w v L) : L.length ≤ 9223372036854775807 := by
  obtain ⟨a, cap, _, h1, h2, _⟩ := h.form
  unfold Go.maxLen at h2; omega
theorem Sl.at (h : Sl enc size w v L) {i : Nat} (hi : i < L.length) (d : α) : At w ((sbase v).add (i * size)) (enc (L.getD i d)) := by
  have := h.elt i hi
  simpa [List.getD, hi] using this
theorem Sl.nil (enc : α → List Value) (size : Nat) (w : World) : Sl enc size w (.slice none 0 0) [] := ⟨⟨none, 0, rfl, Nat.le_refl _, Nat.zero_le _, fun _ => rfl⟩, fun i hi => by simp at hi⟩
/-- The cells of a list of elements of one size: element i's cells. -/
theorem flat_get (hu : ∀ x, (enc x).length = size) (L : List α) (i j : Nat) (hi : i < L.length) (hj : j < size) : (L.flatMap enc)[i * size + j]? = (enc L[i])[j]? := by
  induction L generalizing i with
  | nil => simp at hi
  | cons x L ih =>
    cases i with
    | zero =>
      rw [List.flatMap_cons, Nat.zero_mul, Nat.zero_add, List.getElem?_append_left (by rw [hu]; exact hj)]
      rfl
    | succ i =>
      rw [List.flatMap_cons, List.getElem?_append_right (by rw [hu, Nat.add_mul]; omega), hu, Nat.add_mul]
      rw [show i * size + 1 * size + j - size = i * size + j by omega, ih i (by simpa using hi)]
      rfl
theorem flat_len (hu : ∀ x, (enc x).length = size) (L : List α) : (L.flatMap enc).length = L.length * size := by
  induction L with
  | nil => simp
  | cons x L ih => rw [List.flatMap_cons, List.length_append, hu, ih, List.length_cons, Nat.add_mul]; omega
/-- Out of a block that holds a list's cells and more behind them. -/
theorem Sl.of_heap {b : Nat} {t : TypeId} {fr : Nat × Nat} {spare : List Value} {cap : Nat} (hu : ∀ x, (enc x).length = size)
    (h : w.heap[b]? = some (.cells (L.flatMap enc ++ spare).toArray t fr)) (h1 : L.length ≤ cap) (h2 : cap ≤ Go.maxLen) : Sl enc size w (.slice (some ⟨b, 0, none⟩) L.length cap) L := by
  refine ⟨⟨some ⟨b, 0, none⟩, cap, rfl, h1, h2, fun h => by cases h⟩, fun i hi j u hj => ?_⟩
  have hj' : j < size := by
    have := (List.getElem?_eq_some_iff.1 hj).1
    rwa [hu] at this
  rw [show sbase (.slice (some ⟨b, 0, none⟩) L.length cap) = ⟨b, 0, none⟩ from rfl, add_lit, add_lit, cell_of_row w b _ _ t fr h]
  have hlt : i * size + j < (L.flatMap enc).length := by
    rw [flat_len hu]
    have : (i + 1) * size ≤ L.length * size := Nat.mul_le_mul_right _ hi
    rw [Nat.add_mul] at this; omega
  simp only [List.getElem?_toArray, Nat.zero_add]
  rw [List.getElem?_append_left hlt, flat_get hu L i j hi hj']
  exact hj
end
abbrev Blk := Nat × TypeId × List Value
structure St (w0 w : World) (H : List Blk) : Prop where
  below : Below w0.heap.size w0 w
  own : ∀ e ∈ H, w0.heap.size ≤ e.1 ∧ w.heap[e.1]? = some (.cells e.2.2.toArray e.2.1 (0, 0))
  nd : (H.map (·.1)).Nodup
section
variable {w0 w w' : World} {H H' : List Blk} {b k : Nat} {t : TypeId} {cs : List Value}
theorem St.init (w : World) : St w w [] := ⟨Below.refl _ _, fun e he => (by cases he), List.Pairwise.nil⟩
theorem St.lt (h : St w0 w H) {e : Blk} (he : e ∈ H) : e.1 < w.heap.size := (Array.getElem?_eq_some_iff.1 (h.own e he).2).1
theorem St.get (h : St w0 w H) (hk : H[k]? = some (b, t, cs)) : w.heap[b]? = some (.cells cs.toArray t (0, 0)) := (h.own _ (List.mem_of_getElem? hk)).2
theorem St.ge (h : St w0 w H) (hk : H[k]? = some (b, t, cs)) : w0.heap.size ≤ b := (h.own _ (List.mem_of_getElem? hk)).1
theorem St.blt (h : St w0 w H) (hk : H[k]? = some (b, t, cs)) : b < w.heap.size := h.lt (List.mem_of_getElem? hk)
theorem St.at (h : St w0 w H) (hk : H[k]? = some (b, t, cs)) (o n : Nat) : At w ⟨b, o, none⟩ ((cs.drop o).take n) := At.of_heap (h.get hk) o n
/-- Behind whatever leaves all blocks alone (a call that makes memory alone, a new block, a draw). -/
theorem St.grow (h : St w0 w H) (hb : Below w.heap.size w w') : St w0 w' H :=
  ⟨h.below.trans (hb.mono h.below.size), fun e he => ⟨(h.own e he).1, by rw [hb.block _ (h.lt he)]; exact (h.own e he).2⟩, h.nd⟩
theorem St.push (h : St w0 w H) (hb : Below w.heap.size w w') (hge : w.heap.size ≤ b) (hc : w'.heap[b]? = some (.cells cs.toArray t (0, 0))) : St w0 w' ((b, t, cs) :: H) := by
  have h' := h.grow hb
  refine ⟨h'.below, fun e he => ?_, ?_⟩
  · rcases List.mem_cons.1 he with rfl | he
    · exact ⟨Nat.le_trans h.below.size hge, hc⟩
    · exact h'.own e he
  · rw [List.map_cons, List.nodup_cons]
    refine ⟨fun hm => ?_, h.nd⟩
    obtain ⟨e, he, hee⟩ := List.mem_map.1 hm
    have := h.lt he
    have hee' : e.1 = b := hee
    omega
theorem St.drop (h : St w0 w H) (hs : H'.Sublist H) : St w0 w H' := ⟨h.below, fun e he => h.own e (hs.subset he), List.Nodup.sublist (hs.map _) h.nd⟩
theorem St.perm (h : St w0 w H) (hp : H.Perm H') : St w0 w H' := ⟨h.below, fun e he => h.own e (hp.mem_iff.2 he), (hp.map _).nodup_iff.1 h.nd⟩
/-- A new base: what is one's own becomes old. -/
theorem St.base (h : St w0 w H) : Below w0.heap.size w0 w := h.below
/-- Block k's cells change, and no other block. -/
theorem St.mod (h : St w0 w H) (hk : H[k]? = some (b, t, cs)) {cs' : List Value} (hs : w.heap.size ≤ w'.heap.size) (hos : w'.os = w.os) (ht : w'.tape = w.tape) (ho : w'.output = w.output)
    (hoth : ∀ i, i < w.heap.size → i ≠ b → w'.heap[i]? = w.heap[i]?) (hc : w'.heap[b]? = some (.cells cs'.toArray t (0, 0))) : St w0 w' (H.set k (b, t, cs')) := by
  have hbge := h.ge hk
  have hw0 := h.below.size
  have hkl : k < H.length := (List.getElem?_eq_some_iff.1 hk).1
  have hkv : H[k] = (b, t, cs) := (List.getElem?_eq_some_iff.1 hk).2
  have hmap : (H.set k (b, t, cs')).map (·.1) = H.map (·.1) := by
    rw [List.map_set]
    apply List.ext_getElem?
    intro i
    rw [List.getElem?_set]
    split
    · rename_i hi; subst hi; simp [hkl, hkv]
    · rfl
  refine ⟨h.below.trans ⟨hos, ht, ho, hs, fun i hi => hoth i (by omega) (by omega)⟩, fun e he => ?_, by rw [hmap]; exact h.nd⟩
  obtain ⟨i, hi⟩ := List.mem_iff_getElem?.1 he
  rw [List.getElem?_set] at hi
  split at hi
  · rename_i hki
    subst hki
    obtain rfl := Option.some.inj hi
    exact ⟨hbge, hc⟩
  · rename_i hne
    have hm : e ∈ H := List.mem_of_getElem? hi
    refine ⟨(h.own e hm).1, ?_⟩
    rw [hoth _ (h.lt hm) ?_]
    · exact (h.own e hm).2
    · intro heq
      have hnd := h.nd
      have hil : i < H.length := (List.getElem?_eq_some_iff.1 hi).1
      have hiv : H[i] = e := (List.getElem?_eq_some_iff.1 hi).2
      have h1 : (H.map (·.1))[i]'(by simpa using hil) = (H.map (·.1))[k]'(by simpa using hkl) := by
        simp [hiv, hkv, heq]
      exact hne ((List.getElem_inj hnd).1 h1).symm
/-- A row is written. -/
theorem St.setRow (h : St w0 w H) (hk : H[k]? = some (b, t, cs)) (cs' : List Value) : St w0 (w.setRow b cs'.toArray) (H.set k (b, t, cs')) :=
  h.mod hk (by simp) rfl rfl rfl (fun i _ hne => setRow_other w b i _ hne) (setRow_heap w b _ _ t _ (h.get hk))
theorem below_alloc (w : World) (o : Obj) : Below w.heap.size w (w.alloc o) := (Below.refl _ _).alloc (Nat.le_refl _) o
theorem St.alloc (h : St w0 w H) (cs : List Value) (t : TypeId) : St w0 (w.alloc (.cells cs.toArray t)) ((w.heap.size, t, cs) :: H) :=
  h.push (below_alloc w _) (Nat.le_refl _) (heap_alloc_new w _)
theorem St.sl {α : Type} {enc : α → List Value} {size : Nat} {L : List α} {spare : List Value} {cap : Nat} (h : St w0 w H) (hk : H[k]? = some (b, t, cs)) (hcs : cs = L.flatMap enc ++ spare) (hu : ∀ x, (enc x).length = size)
    (h1 : L.length ≤ cap) (h2 : cap ≤ Go.maxLen) : Sl enc size w (.slice (some ⟨b, 0, none⟩) L.length cap) L :=
  Sl.of_heap hu (by rw [h.get hk, hcs]) h1 h2
end
def sinfo (P : Program) (t : TypeId) : Option (TypeId × Nat × Nat × List Value) :=
  match P.underlying t with
  | some (.slice e) => match P.info? e with
    | some i => match i.zero with
      | some z => if z.cells.size = i.size then some (e, i.size, i.bytes, z.cells.toList) else none
      | none => none
    | none => none
  | _ => none
theorem sinfo_parts {P : Program} {t e : TypeId} {size bytes : Nat} {z : List Value} (h : sinfo P t = some (e, size, bytes, z)) :
    P.underlying t = some (.slice e) ∧ ∃ i zv, P.info? e = some i ∧ i.zero = some zv ∧ i.size = size ∧ i.bytes = bytes ∧ zv.cells = z.toArray ∧ z.length = size := by
  unfold sinfo at h
  split at h
  · rename_i e' hu
    split at h
    · rename_i i hi
      split at h
      · rename_i zv hz
        split at h
        · rename_i hs
          simp only [Option.some.injEq, Prod.mk.injEq] at h
          obtain ⟨rfl, rfl, rfl, rfl⟩ := h
          exact ⟨hu, i, zv, hi, hz, rfl, rfl, by simp, by simpa using hs⟩
        · cases h
      · cases h
    · cases h
  · cases h
def vinfo (P : Program) (t : TypeId) : Option (Nat × Bool × List Value) :=
  match P.info? t, P.underlying t with
  | some i, some d => match i.zero with
    | some z => if z.cells.size = i.size then some (i.size, (match d with | .struct _ | .array _ _ => true | _ => false), z.cells.toList) else none
    | none => none
  | _, _ => none
theorem vinfo_parts {P : Program} {t : TypeId} {n : Nat} {agg : Bool} {z : List Value} (h : vinfo P t = some (n, agg, z)) :
    ∃ i d zv, P.info? t = some i ∧ P.underlying t = some d ∧ i.zero = some zv ∧ i.size = n ∧ (match d with | .struct _ | .array _ _ => true | _ => false) = agg ∧ zv.cells = z.toArray := by
  unfold vinfo at h
  split at h
  · rename_i i d hi hu
    split at h
    · rename_i zv hz
      split at h
      · simp only [Option.some.injEq, Prod.mk.injEq] at h
        obtain ⟨rfl, rfl, rfl⟩ := h
        exact ⟨i, d, zv, hi, hu, hz, rfl, rfl, by simp⟩
      · cases h
    · cases h
  · cases h
def foff (P : Program) (t : TypeId) (f : Nat) : Option Nat :=
  match P.underlying t with
  | some (.struct fs) => match fs[f]? with
    | some fd => match P.info? fd.type with
      | some i => if i.size = 0 then none else some fd.offset
      | none => none
    | none => none
  | _ => none
theorem foff_parts {P : Program} {t : TypeId} {f o : Nat} (h : foff P t f = some o) : ∃ fs fd i, P.underlying t = some (.struct fs) ∧ fs[f]? = some fd ∧ P.info? fd.type = some i ∧ ¬ i.size = 0 ∧ fd.offset = o := by
  unfold foff at h
  split at h
  · rename_i fs hu
    split at h
    · rename_i fd hf
      split at h
      · rename_i i hi
        split at h
        · cases h
        · rename_i hs
          exact ⟨fs, fd, i, hu, hf, hi, hs, Option.some.inj h⟩
      · cases h
    · cases h
  · cases h
/-- The value that lies in cells. -/
def mkv : Bool → List Value → Value
  | true, cs => .agg cs.toArray
  | false, u :: _ => u
  | false, [] => undef
/-- n elements of the zero value. -/
def rep (n : Nat) (z : List Value) : List Value := (List.replicate n z).flatten
theorem rep_succ (n : Nat) (z : List Value) : rep (n + 1) z = z ++ rep n z := by simp [rep, List.replicate_succ]
theorem rep_length (n : Nat) (z : List Value) : (rep n z).length = n * z.length := by
  induction n with
  | zero => simp [rep]
  | succ n ih => rw [rep_succ, List.length_append, ih, Nat.add_mul]; omega
theorem rep_get (n : Nat) (z : List Value) : ∀ i, i < n * z.length → (rep n z)[i]? = z[i % z.length]? := by
  induction n with
  | zero => intro i hi; simp at hi
  | succ n ih =>
    intro i hi
    rw [rep_succ]
    by_cases h : i < z.length
    · rw [List.getElem?_append_left h, Nat.mod_eq_of_lt h]
    · rw [List.getElem?_append_right (by omega), ih _ (by rw [Nat.add_mul] at hi; omega)]
      congr 1
      exact (Nat.mod_eq_sub_mod (by omega)).symm
theorem made_rep (z : List Value) (n : Nat) : madeCells z.toArray (n * z.length) = (rep n z).toArray := by
  apply Array.ext'
  apply List.ext_getElem?
  intro i
  rcases Nat.lt_or_ge i (n * z.length) with h | h
  · have hz : 0 < z.length := by rcases Nat.eq_zero_or_pos z.length with h0 | h0; · rw [h0] at h; simp at h
                                 · exact h0
    have hm : i % z.length < z.length := Nat.mod_lt _ hz
    have h2 : (madeCells z.toArray (n * z.length)).toList[i]? = z[i % z.length]? := by simp [madeCells, h, hm]
    have h3 : (rep n z).toArray.toList[i]? = z[i % z.length]? := by rw [← rep_get n z i h]
    rw [h2, h3]
  · rw [List.getElem?_eq_none (by simpa [madeCells] using h), List.getElem?_eq_none (by simpa [rep_length] using h)]
section
variable {P : Program} {N : Nat} {ρ : Nat → Value} {w0 w w' : World} {Q : Exit → Act → World → Prop} {ops : Array Oper} {rest : List Oper}
  {d : Option Tmp} {ty : TypeId} {pos : String} {aft : Array Edge} {g : Option (Nat × Bool)} {x y z : Operand} {t e : TypeId} {H : List Blk} {k b o : Nat} {cs : List Value} {v : Value} {K : Value → Prop} {K2 : Value → World → Prop}
theorem s_fld {f off : Nat} (hx : ev N ρ x = .pointer (some ⟨b, o, none⟩)) (hf : foff P t f = some off) (h : K (.pointer (some ⟨b, o + off, none⟩))) :
    Pure1 P N ρ ⟨d, .fieldAddr t x f, ty, pos, aft, g⟩ K := by
  obtain ⟨fs, fd, i, hu, hfd, hi, hs, rfl⟩ := foff_parts hf
  refine ⟨_, fun w => ?_, h⟩
  simp [execOp, hx, Instr.fieldAt, run_underlying hu, hfd, Instr.sureAddr, fieldPlace, sizeOf, typeInfo, hi, hs, add_lit]
theorem s_ixo {i n c sz by_ : Nat} {zz : List Value} {kk : IntKind} {m : Int} (hx : ev N ρ x = .slice (some ⟨b, o, none⟩) n c) (hy : ev N ρ y = .int kk m) (hm : m = (i : Int)) (hi : i < n)
    (ht : sinfo P t = some (e, sz, by_, zz)) (h : K (.pointer (some ⟨b, o + i * sz, none⟩))) :
    Pure1 P N ρ ⟨d, .indexAddr t x y, ty, pos, aft, g⟩ K := by
  obtain ⟨hu, ii, zv, hi1, _, hsz, _⟩ := sinfo_parts ht
  subst hm hsz
  refine ⟨_, fun w => ?_, h⟩
  simp [execOp, hx, hy, Instr.indexAt, asIntOf, run_underlying hu, hi, sizeOf, typeInfo, hi1, add_lit]
theorem s_ixr {α : Type} {enc : α → List Value} {L : List α} {i sz by_ : Nat} {zz : List Value} {kk : IntKind} {m : Int} (hx : ev N ρ x = v) (hy : ev N ρ y = .int kk m) (hS : Sl enc sz w v L) (hm : m = (i : Int)) (hi : i < L.length)
    (ht : sinfo P t = some (e, sz, by_, zz)) (h : K (.pointer (some ((sbase v).add (i * sz))))) :
    Pure1 P N ρ ⟨d, .indexAddr t x y, ty, pos, aft, g⟩ K := by
  obtain ⟨hu, ii, zv, hi1, _, hsz, _⟩ := sinfo_parts ht
  obtain ⟨a, cap, hv, hlc, _, hnone⟩ := hS.form
  subst hm hsz
  refine ⟨_, fun w => ?_, h⟩
  cases a with
  | none => have := hnone rfl; omega
  | some a =>
    subst hv
    simp [execOp, hx, hy, Instr.indexAt, asIntOf, run_underlying hu, hi, sizeOf, typeInfo, hi1, sbase]
theorem s_leno {n c : Nat} {a : Option Addr} (hx : ev N ρ x = .slice a n c) (ht : ∃ e, P.underlying t = some (.slice e)) (h : K (.int .i64 n)) :
    Pure1 P N ρ ⟨d, .call ⟨.builtin .len, #[x], #[t]⟩, ty, pos, aft, g⟩ K := by
  obtain ⟨e, ht⟩ := ht
  exact ⟨_, fun w => (by simp [execOp, resolve, invoke, builtin, hx, Builtin.len_, run_underlying ht, goInt]), h⟩
theorem s_lenr {α : Type} {enc : α → List Value} {size : Nat} {L : List α} (hx : ev N ρ x = v) (hS : Sl enc size w v L) (ht : ∃ e, P.underlying t = some (.slice e)) (h : K (.int .i64 L.length)) :
    Pure1 P N ρ ⟨d, .call ⟨.builtin .len, #[x], #[t]⟩, ty, pos, aft, g⟩ K := by
  obtain ⟨a, cap, hv, _⟩ := hS.form
  exact s_leno (hx.trans hv) ht h
theorem s_ld {n : Nat} {agg : Bool} {zz : List Value} {a : Addr} (hx : ev N ρ x = .pointer (some a)) (ht : vinfo P t = some (n, agg, zz)) (ha : At w a cs) (hn : cs.length = n) (hv : mkv agg cs = v) (hagg : agg = true ∨ n = 1)
    (h : K v) : Read1 P N ρ w ⟨d, .load t x, ty, pos, aft, g⟩ K := by
  obtain ⟨i, dd, zv, hi, hu, _, hs, hag, _⟩ := vinfo_parts ht
  subst hv hs
  refine ⟨_, fun w' hb => ?_, h⟩
  have ha' := ha.below hb
  have hisagg : (isAgg t).run P w' = .ok agg w' := by
    unfold isAgg
    rw [Sem.run_bind, run_underlying hu w']
    subst hag
    cases dd <;> simp
  cases agg with
  | true =>
    have hl := run_loadCells_list (P := P) w' a cs ha'
    rw [hn] at hl
    simp [execOp, hx, Instr.loadAt, Instr.sureAddr, loadVar, hisagg, sizeOf, typeInfo, hi, hl, mkv]
  | false =>
    rcases hagg with h0 | h0
    · cases h0
    · match cs, hn.trans h0, ha' with
      | [u], _, ha' =>
        have hc := ha'.head
        simp [execOp, hx, Instr.loadAt, Instr.sureAddr, loadVar, hisagg, hc, mkv]
/-- Out of a block of one's own. -/
theorem s_ldo {n : Nat} {agg : Bool} {zz : List Value} {t' : TypeId} (hx : ev N ρ x = .pointer (some ⟨b, o, none⟩)) (ht : vinfo P t = some (n, agg, zz)) (hS : St w0 w H) (hk : H[k]? = some (b, t', cs))
    (hn : ((cs.drop o).take n).length = n) (hv : mkv agg ((cs.drop o).take n) = v) (hagg : agg = true ∨ n = 1)
    (h : K v) : Read1 P N ρ w ⟨d, .load t x, ty, pos, aft, g⟩ K :=
  s_ld hx ht (hS.at hk o n) hn hv hagg h
/-- A single cell, by its index. -/
theorem s_ldc {zz : List Value} {t' : TypeId} (hx : ev N ρ x = .pointer (some ⟨b, o, none⟩)) (ht : vinfo P t = some (1, false, zz)) (hS : St w0 w H) (hk : H[k]? = some (b, t', cs))
    (hv : cs[o]? = some v) (h : K v) : Read1 P N ρ w ⟨d, .load t x, ty, pos, aft, g⟩ K :=
  s_ld hx ht (At.one (u := v) (by rw [cell_of_row w b o _ t' _ (hS.get hk)]; simpa using hv)) rfl rfl (.inr rfl) h
/-- An element of a slice that is read. -/
theorem s_lde {α : Type} {enc : α → List Value} {L : List α} {i n : Nat} {agg : Bool} {zz : List Value} {vs : Value} (dd : α) (hx : ev N ρ x = .pointer (some ((sbase vs).add (i * n)))) (ht : vinfo P t = some (n, agg, zz))
    (hS : Sl enc n w vs L) (hi : i < L.length) (hn : (enc (L.getD i dd)).length = n) (hv : mkv agg (enc (L.getD i dd)) = v) (hagg : agg = true ∨ n = 1)
    (h : K v) : Read1 P N ρ w ⟨d, .load t x, ty, pos, aft, g⟩ K :=
  s_ld hx ht (hS.at hi dd) hn hv hagg h
def splice (cs : List Value) (o : Nat) (new : List Value) : List Value := cs.take o ++ new ++ cs.drop (o + new.length)
theorem s_sta {n : Nat} {agg : Bool} {zz : List Value} {t' : TypeId} {new : List Value} (hx : ev N ρ x = .pointer (some ⟨b, o, none⟩)) (hy : ev N ρ y = v) (ht : vinfo P t = some (n, agg, zz)) (hS : St w0 w H) (hk : H[k]? = some (b, t', cs))
    (hv : v.cells.toList = new) (hn : new.length = n) (hfit : o + n ≤ cs.length) (h1 : new.all (·.oneCell') = true)
    (h : ∀ w', St w0 w' (H.set k (b, t', splice cs o new)) → K2 undef w') : Hup1 P N ρ w ⟨d, .store t x y, ty, pos, aft, g⟩ K2 := by
  obtain ⟨i, dd, zv, hi, hu, _, hs, _, _⟩ := vinfo_parts ht
  subst hs hv
  have hst := run_storeCells_at P b o t' v.cells.toList 0 cs.toArray w (hS.get hk) (by have := hn; simp only [Array.length_toList] at this; simp only [Array.length_toList, List.size_toArray]; omega) (fun u hu => (List.all_eq_true.1 h1) u hu)
  refine hup_of_skip (w' := w.setRow b (splice cs o v.cells.toList).toArray) ?_ (h _ (hS.setRow hk _))
  have hsz : v.cells.size = i.size := by simpa using hn
  simp only [Nat.add_zero] at hst
  simp [execOp, hx, hy, Instr.storeAt, Instr.sureAddr, storeVar, sizeOf, typeInfo, hi, hsz, hst, splice]
theorem splice_one (cs : List Value) (o : Nat) (u : Value) (h : o < cs.length) : splice cs o [u] = cs.set o u := by
  unfold splice
  rw [List.set_eq_take_append_cons_drop, if_pos h]
  simp
/-- A single cell. -/
theorem s_stc {zz : List Value} {t' : TypeId} (hx : ev N ρ x = .pointer (some ⟨b, o, none⟩)) (hy : ev N ρ y = v) (ht : vinfo P t = some (1, false, zz)) (hS : St w0 w H) (hk : H[k]? = some (b, t', cs))
    (hfit : o < cs.length) (h1 : v.oneCell' = true)
    (h : ∀ w', St w0 w' (H.set k (b, t', cs.set o v)) → K2 undef w') : Hup1 P N ρ w ⟨d, .store t x y, ty, pos, aft, g⟩ K2 := by
  have hv : v.cells.toList = [v] := by cases v <;> first | rfl | cases h1
  refine s_sta hx hy ht hS hk hv rfl (by omega) (by simp [h1]) (fun w' hS' => ?_)
  rw [splice_one cs o v hfit] at hS'
  exact h w' hS'
theorem s_alloc {n : Nat} {agg : Bool} {zz : List Value} (ht : vinfo P t = some (n, agg, zz)) (hS : St w0 w H)
    (h : ∀ b w', St w0 w' ((b, t, zz) :: H) → Below w.heap.size w w' → K2 (.pointer (some ⟨b, 0, none⟩)) w') : Hup1 P N ρ w ⟨d, .alloc t, ty, pos, aft, g⟩ K2 := by
  obtain ⟨i, dd, zv, hi, hu, hz, hs, _, hc⟩ := vinfo_parts ht
  refine hup_of_run ?_ (h w.heap.size _ (hS.alloc zz t) (below_alloc w _))
  simp [execOp, Instr.alloc, zeroValue, typeInfo, hi, hz, newVar, newRow, hc]
theorem s_box {new : List Value} (hx : ev N ρ x = v) (hv : v.cells.toList = new) (hS : St w0 w H)
    (h : ∀ b w', St w0 w' ((b, t, new) :: H) → Below w.heap.size w w' → K2 (.pointer (some ⟨b, 0, none⟩)) w') : Hup1 P N ρ w ⟨d, .box t x, ty, pos, aft, g⟩ K2 := by
  subst hv
  refine hup_of_run ?_ (h w.heap.size _ (hS.alloc v.cells.toList t) (below_alloc w _))
  simp [execOp, hx, Instr.box, newVar, newRow]
theorem s_make {sz by_ n : Nat} {zz : List Value} {kl kc : IntKind} {ml mc : Int} (hx : ev N ρ x = .int kl ml) (hy : ev N ρ y = .int kc mc) (ht : sinfo P t = some (e, sz, by_, zz)) (hml : ml = (n : Int)) (hmc : mc = (n : Int))
    (h1 : by_ * n ≤ 281474976710656) (h2 : n ≤ 9223372036854775807) (hS : St w0 w H)
    (h : ∀ b w', St w0 w' ((b, e, rep n zz) :: H) → Below w.heap.size w w' → K2 (.slice (some ⟨b, 0, none⟩) n n) w') :
    Hup1 P N ρ w ⟨d, .makeSlice t x y, ty, pos, aft, g⟩ K2 := by
  obtain ⟨hu, ii, zv, hi1, hz, hsz, hby, hc, hzl⟩ := sinfo_parts ht
  subst hml hmc
  have hr := run_make (P := P) w t e ii zv hu hi1 hz kl kc (n : Int) (n : Int) (by omega) (Int.le_refl _) (by rw [hby, ← Int.natCast_mul]; omega) (by omega)
  simp only [Int.toNat_natCast] at hr
  rw [hc, hsz, ← hzl, made_rep] at hr
  refine hup_of_run ?_ (h w.heap.size _ (hS.alloc (rep n zz) e) (below_alloc w _))
  simp [execOp, hx, hy, hr]
/-- make with a length of 0 and room. -/
theorem s_make0 {sz by_ n : Nat} {zz : List Value} {kl kc : IntKind} {ml mc : Int} (hx : ev N ρ x = .int kl ml) (hy : ev N ρ y = .int kc mc) (ht : sinfo P t = some (e, sz, by_, zz)) (hml : ml = 0) (hmc : mc = (n : Int))
    (h1 : by_ * n ≤ 281474976710656) (h2 : n ≤ 9223372036854775807) (hS : St w0 w H)
    (h : ∀ b w', St w0 w' ((b, e, rep n zz) :: H) → Below w.heap.size w w' → K2 (.slice (some ⟨b, 0, none⟩) 0 n) w') :
    Hup1 P N ρ w ⟨d, .makeSlice t x y, ty, pos, aft, g⟩ K2 := by
  obtain ⟨hu, ii, zv, hi1, hz, hsz, hby, hc, hzl⟩ := sinfo_parts ht
  subst hml hmc
  have hr := run_make (P := P) w t e ii zv hu hi1 hz kl kc 0 (n : Int) (Int.le_refl _) (by omega) (by rw [hby, ← Int.natCast_mul]; omega) (by omega)
  simp only [Int.toNat_natCast, Int.toNat_zero] at hr
  rw [hc, hsz, ← hzl, made_rep] at hr
  refine hup_of_run ?_ (h w.heap.size _ (hS.alloc (rep n zz) e) (below_alloc w _))
  simp [execOp, hx, hy, hr]
theorem s_build {parts : List (Nat × Operand)} {pv : List (Nat × Value)} {cells : List Value} (hp : (parts.map fun p => (p.1, ev N ρ p.2)) = pv) (hb : P.built t pv = some cells.toArray)
    (h : K (.agg cells.toArray)) : Pure1 P N ρ ⟨d, .build t parts.toArray, ty, pos, aft, g⟩ K := by
  subst hp
  refine ⟨_, fun w => ?_, h⟩
  have hr := run_build (P := P) w t (parts.toArray.map fun (i, x) => (i, ev N ρ x)) cells.toArray (by simpa using hb)
  simp only [execOp, Sem.run_bind, hr, Result.andThen_ok]
  rfl
theorem s_bsl {len sz by_ : Nat} {zz : List Value} {parts : List (Nat × Operand)} {vs : List Value} {cells : List Value} (hp : (parts.map fun p => (p.1, ev N ρ p.2)) = (vs.zipIdx 0).map fun x => (x.2, x.1))
    (ht : sinfo P t = some (e, sz, by_, zz)) (hlen : vs.length = len) (h0 : 0 < len) (hsz0 : 0 < sz) (hsm : len * sz ≤ 16777216) (hvs : ∀ v ∈ vs, v.cells.size = sz) (hc : (vs.flatMap fun v => v.cells.toList) = cells) (hS : St w0 w H)
    (h : ∀ b w', St w0 w' ((b, e, cells) :: H) → Below w.heap.size w w' → K2 (.slice (some ⟨b, 0, none⟩) len len) w') :
    Hup1 P N ρ w ⟨d, .buildSlice t len parts.toArray, ty, pos, aft, g⟩ K2 := by
  obtain ⟨hu, ii, zv, hi1, hz, hsz, hby, hcz, hzl⟩ := sinfo_parts ht
  subst hc hsz
  have hpos : 0 < len * ii.size := Nat.mul_pos h0 hsz0
  have hr := run_buildSlice (P := P) w t e len (parts.toArray.map fun (i, x) => (i, ev N ρ x)) (vs.flatMap fun v => v.cells.toList).toArray ii zv hu hi1 hz (by omega) (by omega)
    (by have h1 : (parts.toArray.map fun (i, x) => (i, ev N ρ x)).toList = (vs.zipIdx 0).map fun x => (x.2, x.1) := by simpa using hp
        rw [h1]; exact Go.Great.fill_whole hsz0 vs _ hvs (by simp [hlen]))
  refine hup_of_run ?_ (h w.heap.size _ (hS.alloc _ e) (below_alloc w _))
  simp only [execOp, Sem.run_bind, hr, Result.andThen_ok]
  rfl
/-- A slice that is grown by append: nil, or at the head of a block of one's own (L: no block, or that block). -/
def Gs (e : TypeId) (size : Nat) (v : Value) (n : Nat) (X : List Value) (L : List Blk) : Prop :=
  X.length = n * size ∧ ((v = .slice none 0 0 ∧ n = 0 ∧ L = []) ∨ ∃ b cap spare, v = .slice (some ⟨b, 0, none⟩) n cap ∧ L = [(b, e, X ++ spare)] ∧ n ≤ cap ∧ cap ≤ Go.maxLen ∧ (X ++ spare).length = cap * size)
theorem Gs.nil (e : TypeId) (size : Nat) : Gs e size (.slice none 0 0) 0 [] [] := ⟨by simp, .inl ⟨rfl, rfl, rfl⟩⟩
theorem Gs.own {e : TypeId} {size n : Nat} {v : Value} {X : List Value} {L : List Blk} (hG : Gs e size v n X L) (hS : St w0 w (L ++ H)) : w.ownsRow w0.heap.size e size v n X ∧ ∀ b, v.ownBlock = some b → ∀ e' ∈ H, e'.1 ≠ b := by
  obtain ⟨hX, ⟨rfl, rfl, rfl⟩ | ⟨b, cap, spare, rfl, rfl, h1, h2, h3⟩⟩ := hG
  · have : X = [] := List.eq_nil_of_length_eq_zero (by simpa using hX)
    subst this
    exact ⟨World.ownsRow_nil _ _ _ _, fun b hb => by cases hb⟩
  · refine ⟨⟨hX, .inr ⟨b, cap, (X ++ spare).toArray, rfl, (hS.own (b, e, X ++ spare) (by simp)).1, (hS.own (b, e, X ++ spare) (by simp)).2, h1, h2, by simpa using h3, by simp [← hX]⟩⟩, fun b' hb' e' he' heq => ?_⟩
    have hnd := hS.nd
    simp only [List.cons_append, List.nil_append, List.map_cons, List.nodup_cons] at hnd
    simp only [Value.ownBlock, Option.some.injEq] at hb'
    subst hb'
    exact hnd.1 (List.mem_map.2 ⟨e', he', heq⟩)
theorem s_app {size bytes n m c : Nat} {zz : List Value} {X news : List Value} {L : List Blk} {xv : Value} {ad : Addr} (hx : ev N ρ x = v) (hy : ev N ρ y = xv) (ht : sinfo P t = some (e, size, bytes, zz)) (hsz : 0 < size)
    (hG : Gs e size v n X L) (hS : St w0 w (L ++ H)) (hxv : xv = .slice (some ad) m c) (hl : news.length = m * size) (hnews : At w ad news) (h1 : ∀ u ∈ news, u.oneCell' = true)
    (h63 : n + m ≤ 9223372036854775807) (hb : (n + m) * bytes ≤ 140737488355328)
    (h : ∀ v' L' w', Gs e size v' (n + m) (X ++ news) L' → St w0 w' (L' ++ H) → (∀ i, i < w.heap.size → v.ownBlock ≠ some i → w'.heap[i]? = w.heap[i]?) → w.heap.size ≤ w'.heap.size →
      K2 v' w') :
    Hup1 P N ρ w ⟨d, .call ⟨.builtin .append, #[x, y], #[t, t]⟩, ty, pos, aft, g⟩ K2 := by
  obtain ⟨hu, ii, zv, hi1, hz, hsize, hby, hcz, hzl⟩ := sinfo_parts ht
  obtain ⟨hown, hdis⟩ := hG.own hS
  obtain ⟨v', w1, hr, hown', hgrow, _, hlies⟩ := run_append_own_at (P := P) w w0.heap.size t ty e ii zv size bytes hu hi1 hz hsize hby (by rw [hcz]; simpa using hzl) hsz v n X hown ad m c news hl hnews h1 (by unfold Go.maxLen; omega) hb hS.below.size
  subst hxv
  have hback : ∃ L', Gs e size v' (n + m) (X ++ news) L' ∧ St w0 w1 (L' ++ H) := by
    have hfar : ∀ e' ∈ H, w1.heap[e'.1]? = w.heap[e'.1]? := fun e' he' => hgrow.block _ (hS.lt (by simp [he'])) (fun heq => hdis e'.1 (by rw [← heq]) e' he' rfl)
    have hbel : Below w0.heap.size w0 w1 := hS.below.grown hgrow hS.below.size (fun k hk => (hown.lt k hk).1)
    have hndH : (H.map (·.1)).Nodup := by
      have := hS.nd
      rw [List.map_append] at this
      exact (List.nodup_append.1 this).2.1
    obtain ⟨hXl, ⟨rfl, h0⟩ | ⟨gb, cap, cur, rfl, hgb, hh, hnc, hcm, hcs, htake⟩⟩ := hown'
    · refine ⟨[], ⟨hXl, .inl ⟨rfl, h0, rfl⟩⟩, ⟨hbel, fun e' he' => ⟨(hS.own e' (by simp at he'; simp [he'])).1, ?_⟩, by simpa using hndH⟩⟩
      simp only [List.nil_append] at he'
      rw [hfar e' he']
      exact (hS.own e' (by simp [he'])).2
    · have hsplit : cur.toList = (X ++ news) ++ cur.toList.drop ((n + m) * size) := by
        rw [← htake, List.take_append_drop]
      have hcell : w1.heap[gb]? = some (.cells ((X ++ news) ++ cur.toList.drop ((n + m) * size)).toArray e (0, 0)) := by
        rw [← hsplit, hh, Array.toArray_toList]
      refine ⟨[(gb, e, (X ++ news) ++ cur.toList.drop ((n + m) * size))], ⟨hXl, .inr ⟨gb, cap, _, rfl, rfl, hnc, hcm, by rw [← hsplit]; simpa using hcs⟩⟩, ⟨hbel, fun e' he' => ?_, ?_⟩⟩
      · simp only [List.cons_append, List.nil_append, List.mem_cons] at he'
        rcases he' with rfl | he'
        · exact ⟨hgb, hcell⟩
        · refine ⟨(hS.own e' (by simp [he'])).1, ?_⟩
          rw [hfar e' he']
          exact (hS.own e' (by simp [he'])).2
      · simp only [List.cons_append, List.nil_append, List.map_cons, List.nodup_cons]
        refine ⟨fun hm => ?_, hndH⟩
        obtain ⟨e', he', hee⟩ := List.mem_map.1 hm
        rcases hlies with hob | hob
        · exact hdis gb hob.symm e' he' hee
        · have := hS.lt (e := e') (by simp [he'])
          have hgs : gb = w.heap.size := by simpa [Value.ownBlock] using hob
          have hee' : e'.1 = gb := hee
          omega
  obtain ⟨L', hG', hS'⟩ := hback
  refine hup_of_run ?_ (h v' L' w1 hG' hS' (fun i hi hne => hgrow.block i hi (fun heq => hne heq.symm)) hgrow.size)
  simp [execOp, resolve, invoke, builtin, hx, hy, hr]
end
end Go.Sx
namespace Go.Sx
open Go Go.RowKit
theorem wrapm_u32 (n : Int) : IntKind.u32.wrap n = n % 4294967296 := IntKind.wrap_u32 n
theorem wrapm_u64 (n : Int) : IntKind.u64.wrap n = n % 18446744073709551616 := by simp [IntKind.wrap, IntKind.bits, IntKind.signed]
theorem wrapm_u8 (n : Int) : IntKind.u8.wrap n = n % 256 := IntKind.wrap_u8 n
theorem wrapm_u16 (n : Int) : IntKind.u16.wrap n = n % 65536 := by simp [IntKind.wrap, IntKind.bits, IntKind.signed]
/-- A shift to the right by a constant. -/
theorem shr_n {k : IntKind} (m : Int) (c : Nat) (hc : c ≤ k.bits) : m.fdiv (2 ^ (min ((c : Int)).toNat k.bits)) = m / 2 ^ c := by
  rw [Int.toNat_natCast, Nat.min_eq_left hc]
  exact Int.fdiv_eq_ediv_of_nonneg _ (Int.le_of_lt (Int.pow_pos (by decide)))
/-- 'or' of two numbers of an unsigned kind, as numbers. -/
theorem or_nat {k : IntKind} (hk : k.signed = false) (m n : Nat) (hm : m < 2 ^ k.bits) (hn : n < 2 ^ k.bits) : bitres .or k m n = ((m ||| n : Nat) : Int) := by
  have hlt : m ||| n < 2 ^ k.bits := Nat.or_lt_two_pow hm hn
  have h : ((m ||| n : Nat) : Int) % 2 ^ k.bits = ((m ||| n : Nat) : Int) := Int.emod_eq_of_lt (by omega) (by exact_mod_cast hlt)
  simp only [bitres, BitVec.ofInt_natCast, BitVec.toNat_or, BitVec.toNat_ofNat, Nat.mod_eq_of_lt hm, Nat.mod_eq_of_lt hn, IntKind.wrap, hk, Bool.false_and, h]
  simp
theorem and_nat {k : IntKind} (hk : k.signed = false) (m n : Nat) (hm : m < 2 ^ k.bits) (hn : n < 2 ^ k.bits) : bitres .and k m n = ((m &&& n : Nat) : Int) := by
  have hlt : m &&& n < 2 ^ k.bits := Nat.lt_of_le_of_lt Nat.and_le_left hm
  have h : ((m &&& n : Nat) : Int) % 2 ^ k.bits = ((m &&& n : Nat) : Int) := Int.emod_eq_of_lt (by omega) (by exact_mod_cast hlt)
  simp only [bitres, BitVec.ofInt_natCast, BitVec.toNat_and, BitVec.toNat_ofNat, Nat.mod_eq_of_lt hm, Nat.mod_eq_of_lt hn, IntKind.wrap, hk, Bool.false_and, h]
  simp
def Kr (k : IntKind) (L : List Nat) : List Value := L.map fun x : Nat => Value.int k (x : Int)
def uk (k : IntKind) (x : Nat) : List Value := [Value.int k (x : Int)]
theorem Kr_flat (k : IntKind) (L : List Nat) : Kr k L = L.flatMap (uk k) := by
  induction L with
  | nil => rfl
  | cons x L ih => rw [List.flatMap_cons, ← ih]; rfl
theorem Kr_len (k : IntKind) (L : List Nat) : (Kr k L).length = L.length := by simp [Kr]
theorem Kr_get (k : IntKind) (L : List Nat) {i : Nat} (h : i < L.length) : (Kr k L)[i]? = some (.int k (L.getD i 0 : Nat)) := by simp [Kr, List.getD, h]
theorem Kr_set (k : IntKind) (L : List Nat) (i x : Nat) : (Kr k L).set i (.int k (x : Int)) = Kr k (L.set i x) := by simp [Kr, List.map_set]
theorem Kr_rep (k : IntKind) (n : Nat) : rep n [.int k 0] = Kr k (List.replicate n 0) := by
  induction n with
  | zero => rfl
  | succ n ih => rw [rep_succ, ih]; rfl
theorem Kr_append (k : IntKind) (L M : List Nat) : Kr k L ++ Kr k M = Kr k (L ++ M) := by simp [Kr]
def slsub (v : Value) (size lo hi : Nat) : Value :=
  match v with
  | .slice a _ c => .slice (if c = lo then a else a.map (·.add (lo * size))) (hi - lo) (c - lo)
  | v => v
theorem sbase_sub {w : World} {α : Type} {enc : α → List Value} {size : Nat} {v : Value} {L : List α} (h : Sl enc size w v L) {lo hi : Nat} (hlt : lo < L.length) : sbase (slsub v size lo hi) = (sbase v).add (lo * size) := by
  obtain ⟨a, cap, rfl, h1, _, hn⟩ := h.form
  cases a with
  | none => have := hn rfl; omega
  | some a => simp [slsub, sbase, show ¬ cap = lo by omega]
theorem addr_add_add (a : Addr) (m n : Nat) (h : a.spot = none) : (a.add m).add n = a.add (m + n) := by
  obtain ⟨b, o, s⟩ := a
  subst h
  rw [add_lit, add_lit, add_lit, Nat.add_assoc]
theorem Sl.spot {w : World} {α : Type} {enc : α → List Value} {size : Nat} {v : Value} {L : List α} (h : Sl enc size w v L) (hu : ∀ x, (enc x).length = size) (hs : 0 < size) (hl : 0 < L.length) : (sbase v).spot = none := by
  have h0 := h.elt 0 hl
  rw [Nat.zero_mul, add_zero] at h0
  have hpos : 0 < (enc L[0]).length := by rw [hu]; exact hs
  have := h0 0 _ (List.getElem?_eq_getElem hpos)
  rw [add_zero] at this
  exact World.cell?_spot this
theorem Sl.sub {w : World} {α : Type} {enc : α → List Value} {size : Nat} {v : Value} {L : List α} (h : Sl enc size w v L) (hu : ∀ x, (enc x).length = size) (hs : 0 < size) {lo hi : Nat} (h1 : lo ≤ hi) (h2 : hi ≤ L.length) :
    Sl enc size w (slsub v size lo hi) ((L.drop lo).take (hi - lo)) := by
  have hlen : ((L.drop lo).take (hi - lo)).length = hi - lo := by simp; omega
  refine ⟨?_, fun i hi' j u hj => ?_⟩
  · obtain ⟨a, cap, rfl, g1, g2, g3⟩ := h.form
    refine ⟨_, _, by rw [hlen]; rfl, by rw [hlen]; omega, by omega, fun hn => ?_⟩
    split at hn
    · omega
    · cases a with
      | none => have := g3 rfl; omega
      | some a => simp at hn
  · rw [hlen] at hi'
    have hlt : lo < L.length := by omega
    rw [sbase_sub h hlt, addr_add_add _ _ _ (h.spot hu hs (by omega)), ← Nat.add_mul]
    refine h.elt (lo + i) (by omega) j u ?_
    rw [← hj]
    simp
section
variable {w0 w : World} {H : List Blk} {b k : Nat} {t : TypeId} {kk : IntKind} {L : List Nat}
theorem uk_len (k : IntKind) : ∀ x, (uk k x).length = 1 := fun _ => rfl
/-- A row of one's own, read from its head on. -/
theorem St.slk (h : St w0 w H) (hk : H[k]? = some (b, t, Kr kk L)) {n cap : Nat} (hn : n ≤ L.length) (h1 : n ≤ cap) (h2 : cap ≤ 9223372036854775807) : Sl (uk kk) 1 w (.slice (some ⟨b, 0, none⟩) n cap) (L.take n) := by
  have hl : (L.take n).length = n := by simp; omega
  have := h.sl (enc := uk kk) (size := 1) (L := L.take n) (spare := Kr kk (L.drop n)) (cap := cap) hk (by rw [← Kr_flat, Kr_append, List.take_append_drop]) (uk_len kk) (by rw [hl]; exact h1) (by unfold Go.maxLen; omega)
  rwa [hl] at this
end
section
variable {P : Program} {N : Nat} {ρ : Nat → Value} {w0 w w' : World} {Q : Exit → Act → World → Prop} {ops : Array Oper} {rest : List Oper}
  {d : Option Tmp} {ty : TypeId} {pos : String} {aft : Array Edge} {g : Option (Nat × Bool)} {x y z : Operand} {t e : TypeId} {H : List Blk} {k b o : Nat} {cs : List Value} {v : Value} {K : Value → Prop} {K2 : Value → World → Prop} {kk : IntKind} {L : List Nat}
theorem s_ldk {i : Nat} {zz : List Value} {t' : TypeId} (hx : ev N ρ x = .pointer (some ⟨b, o, none⟩)) (ht : vinfo P t = some (1, false, zz)) (hS : St w0 w H) (hk : H[k]? = some (b, t', Kr kk L)) (ho : o = i) (hi : i < L.length)
    (h : K (.int kk (L.getD i 0 : Nat))) : Read1 P N ρ w ⟨d, .load t x, ty, pos, aft, g⟩ K := by
  subst ho
  exact s_ldc hx ht hS hk (Kr_get kk L hi) h
theorem s_stk {i a : Nat} {m : Int} {zz : List Value} {t' : TypeId} (hx : ev N ρ x = .pointer (some ⟨b, o, none⟩)) (hy : ev N ρ y = .int kk m) (hm : m = (a : Int)) (ht : vinfo P t = some (1, false, zz)) (hS : St w0 w H) (hk : H[k]? = some (b, t', Kr kk L)) (ho : o = i) (hi : i < L.length)
    (h : ∀ w', St w0 w' (H.set k (b, t', Kr kk (L.set i a))) → K2 undef w') : Hup1 P N ρ w ⟨d, .store t x y, ty, pos, aft, g⟩ K2 := by
  subst ho hm
  refine s_stc hx hy ht hS hk (by rw [Kr_len]; exact hi) rfl (fun w' hS' => ?_)
  rw [Kr_set] at hS'
  exact h w' hS'
theorem s_makek {by_ n : Nat} {kl kc : IntKind} {ml mc : Int} (hx : ev N ρ x = .int kl ml) (hy : ev N ρ y = .int kc mc) (ht : sinfo P t = some (e, 1, by_, [.int kk 0])) (hml : ml = (n : Int)) (hmc : mc = (n : Int))
    (h1 : by_ * n ≤ 281474976710656) (h2 : n ≤ 9223372036854775807) (hS : St w0 w H)
    (h : ∀ b w', St w0 w' ((b, e, Kr kk (List.replicate n 0)) :: H) → Below w.heap.size w w' → K2 (.slice (some ⟨b, 0, none⟩) n n) w') :
    Hup1 P N ρ w ⟨d, .makeSlice t x y, ty, pos, aft, g⟩ K2 := by
  refine s_make hx hy ht hml hmc h1 h2 hS (fun b w' hS' hB => ?_)
  rw [Kr_rep] at hS'
  exact h b w' hS' hB
theorem s_subrh {α : Type} {enc : α → List Value} {size by_ : Nat} {zz : List Value} {L : List α} {hi : Nat} {kh : IntKind} {mh : Int} (hx : ev N ρ x = v) (hh : ev N ρ z = .int kh mh) (hS : Sl enc size w v L)
    (hmh : mh = (hi : Int)) (h2 : hi ≤ L.length) (ht : sinfo P t = some (e, size, by_, zz)) (h : K (slsub v size 0 hi)) : Pure1 P N ρ ⟨d, .slice t x none (some z) none, ty, pos, aft, g⟩ K := by
  obtain ⟨hu, ii, zv, hi1, _, hsz, _⟩ := sinfo_parts ht
  obtain ⟨a, cap, rfl, g1, _⟩ := hS.form
  subst hmh hsz
  refine ⟨_, fun w => ?_, h⟩
  have a2 : hi ≤ cap := by omega
  simp [execOp, hx, hh, Instr.sliceAt, Instr.slice, Instr.sliceBounds, Instr.sliceBound, asIntOf, run_underlying hu, sizeOf, typeInfo, hi1, a2, slsub]
/-- Of a slice that is written out: from its head on. -/
theorem s_suboh {size by_ n cap : Nat} {zz : List Value} {hi : Nat} {kh : IntKind} {mh : Int} (hx : ev N ρ x = .slice (some ⟨b, o, none⟩) n cap) (hh : ev N ρ z = .int kh mh)
    (hmh : mh = (hi : Int)) (h2 : hi ≤ cap) (ht : sinfo P t = some (e, size, by_, zz)) (h : K (.slice (some ⟨b, o, none⟩) hi cap)) : Pure1 P N ρ ⟨d, .slice t x none (some z) none, ty, pos, aft, g⟩ K := by
  obtain ⟨hu, ii, zv, hi1, _, hsz, _⟩ := sinfo_parts ht
  subst hmh hsz
  refine ⟨_, fun w => ?_, h⟩
  have : (if cap = 0 then some (⟨b, o, none⟩ : Addr) else some ((⟨b, o, none⟩ : Addr).add 0)) = some ⟨b, o, none⟩ := by rw [add_zero]; split <;> rfl
  simp [execOp, hx, hh, Instr.sliceAt, Instr.slice, Instr.sliceBounds, Instr.sliceBound, asIntOf, run_underlying hu, sizeOf, typeInfo, hi1, h2, add_zero]
/-- From a place within on. -/
theorem s_subo {size by_ n cap : Nat} {zz : List Value} {lo hi : Nat} {kl kh : IntKind} {ml mh : Int} (hx : ev N ρ x = .slice (some ⟨b, o, none⟩) n cap) (hl : ev N ρ y = .int kl ml) (hh : ev N ρ z = .int kh mh)
    (hml : ml = (lo : Int)) (hmh : mh = (hi : Int)) (h1 : lo ≤ hi) (h2 : hi ≤ cap) (h3 : lo < cap) (ht : sinfo P t = some (e, size, by_, zz)) (h : K (.slice (some ⟨b, o + lo * size, none⟩) (hi - lo) (cap - lo))) :
    Pure1 P N ρ ⟨d, .slice t x (some y) (some z) none, ty, pos, aft, g⟩ K := by
  obtain ⟨hu, ii, zv, hi1, _, hsz, _⟩ := sinfo_parts ht
  subst hml hmh hsz
  refine ⟨_, fun w => ?_, h⟩
  simp [execOp, hx, hl, hh, Instr.sliceAt, Instr.slice, Instr.sliceBounds, Instr.sliceBound, asIntOf, run_underlying hu, sizeOf, typeInfo, hi1, h1, h2, show ¬ cap = lo by omega, add_lit]
def bstr (L : List Nat) : ByteArray := ⟨(L.map UInt8.ofNat).toArray⟩
theorem foldl_push (L : List Nat) : ∀ s : ByteArray, (L.map fun x : Nat => (x : Int)).foldl (fun r n => r.push (UInt8.ofNat n.toNat)) s = ⟨s.data ++ (L.map UInt8.ofNat).toArray⟩ := by
  induction L with
  | nil => intro s; cases s; simp
  | cons a L ih =>
    intro s
    simp only [List.map_cons, List.foldl_cons]
    rw [ih]
    cases s
    simp [ByteArray.push]
theorem s_b2s {el : TypeId} {cap n : Nat} {a : Addr} {L : List Nat} (hx : ev N ρ x = .slice (some a) n cap) (ht : P.underlying t = some (.slice el) ∧ P.underlying el = some (.int .u8) ∧ P.underlying e = some .string) (hn : L.length = n) (ha : At w a (Kr .u8 L))
    (h : K (.string (bstr L))) : Read1 P N ρ w ⟨d, .convert t e x, ty, pos, aft, g⟩ K := by
  refine ⟨_, fun w' hb => ?_, h⟩
  have ha' := ha.below hb
  have hl := run_loadCells_list (P := P) w' a (Kr .u8 L) ha'
  rw [Kr_len, hn] at hl
  have hl2 : (loadCells a n).run P w' = .ok ((L.map fun x : Nat => (x : Int)).map (Value.int .u8)).toArray w' := by rw [hl]; simp [Kr]
  have := run_bytesToString (P := P) w' a n cap (L.map fun x : Nat => (x : Int)) hl2
  rw [foldl_push] at this
  simp [execOp, hx, run_convert_bytes_string w' t e el (some a) n cap ht.1 ht.2.1 ht.2.2, this, bstr]
end
end Go.Sx
namespace Go.Sx
open Go Go.RowKit
inductive Md where
  | pure | read | grow | free
  deriving DecidableEq
section
variable {P : Program} {ops : Array Oper}
/-- Does operation i wait for operation h, by edges that bind? -/
def tdep (ops : Array Oper) : Nat → Nat → Nat → Bool
  | 0, _, _ => false
  | n + 1, i, h => match ops[i]? with
    | some o => o.after.any fun e => Region.binds .any e && (Nat.beq e.on h || tdep ops n e.on h)
    | none => false
def closed (ops : Array Oper) (listed : Array Bool) : Prop := ∀ i o, ops[i]? = some o → listed.getD i true = true → ∀ e ∈ o.after, Region.binds .any e = true → listed.getD e.on false = true
theorem tdep_listed {listed : Array Bool} (hc : closed ops listed) : ∀ n i h, (∀ o, ops[i]? = some o → ∀ e ∈ o.after, Region.binds .any e = true → listed.getD e.on false = true) → tdep ops n i h = true → listed.getD h false = true := by
  intro n
  induction n with
  | zero => intro i h _ ht; cases ht
  | succ n ih =>
    intro i h hall ht
    unfold tdep at ht
    cases ho : ops[i]? with
    | none => rw [ho] at ht; cases ht
    | some o =>
      rw [ho] at ht
      simp only [Array.any_eq_true', Bool.and_eq_true, Bool.or_eq_true] at ht
      obtain ⟨e, he, hb, h1 | h1⟩ := ht
      · have := hall o ho e he hb
        rwa [Nat.eq_of_beq_eq_true h1] at this
      · have hl := hall o ho e he hb
        refine ih e.on h (fun o' ho' e' he' hb' => hc e.on o' ho' ?_ e' he' hb') h1
        have hlt : e.on < listed.size := by
          rcases Nat.lt_or_ge e.on listed.size with h2 | h2
          · exact h2
          · simp [Array.getD, Nat.not_lt.2 h2] at hl
        simp only [Array.getD, hlt, dite_true] at hl ⊢
        exact hl
/-- What is asked of one operation when its turn comes in the order that is walked. -/
def rstep (P : Program) (ops : Array Oper) (m : Md) (o : Oper) (a : Act) (w : World) (K : Act → World → Prop) : Prop :=
  if Region.wanted o (yielded ops a.tmps) then
    match m with
    | .pure => ∃ v, (∀ w', (execOp a.eval o).run P w' = .ok (.value v) w') ∧ K (a.put o.dst v) w
    | .read => ∃ v, (∀ w', Below w.heap.size w w' → (execOp a.eval o).run P w' = .ok (.value v) w') ∧ K (a.put o.dst v) w
    | .grow => hup P (fun v w' => Below w.heap.size w w' ∧ K (a.put o.dst v) w') ((execOp a.eval o).run P w)
    | .free => hup P (fun v w' => K (a.put o.dst v) w') ((execOp a.eval o).run P w)
  else K (a.put o.dst undef) w
def wr (P : Program) (ops : Array Oper) (Kend : Act → World → Prop) : List (Nat × Md) → Act → World → Prop
  | [], a, w => Kend a w
  | (i, m) :: σ, a, w => match ops[i]? with
    | some o => rstep P ops m o a w (wr P ops Kend σ)
    | none => False
theorem rstep_mono {m : Md} {o : Oper} {a : Act} {w : World} {K K' : Act → World → Prop} (hk : ∀ a w, K a w → K' a w) (h : rstep P ops m o a w K) : rstep P ops m o a w K' := by
  unfold rstep at *
  split
  · rename_i hw
    simp only [hw, if_true] at h
    cases m with
    | pure => obtain ⟨v, h1, h2⟩ := h; exact ⟨v, h1, hk _ _ h2⟩
    | read => obtain ⟨v, h1, h2⟩ := h; exact ⟨v, h1, hk _ _ h2⟩
    | grow => exact hup_mono (fun v w h => ⟨h.1, hk _ _ h.2⟩) h
    | free => exact hup_mono (fun v w h => hk _ _ h) h
  · rename_i hw
    simp only [hw] at h
    exact hk _ _ h
/-- An operation that is walked is an operation that is run. -/
theorem wpOp_of_rstep {Q : Exit → Act → World → Prop} {i : Nat} {m : Md} {o : Oper} {a : Act} {w : World} {K : Act → World → Prop} (hi : ops[i]? = some o) (h : rstep P ops m o a w K) : wpOp P ops Q i K a w := by
  unfold rstep at h
  unfold wpOp
  simp only [hi]
  split
  · rename_i hw
    simp only [hw, if_true] at h
    refine .inl ?_
    unfold Oper.wp
    have hv : ∀ {K' : Value → World → Prop}, (∀ v w', K' v w' → K (a.put o.dst v) w') → hup P K' ((execOp a.eval o).run P w) → o.upon P a K Q ((execOp a.eval o).run P w) := by
      intro K' hk' hh
      generalize (execOp a.eval o).run P w = r at hh
      cases r with
      | halt x w' => exact hh.elim
      | ok n w' =>
        cases n with
        | value v => rw [Oper.upon_value]; exact hk' _ _ hh
        | skip => rw [Oper.upon_skip]; exact hk' _ _ hh
        | enter f args =>
          rw [Oper.upon_enter]
          refine Calls.mono hh ?_
          rintro e w1 ⟨v, rfl, hR⟩
          exact hk' _ _ hR
        | _ => exact hh.elim
    cases m with
    | pure => obtain ⟨v, h1, h2⟩ := h; rw [h1 w, Oper.upon_value]; exact h2
    | read => obtain ⟨v, h1, h2⟩ := h; rw [h1 w (Below.refl _ _), Oper.upon_value]; exact h2
    | grow => exact hv (fun v w' hh => hh.2) h
    | free => exact hv (fun v w' hh => hh) h
  · rename_i hw
    simp only [hw] at h
    exact h
theorem rstep_off {m : Md} {o : Oper} {a : Act} {w : World} {K : Act → World → Prop} (hw : ¬ Region.wanted o (yielded ops a.tmps) = true) : rstep P ops m o a w K = K (a.put o.dst undef) w := by unfold rstep; rw [if_neg hw]
theorem rstep_pure {o : Oper} {a : Act} {w : World} {K : Act → World → Prop} (hw : Region.wanted o (yielded ops a.tmps) = true) :
    rstep P ops .pure o a w K = ∃ v, (∀ w', (execOp a.eval o).run P w' = .ok (.value v) w') ∧ K (a.put o.dst v) w := by unfold rstep; rw [if_pos hw]
theorem rstep_read {o : Oper} {a : Act} {w : World} {K : Act → World → Prop} (hw : Region.wanted o (yielded ops a.tmps) = true) :
    rstep P ops .read o a w K = ∃ v, (∀ w', Below w.heap.size w w' → (execOp a.eval o).run P w' = .ok (.value v) w') ∧ K (a.put o.dst v) w := by unfold rstep; rw [if_pos hw]
theorem rstep_grow {o : Oper} {a : Act} {w : World} {K : Act → World → Prop} (hw : Region.wanted o (yielded ops a.tmps) = true) :
    rstep P ops .grow o a w K = hup P (fun v w' => Below w.heap.size w w' ∧ K (a.put o.dst v) w') ((execOp a.eval o).run P w) := by unfold rstep; rw [if_pos hw]
theorem rstep_free {o : Oper} {a : Act} {w : World} {K : Act → World → Prop} (hw : Region.wanted o (yielded ops a.tmps) = true) :
    rstep P ops .free o a w K = hup P (fun v w' => K (a.put o.dst v) w') ((execOp a.eval o).run P w) := by unfold rstep; rw [if_pos hw]
/-- May operation j, that stands behind operation i in the walked order, be carried out ahead of it? If so: apart, and of fitting kinds. -/
def swapOk (ops : Array Oper) (i : Nat × Md) (j : Nat × Md) : Bool :=
  match ops[i.1]?, ops[j.1]? with
  | some oi, some oj => Oper.apart ops oi oj && (match i.2, j.2 with
    | .pure, _ => true
    | _, .pure => true
    | .read, .read => true
    | .read, .grow => true
    | _, _ => false)
  | _, _ => false
def pairsOk (ops : Array Oper) (n : Nat) : List (Nat × Md) → Bool
  | [] => true
  | i :: σ => (σ.all fun j => !Nat.beq i.1 j.1 && (tdep ops n j.1 i.1 || swapOk ops i j)) && pairsOk ops n σ
theorem pairsOk_erase {n : Nat} {x : Nat × Md} : ∀ {σ τ : List (Nat × Md)}, pairsOk ops n (σ ++ x :: τ) = true → pairsOk ops n (σ ++ τ) = true
  | [], τ, h => by simp only [List.nil_append, pairsOk, Bool.and_eq_true] at h ⊢; exact h.2
  | y :: σ, τ, h => by
    simp only [List.cons_append, pairsOk, Bool.and_eq_true, List.all_append, List.all_cons] at h ⊢
    exact ⟨⟨h.1.1, h.1.2.2⟩, pairsOk_erase h.2⟩
theorem hup_some {K : Value → World → Prop} {r : Result Next} (h : hup P K r) : ∃ v w, K v w := by
  cases r with
  | halt x w' => exact h.elim
  | ok n w' =>
    cases n with
    | value v => exact ⟨v, w', h⟩
    | skip => exact ⟨undef, w', h⟩
    | enter f args =>
      obtain ⟨e, w1, fr, ⟨v, _, hK⟩, _⟩ := h []
      exact ⟨v, w1, hK⟩
    | _ => exact h.elim
theorem rstep_mono' {m : Md} {o : Oper} {a : Act} {w : World} {K K' : Act → World → Prop} (hk : ∀ v w', (m ≠ .free → Below w.heap.size w w') → K (a.put o.dst v) w' → K' (a.put o.dst v) w') (h : rstep P ops m o a w K) : rstep P ops m o a w K' := by
  unfold rstep at *
  split
  · rename_i hw
    rw [if_pos hw] at h
    cases m with
    | pure => obtain ⟨v, h1, h2⟩ := h; exact ⟨v, h1, hk _ _ (fun _ => Below.refl _ _) h2⟩
    | read => obtain ⟨v, h1, h2⟩ := h; exact ⟨v, h1, hk _ _ (fun _ => Below.refl _ _) h2⟩
    | grow => exact hup_mono (fun v w h => ⟨h.1, hk _ _ (fun _ => h.1) h.2⟩) h
    | free => exact hup_mono (fun v w h => hk _ _ (fun h => absurd rfl h) h) h
  · rename_i hw
    rw [if_neg hw] at h
    exact hk _ _ (fun _ => Below.refl _ _) h
/-- Two neighbours change places. -/
theorem rswap {i j : Nat} {mi mj : Md} {oi oj : Oper} (hi : ops[i]? = some oi) (hj : ops[j]? = some oj) (hsi : ∀ cs b, oi.op ≠ .select cs b) (hsj : ∀ cs b, oj.op ≠ .select cs b)
    (hok : swapOk ops (i, mi) (j, mj) = true) {K : Act → World → Prop} {a : Act} {w : World}
    (h : rstep P ops mi oi a w (fun a w => rstep P ops mj oj a w K)) : rstep P ops mj oj a w (fun a w => rstep P ops mi oi a w K) := by
  unfold swapOk at hok
  simp only [hi, hj, Bool.and_eq_true] at hok
  obtain ⟨hap, hm⟩ := hok
  obtain ⟨h1, h2, h3⟩ := Oper.apart_spec hap
  have wj : ∀ u, Region.wanted oj (yielded ops (a.put oi.dst u).tmps) = Region.wanted oj (yielded ops a.tmps) := fun u => wanted_put oj a oi.dst u h1
  have wi : ∀ u, Region.wanted oi (yielded ops (a.put oj.dst u).tmps) = Region.wanted oi (yielded ops a.tmps) := fun u => wanted_put oi a oj.dst u h3
  have ej : ∀ u, execOp (a.put oi.dst u).eval oj = execOp a.eval oj := fun u => execOp_put oj hsj a oi.dst u h1
  have ei : ∀ u, execOp (a.put oj.dst u).eval oi = execOp a.eval oi := fun u => execOp_put oi hsi a oj.dst u h3
  have cm : ∀ u v, (a.put oi.dst u).put oj.dst v = (a.put oj.dst v).put oi.dst u := fun u v => Act.put_comm a u v h2
  -- operation j, from the state behind i's value u, is operation j from the state before
  have jback : ∀ u w, rstep P ops mj oj (a.put oi.dst u) w K → rstep P ops mj oj a w (fun a' w' => K (a'.put oi.dst u) w') := by
    intro u w h
    by_cases hw : Region.wanted oj (yielded ops a.tmps) = true
    · have hw' : Region.wanted oj (yielded ops (a.put oi.dst u).tmps) = true := by rw [wj u]; exact hw
      cases mj with
      | pure => rw [rstep_pure hw'] at h; rw [rstep_pure hw]; obtain ⟨v, g1, g2⟩ := h; rw [cm] at g2; exact ⟨v, fun w' => by rw [← ej u]; exact g1 w', g2⟩
      | read => rw [rstep_read hw'] at h; rw [rstep_read hw]; obtain ⟨v, g1, g2⟩ := h; rw [cm] at g2; exact ⟨v, fun w' hb => by rw [← ej u]; exact g1 w' hb, g2⟩
      | grow => rw [rstep_grow hw', ej u] at h; rw [rstep_grow hw]; exact hup_mono (fun v w' g => ⟨g.1, by rw [← cm]; exact g.2⟩) h
      | free => rw [rstep_free hw', ej u] at h; rw [rstep_free hw]; exact hup_mono (fun v w' g => by rw [← cm]; exact g) h
    · have hw' : ¬ Region.wanted oj (yielded ops (a.put oi.dst u).tmps) = true := by rw [wj u]; exact hw
      rw [rstep_off hw', cm] at h
      rw [rstep_off hw]
      exact h
  have wi' : Region.wanted oi (yielded ops a.tmps) = true → ∀ u, Region.wanted oi (yielded ops (a.put oj.dst u).tmps) = true := fun h u => by rw [wi u]; exact h
  have wj' : Region.wanted oj (yielded ops a.tmps) = true → ∀ u, Region.wanted oj (yielded ops (a.put oi.dst u).tmps) = true := fun h u => by rw [wj u]; exact h
  have wjn : ¬ Region.wanted oj (yielded ops a.tmps) = true → ∀ u, ¬ Region.wanted oj (yielded ops (a.put oi.dst u).tmps) = true := fun h u => by rw [wj u]; exact h
  by_cases hwi : Region.wanted oi (yielded ops a.tmps) = true
  case neg =>
    rw [rstep_off hwi] at h
    refine rstep_mono' (fun v w' _ hK => ?_) (jback undef w h)
    rw [rstep_off (by rw [wi v]; exact hwi)]
    exact hK
  case pos =>
    cases mi with
    | pure =>
      rw [rstep_pure hwi] at h
      obtain ⟨v, g1, g2⟩ := h
      refine rstep_mono' (fun u w' _ hK => ?_) (jback v w g2)
      rw [rstep_pure (wi' hwi u)]
      exact ⟨v, fun w'' => by rw [ei u]; exact g1 w'', hK⟩
    | read =>
      rw [rstep_read hwi] at h
      obtain ⟨v, g1, g2⟩ := h
      have hmj : mj ≠ .free := by rintro rfl; cases hm
      refine rstep_mono' (fun u w' hb hK => ?_) (jback v w g2)
      have hb' := hb hmj
      rw [rstep_read (wi' hwi u)]
      exact ⟨v, fun w'' hb'' => by rw [ei u]; exact g1 w'' (hb'.trans (hb''.mono hb'.size)), hK⟩
    | grow =>
      have hmj : mj = .pure := by cases mj <;> first | rfl | cases hm
      subst hmj
      rw [rstep_grow hwi] at h
      by_cases hwj : Region.wanted oj (yielded ops a.tmps) = true
      · obtain ⟨v0, w0, _, hb⟩ := hup_some h
        rw [rstep_pure (wj' hwj v0)] at hb
        obtain ⟨vj, g1, _⟩ := hb
        rw [rstep_pure hwj]
        refine ⟨vj, fun w' => by rw [← ej v0]; exact g1 w', ?_⟩
        rw [rstep_grow (wi' hwi vj), ei vj]
        refine hup_mono (fun v w1 hr => ?_) h
        obtain ⟨hbl, hr⟩ := hr
        rw [rstep_pure (wj' hwj v)] at hr
        obtain ⟨v', g1', g2'⟩ := hr
        have e1 := g1 w1
        have e2 := g1' w1
        rw [ej v0] at e1
        rw [ej v, e1] at e2
        obtain rfl : vj = v' := by simpa using e2
        exact ⟨hbl, by rw [← cm]; exact g2'⟩
      · rw [rstep_off hwj, rstep_grow (wi' hwi undef), ei undef]
        refine hup_mono (fun v w1 hr => ?_) h
        obtain ⟨hbl, hr⟩ := hr
        rw [rstep_off (wjn hwj v), cm] at hr
        exact ⟨hbl, hr⟩
    | free =>
      have hmj : mj = .pure := by cases mj <;> first | rfl | cases hm
      subst hmj
      rw [rstep_free hwi] at h
      by_cases hwj : Region.wanted oj (yielded ops a.tmps) = true
      · obtain ⟨v0, w0, hb⟩ := hup_some h
        rw [rstep_pure (wj' hwj v0)] at hb
        obtain ⟨vj, g1, _⟩ := hb
        rw [rstep_pure hwj]
        refine ⟨vj, fun w' => by rw [← ej v0]; exact g1 w', ?_⟩
        rw [rstep_free (wi' hwi vj), ei vj]
        refine hup_mono (fun v w1 hr => ?_) h
        rw [rstep_pure (wj' hwj v)] at hr
        obtain ⟨v', g1', g2'⟩ := hr
        have e1 := g1 w1
        have e2 := g1' w1
        rw [ej v0] at e1
        rw [ej v, e1] at e2
        obtain rfl : vj = v' := by simpa using e2
        rw [← cm]; exact g2'
      · rw [rstep_off hwj, rstep_free (wi' hwi undef), ei undef]
        refine hup_mono (fun v w1 hr => ?_) h
        rw [rstep_off (wjn hwj v), cm] at hr
        exact hr
def noSel (ops : Array Oper) : Prop := ∀ (i : Nat) (o : Oper) (cs : Array SelectCase) (b : Bool), ops[i]? = some o → o.op ≠ Op.select cs b
theorem wr_front {Kend : Act → World → Prop} (hs : noSel ops) {i : Nat} {m : Md} {oi : Oper} (hi : ops[i]? = some oi) {post : List (Nat × Md)} :
    ∀ (pre : List (Nat × Md)) (a : Act) (w : World), (∀ y ∈ pre, swapOk ops y (i, m) = true) → wr P ops Kend (pre ++ (i, m) :: post) a w → rstep P ops m oi a w (wr P ops Kend (pre ++ post))
  | [], a, w, _, h => by simpa [wr, hi] using h
  | (y, my) :: pre, a, w, hp, h => by
    simp only [List.cons_append, wr] at h
    cases hy : ops[y]? with
    | none => rw [hy] at h; exact h.elim
    | some oy =>
      rw [hy] at h
      simp only at h
      have h' : rstep P ops my oy a w (fun a w => rstep P ops m oi a w (wr P ops Kend (pre ++ post))) :=
        rstep_mono (fun a w hh => wr_front hs hi pre a w (fun z hz => hp z (List.mem_cons_of_mem _ hz)) hh) h
      have := rswap hy hi (fun cs b => hs y oy cs b hy) (fun cs b => hs i oi cs b hi) (hp (y, my) (List.mem_cons_self ..)) h'
      refine rstep_mono (fun a w hh => ?_) this
      simp only [List.cons_append, wr, hy]
      exact hh
def topoOk (ops : Array Oper) : List (Nat × Md) → Bool
  | [] => true
  | i :: σ => (match ops[i.1]? with
    | some o => o.after.all fun e => !Region.binds .any e || (Nat.blt e.on ops.size && !Nat.beq e.on i.1 && σ.all fun j => !Nat.beq e.on j.1)
    | none => false) && topoOk ops σ
theorem topoOk_erase {x : Nat × Md} : ∀ {σ τ : List (Nat × Md)}, topoOk ops (σ ++ x :: τ) = true → topoOk ops (σ ++ τ) = true
  | [], τ, h => by simp only [List.nil_append, topoOk, Bool.and_eq_true] at h ⊢; exact h.2
  | y :: σ, τ, h => by
    simp only [List.cons_append, topoOk, Bool.and_eq_true] at h ⊢
    refine ⟨?_, topoOk_erase h.2⟩
    have h1 := h.1
    cases ho : ops[y.1]? with
    | none => rw [ho] at h1; cases h1
    | some o =>
      rw [ho] at h1
      simp only [Array.all_eq_true'] at h1 ⊢
      intro e he
      have := h1 e he
      simp only [Bool.or_eq_true, Bool.and_eq_true, List.all_append, List.all_cons] at this ⊢
      rcases this with h2 | h2
      · exact .inl h2
      · exact .inr ⟨h2.1, h2.2.1, h2.2.2.2⟩
theorem beq_ne {i j : Nat} (h : (!Nat.beq i j) = true) : i ≠ j := by
  rintro rfl
  simp at h
theorem wpAny_of_wr {Q : Exit → Act → World → Prop} {Kend : Act → World → Prop} (hs : noSel ops) (hQ : ∀ a w, Kend a w → Q .normal a w) (n : Nat) :
    ∀ (fuel : Nat) (σ : List (Nat × Md)) (listed : Array Bool) (a : Act) (w : World), σ.length ≤ fuel → listed.size = ops.size → closed ops listed →
      (∀ i, listed.getD i true = false ↔ ∃ m, (i, m) ∈ σ) → pairsOk ops n σ = true → topoOk ops σ = true → wr P ops Kend σ a w → wpAny P .any ops Q fuel listed a w := by
  have hempty : ∀ (listed : Array Bool), (∀ i, listed.getD i true = false ↔ ∃ m, (i, m) ∈ ([] : List (Nat × Md))) → Region.ready .any ops listed = [] := by
    intro listed hl
    refine List.eq_nil_iff_forall_not_mem.2 fun i hi => ?_
    have := (hl i).1 (mem_ready.1 hi).1
    obtain ⟨m, hm⟩ := this
    cases hm
  intro fuel
  induction fuel with
  | zero =>
    intro σ listed a w hlen _ _ hl _ _ h
    have : σ = [] := List.eq_nil_of_length_eq_zero (by omega)
    subst this
    exact ⟨hempty listed hl, hQ _ _ h⟩
  | succ fuel ih =>
    intro σ listed a w hlen hsz hc hl hp ht h
    refine ⟨fun hr => ?_, fun i hi => ?_⟩
    · -- nothing is ready: nothing is left
      cases σ with
      | nil => exact hQ _ _ h
      | cons x σ =>
        exfalso
        have hx : x.1 ∈ Region.ready .any ops listed := by
          refine mem_ready.2 ⟨(hl x.1).2 ⟨x.2, List.mem_cons_self ..⟩, ?_⟩
          simp only [topoOk, Bool.and_eq_true] at ht
          cases ho : ops[x.1]? with
          | none => rw [ho] at ht; cases ht.1
          | some o =>
            rw [ho] at ht
            refine ⟨o, rfl, fun e he hb => ?_⟩
            have := Array.all_eq_true'.1 ht.1 e he
            simp only [hb, Bool.not_true, Bool.false_or, Bool.and_eq_true] at this
            obtain ⟨⟨g1, g2⟩, g3⟩ := this
            rw [Nat.blt_eq] at g1
            have hnot : ¬ ∃ m, (e.on, m) ∈ x :: σ := by
              rintro ⟨m, hm⟩
              rcases List.mem_cons.1 hm with rfl | hm
              · exact beq_ne g2 rfl
              · exact beq_ne (List.all_eq_true.1 g3 _ hm) rfl
            have hne : listed.getD e.on true ≠ false := fun hf => hnot ((hl e.on).1 hf)
            have hlt : e.on < listed.size := by omega
            simp only [Array.getD, hlt, dite_true] at hne ⊢
            simpa using hne
        rw [hr] at hx
        cases hx
    · obtain ⟨hun, oi, hoi, hdeps⟩ := mem_ready.1 hi
      obtain ⟨m, hm⟩ := (hl i).1 hun
      obtain ⟨pre, post, rfl⟩ := List.append_of_mem hm
      have hnd : ∀ y ∈ pre, y.1 ≠ i ∧ (tdep ops n i y.1 = true ∨ swapOk ops y (i, m) = true) := by
        clear ih h hl hlen ht hm
        induction pre with
        | nil => intro y hy; cases hy
        | cons z pre ihp =>
          simp only [List.cons_append, pairsOk, Bool.and_eq_true, List.all_append, List.all_cons] at hp
          intro y hy
          rcases List.mem_cons.1 hy with rfl | hy
          · have h1 := hp.1.2.1
            rw [Bool.or_eq_true] at h1
            exact ⟨beq_ne h1.1, h1.2⟩
          · exact ihp hp.2 y hy
      have hpost : ∀ y ∈ post, i ≠ y.1 := by
        clear ih h hl hlen ht hm hnd
        induction pre with
        | nil =>
          simp only [List.nil_append, pairsOk, Bool.and_eq_true] at hp
          intro y hy
          have := List.all_eq_true.1 hp.1 y hy
          simp only [Bool.and_eq_true] at this
          exact beq_ne this.1
        | cons z pre ihp =>
          simp only [List.cons_append, pairsOk, Bool.and_eq_true] at hp
          exact ihp hp.2
      have hsw : ∀ y ∈ pre, swapOk ops y (i, m) = true := fun y hy => by
        rcases (hnd y hy).2 with h1 | h1
        · have h2 := tdep_listed hc n i y.1 (fun o ho e he hb => by rw [hoi] at ho; obtain rfl := Option.some.inj ho; exact hdeps e he hb) h1
          have h3 : listed.getD y.1 true = false := (hl y.1).2 ⟨y.2, by simp [hy]⟩
          exfalso
          rcases Nat.lt_or_ge y.1 listed.size with hlt | hlt
          · simp only [Array.getD, hlt, dite_true] at h2 h3
            rw [h2] at h3; cases h3
          · simp [Array.getD, Nat.not_lt.2 hlt] at h2
        · exact h1
      refine wpOp_of_rstep hoi (rstep_mono (fun a w hh => ?_) (wr_front hs hoi pre a w hsw h))
      have hilt : i < listed.size := by
        rcases Nat.lt_or_ge i listed.size with h2 | h2
        · exact h2
        · simp [Array.getD, Nat.not_lt.2 h2] at hun
      refine ih (pre ++ post) (listed.setIfInBounds i true) a w (by simp at hlen ⊢; omega) (by simpa using hsz) ?_ ?_ (pairsOk_erase hp) (topoOk_erase ht) hh
      · intro j o hj hjl e he hb
        by_cases hji : j = i
        · subst hji
          rw [hoi] at hj
          obtain rfl := Option.some.inj hj
          exact getD_set_true (hdeps e he hb)
        · rw [getD_set_ne true (Ne.symm hji)] at hjl
          exact getD_set_true (hc j o hj hjl e he hb)
      · intro j
        by_cases hji : j = i
        · subst hji
          constructor
          · intro hf
            simp [Array.getD, hilt] at hf
          · rintro ⟨m', hm'⟩
            rcases List.mem_append.1 hm' with h1 | h1
            · exact absurd rfl (hnd _ h1).1
            · exact absurd rfl (hpost _ h1)
        · rw [getD_set_ne true (Ne.symm hji), hl j]
          constructor
          · rintro ⟨m', hm'⟩
            refine ⟨m', ?_⟩
            rcases List.mem_append.1 hm' with h1 | h1
            · simp [h1]
            · rcases List.mem_cons.1 h1 with h2 | h2
              · exact absurd (congrArg Prod.fst h2) hji
              · simp [h2]
          · rintro ⟨m', hm'⟩
            refine ⟨m', ?_⟩
            rcases List.mem_append.1 hm' with h1 | h1
            · simp [h1]
            · simp [h1]
def drawOk (ops : Array Oper) (σ : List (Nat × Md)) : Bool :=
  Nat.ble σ.length ops.size && (List.range ops.size).all (fun i => σ.any fun x => Nat.beq x.1 i) && σ.all (fun x => Nat.blt x.1 ops.size) && pairsOk ops ops.size σ && topoOk ops σ &&
  ops.all fun o => match o.op with | .select .. => false | _ => true
end
/-- A region's walk, from a state that is given slot by slot. -/
structure Wr (P : Program) (ops : Array Oper) (Kend : Act → World → Prop) (σ : List (Nat × Md)) (N : Nat) (ρ : Nat → Value) (w : World) : Prop where
  out : wr P ops Kend σ (act N ρ) w
section
variable {P : Program} {N : Nat} {ρ : Nat → Value} {w0 w : World} {Q : Exit → Act → World → Prop} {ops : Array Oper} {H : List Blk} {Kend : Act → World → Prop} {i : Nat} {o : Oper} {σ : List (Nat × Md)}
theorem c_draw {id : Nat} {l : List Oper} (σ : List (Nat × Md)) (hm : P.follows .mixedOrders = true) (hchk : drawOk l.toArray σ = true) (hS : St w0 w H)
    (h : ∀ w', St w0 w' H → Below w.heap.size w w' → Wr P l.toArray (Q .normal) σ N ρ w') : (Code.region id l.toArray true).wp P Q (act N ρ) w := by
  simp only [drawOk, Bool.and_eq_true] at hchk
  obtain ⟨⟨⟨⟨⟨h1, h2⟩, h3⟩, h4⟩, h5⟩, h6⟩ := hchk
  have hs : noSel l.toArray := by
    intro i o cs b hi hsel
    have := Array.all_eq_true'.1 h6 o (Array.mem_of_getElem? hi)
    rw [hsel] at this
    cases this
  have hbd : Below w.heap.size w { w with drawn := w.drawn + 1 } := (Below.refl _ w).drew
  refine wp_region_any hm (wpAny_of_wr hs (fun _ _ h => h) l.toArray.size _ σ _ _ _ (Nat.le_of_ble_eq_true h1) (by simp) ?_ ?_ h4 h5 (h _ (hS.grow hbd) hbd).out)
  · intro j o _ hl
    by_cases hj : j < l.toArray.size
    · rw [Array.getD, dif_pos (by simpa using hj)] at hl
      simp at hl
    · rename_i hjo
      rw [Array.getElem?_eq_none (by omega)] at hjo
      cases hjo
  · intro j
    constructor
    · intro hf
      have hj : j < l.toArray.size := by
        rcases Nat.lt_or_ge j l.toArray.size with hlt | hlt
        · exact hlt
        · simp at hlt
          simp [Array.getD, Nat.not_lt.2 hlt] at hf
      have := List.all_eq_true.1 h2 j (by simpa using hj)
      obtain ⟨x, hx, hb⟩ := List.any_eq_true.1 this
      exact ⟨x.2, by rw [← Nat.eq_of_beq_eq_true hb]; exact hx⟩
    · rintro ⟨m, hm'⟩
      have := List.all_eq_true.1 h3 _ hm'
      rw [Nat.blt_eq] at this
      simp at this
      simp [Array.getD, this]
theorem w_end (h : Kend (act N ρ) w) : Wr P ops Kend [] N ρ w := ⟨h⟩
theorem w_pure {d : Option Tmp} {p : Op} {ty : TypeId} {pos : String} {aft : Array Edge} {g : Option (Nat × Bool)} (ho : ops[i]? = some ⟨d, p, ty, pos, aft, g⟩) (hg : gd ops N ρ g = true) (h : Pure1 P N ρ ⟨d, p, ty, pos, aft, g⟩ fun v => Wr P ops Kend σ N (updo ρ d v) w) : Wr P ops Kend ((i, .pure) :: σ) N ρ w := by
  constructor
  simp only [wr, ho, rstep]
  rw [if_pos (gd_wanted ops N ρ ⟨d, p, ty, pos, aft, g⟩ hg), act_eval]
  obtain ⟨v, h1, h2⟩ := h
  exact ⟨v, h1, by rw [act_put]; exact h2.out⟩
theorem w_read {d : Option Tmp} {p : Op} {ty : TypeId} {pos : String} {aft : Array Edge} {g : Option (Nat × Bool)} (ho : ops[i]? = some ⟨d, p, ty, pos, aft, g⟩) (hg : gd ops N ρ g = true) (h : Read1 P N ρ w ⟨d, p, ty, pos, aft, g⟩ fun v => Wr P ops Kend σ N (updo ρ d v) w) : Wr P ops Kend ((i, .read) :: σ) N ρ w := by
  constructor
  simp only [wr, ho, rstep]
  rw [if_pos (gd_wanted ops N ρ ⟨d, p, ty, pos, aft, g⟩ hg), act_eval]
  obtain ⟨v, h1, h2⟩ := h
  exact ⟨v, h1, by rw [act_put]; exact h2.out⟩
theorem w_grow {d : Option Tmp} {p : Op} {ty : TypeId} {pos : String} {aft : Array Edge} {g : Option (Nat × Bool)} (ho : ops[i]? = some ⟨d, p, ty, pos, aft, g⟩) (hg : gd ops N ρ g = true) (h : Hup1 P N ρ w ⟨d, p, ty, pos, aft, g⟩ fun v w' => Below w.heap.size w w' ∧ Wr P ops Kend σ N (updo ρ d v) w') : Wr P ops Kend ((i, .grow) :: σ) N ρ w := by
  constructor
  simp only [wr, ho, rstep]
  rw [if_pos (gd_wanted ops N ρ ⟨d, p, ty, pos, aft, g⟩ hg), act_eval]
  simp only [act_put]
  exact hup_mono (fun v w h => ⟨h.1, h.2.out⟩) h.out
theorem w_free {d : Option Tmp} {p : Op} {ty : TypeId} {pos : String} {aft : Array Edge} {g : Option (Nat × Bool)} (ho : ops[i]? = some ⟨d, p, ty, pos, aft, g⟩) (hg : gd ops N ρ g = true) (h : Hup1 P N ρ w ⟨d, p, ty, pos, aft, g⟩ fun v w' => Wr P ops Kend σ N (updo ρ d v) w') : Wr P ops Kend ((i, .free) :: σ) N ρ w := by
  constructor
  simp only [wr, ho, rstep]
  rw [if_pos (gd_wanted ops N ρ ⟨d, p, ty, pos, aft, g⟩ hg), act_eval]
  simp only [act_put]
  exact hup_mono (fun v w h => Wr.out h) h.out
theorem w_no {m : Md} {d : Option Tmp} {p : Op} {ty : TypeId} {pos : String} {aft : Array Edge} {g : Option (Nat × Bool)} (ho : ops[i]? = some ⟨d, p, ty, pos, aft, g⟩) (hg : gno ops N ρ g = true) (h : Wr P ops Kend σ N (updo ρ d undef) w) : Wr P ops Kend ((i, m) :: σ) N ρ w := by
  constructor
  simp only [wr, ho, rstep]
  rw [if_neg (by rw [gno_wanted ops N ρ ⟨d, p, ty, pos, aft, g⟩ hg]; decide), act_put]
  exact h.out
end
end Go.Sx
namespace Go.Sx
open Go Go.RowKit
section
variable {P : Program} {N : Nat} {ρ : Nat → Value} {w0 w : World} {H : List Blk} {k b : Nat} {t : TypeId} {cs : List Value}
theorem r_three {fn : Func} {t u v : Nat} {R : Value → World → Prop} {x y z : Value} (hr : fn.results = #[.tmp t, .tmp u, .tmp v]) (hx : ev N ρ (.tmp t) = x) (hy : ev N ρ (.tmp u) = y) (hz : ev N ρ (.tmp v) = z) (h : R (.tuple #[x, y, z]) w) :
    bodyPost P fn (fun e w' => ∃ v, e = .returned v ∧ R v w') .ret (act N ρ) w :=
  bodyPost_ret (results_tmp3 hr _ _ _) rfl ⟨_, rfl, by rw [tmps_getD, tmps_getD, tmps_getD, hx, hy, hz]; exact h⟩
theorem St.cast {H' : List Blk} (h : St w0 w H) (e : H = H') : St w0 w H' := e ▸ h
theorem St.loadVar {n : Nat} {zz : List Value} {ty : TypeId} (hS : St w0 w H) (hk : H[k]? = some (b, t, cs)) (ht : vinfo P ty = some (n, true, zz)) (hn : cs.length = n) :
    (Go.loadVar ty ⟨b, 0, none⟩).run P w = .ok (.agg cs.toArray) w := by
  obtain ⟨i, dd, zv, hi, hu, _, hs, hag, _⟩ := vinfo_parts ht
  exact run_loadVar_row w b t ty cs.toArray (0, 0) dd (hS.get hk) hu (by cases dd <;> first | rfl | cases hag) (by rw [hi]; simp [hs, hn])
/-- One result, a struct, out of a block of one's own. -/
theorem r_cell {fn : Func} {p n : Nat} {ty : TypeId} {zz : List Value} {R : Value → World → Prop} (hr : fn.results = #[.cell p ty]) (hp : ev N ρ (.tmp p) = .pointer (some ⟨b, 0, none⟩)) (ht : vinfo P ty = some (n, true, zz))
    (hS : St w0 w H) (hk : H[k]? = some (b, t, cs)) (hn : cs.length = n) (h : R (.agg cs.toArray) w) :
    bodyPost P fn (fun e w' => ∃ v, e = .returned v ∧ R v w') .ret (act N ρ) w := by
  refine bodyPost_ret (v := .agg cs.toArray) ?_ rfl ⟨_, rfl, h⟩
  obtain ⟨i, dd, zv, hi, hu, _, hs, hag, _⟩ := vinfo_parts ht
  exact results_cell_row hr _ w b t cs.toArray (0, 0) dd (by rw [tmps_getD, hp]) (hS.get hk) hu (by cases dd <;> first | rfl | cases hag) (by rw [hi]; simp [hs, hn])
/-- A struct and one more. -/
theorem r_cell_tmp {fn : Func} {p u n : Nat} {ty : TypeId} {zz : List Value} {y : Value} {R : Value → World → Prop} (hr : fn.results = #[.cell p ty, .tmp u]) (hp : ev N ρ (.tmp p) = .pointer (some ⟨b, 0, none⟩)) (hy : ev N ρ (.tmp u) = y) (ht : vinfo P ty = some (n, true, zz))
    (hS : St w0 w H) (hk : H[k]? = some (b, t, cs)) (hn : cs.length = n) (h : R (.tuple #[.agg cs.toArray, y]) w) :
    bodyPost P fn (fun e w' => ∃ v, e = .returned v ∧ R v w') .ret (act N ρ) w := by
  refine bodyPost_ret (v := .tuple #[.agg cs.toArray, y]) ?_ rfl ⟨_, rfl, h⟩
  rw [results_cell_tmp hr, tmps_getD, tmps_getD, hp, hy]
  have hl := hS.loadVar hk ht hn
  simp only [asAddr, Sem.run_pure, Result.andThen_ok]
  rw [hl]
  simp [Result.andThen]
end
end Go.Sx
namespace Go.Sx
open Go Go.RowKit
/-- Two stretches of a walk, the second one seen from where it began. -/
theorem St.join {w0 w1 w2 : World} {H0 H1 : List Blk} (h0 : St w0 w1 H0) (h1 : St w1 w2 H1) : St w0 w2 (H1 ++ H0) := by
  refine ⟨h0.below.trans (h1.below.mono h0.below.size), fun e he => ?_, ?_⟩
  · rcases List.mem_append.1 he with h | h
    · exact ⟨Nat.le_trans h0.below.size (h1.own e h).1, (h1.own e h).2⟩
    · exact ⟨(h0.own e h).1, by rw [h1.below.block _ (h0.lt h)]; exact (h0.own e h).2⟩
  · rw [List.map_append, List.nodup_append]
    refine ⟨h1.nd, h0.nd, ?_⟩
    rintro a ha b hb rfl
    obtain ⟨x, hx, rfl⟩ := List.mem_map.1 ha
    obtain ⟨y, hy, hyx⟩ := List.mem_map.1 hb
    have := (h1.own x hx).1
    have := h0.lt hy
    omega
/-- A slice of one's own that reads as a list, to be grown by append (L: its block, or none). -/
def Gl {α : Type} (enc : α → List Value) (e : TypeId) (size : Nat) (v : Value) (X : List α) (L : List Blk) : Prop := Gs e size v X.length (X.flatMap enc) L
section
variable {α : Type} {enc : α → List Value} {e : TypeId} {size : Nat} {w0 w : World} {H L : List Blk} {X : List α} {v : Value}
theorem Gl.nil (enc : α → List Value) (e : TypeId) (size : Nat) : Gl enc e size (.slice none 0 0) [] [] := Gs.nil e size
theorem Gl.sl (hG : Gl enc e size v X L) (hS : St w0 w (H ++ L)) (hu : ∀ x, (enc x).length = size) : Sl enc size w v X := by
  obtain ⟨hX, ⟨rfl, h0, _⟩ | ⟨b, cap, spare, rfl, rfl, h1, h2, h3⟩⟩ := hG
  · obtain rfl : X = [] := List.eq_nil_of_length_eq_zero h0
    exact Sl.nil _ _ _
  · exact (hS.perm List.perm_append_comm).sl (k := 0) (b := b) (t := e) (cs := X.flatMap enc ++ spare) rfl rfl hu h1 h2
theorem Gl.make0 {z : List Value} {n b : Nat} (hz : z.length = size) (hn : n ≤ 9223372036854775807) : Gl enc e size (.slice (some ⟨b, 0, none⟩) 0 n) [] [(b, e, rep n z)] := by
  refine ⟨by simp, .inr ⟨b, n, rep n z, rfl, rfl, Nat.zero_le _, by unfold Go.maxLen; omega, ?_⟩⟩
  simp [rep_length, hz]
theorem Gl.len (hG : Gl enc e size v X L) : ∃ a cap, v = .slice a X.length cap := by
  obtain ⟨_, ⟨rfl, h0, _⟩ | ⟨b, cap, spare, rfl, _⟩⟩ := hG
  · exact ⟨none, 0, by rw [h0]⟩
  · exact ⟨_, _, rfl⟩
end
section
variable {P : Program} {N : Nat} {ρ : Nat → Value} {w0 w w' : World} {d : Option Tmp} {ty : TypeId} {pos : String} {aft : Array Edge} {g : Option (Nat × Bool)} {x y z : Operand} {t t' e : TypeId} {H L : List Blk} {b : Nat} {cs : List Value} {v : Value} {K2 : Value → World → Prop}
/-- append of elements that were laid side by side just before. -/
theorem s_appl {α : Type} {enc : α → List Value} {size bytes c : Nat} {zz : List Value} {X : List α} (xs : List α) {xv : Value} (hx : ev N ρ x = v) (hy : ev N ρ y = xv) (ht : sinfo P t = some (e, size, bytes, zz)) (hsz : 0 < size)
    (hG : Gl enc e size v X L) (hS : St w0 w ((b, t', cs) :: (H ++ L))) (hxv : xv = .slice (some ⟨b, 0, none⟩) xs.length c) (hcs : cs = xs.flatMap enc) (hu : ∀ x, (enc x).length = size) (h1 : ∀ u ∈ cs, u.oneCell' = true)
    (h63 : X.length + xs.length ≤ 9223372036854775807) (hb : (X.length + xs.length) * bytes ≤ 140737488355328)
    (h : ∀ v' L' w', Gl enc e size v' (X ++ xs) L' → St w0 w' (H ++ L') → w.heap.size ≤ w'.heap.size → K2 v' w') :
    Hup1 P N ρ w ⟨d, .call ⟨.builtin .append, #[x, y], #[t, t]⟩, ty, pos, aft, g⟩ K2 := by
  have hat := hS.at (k := 0) (b := b) (t := t') (cs := cs) rfl 0 cs.length
  rw [List.drop_zero, List.take_length] at hat
  refine s_app hx hy ht hsz hG (hS.perm ((List.Perm.cons _ List.perm_append_comm).trans List.perm_middle.symm)) hxv (by rw [hcs, flat_len hu]) hat h1 h63 hb (fun v' L' w' hG' hS' _ hge => ?_)
  refine h v' L' w' ?_ (((hS'.perm List.perm_middle).drop (List.sublist_cons_self _ _)).perm List.perm_append_comm) hge
  unfold Gl
  rw [List.length_append, List.flatMap_append, ← hcs]
  exact hG'
/-- The same where the world before it need not be known behind it. -/
theorem uk_one (k : IntKind) (xs : List Nat) : ∀ u ∈ xs.flatMap (uk k), u.oneCell' = true := by
  intro u hu
  obtain ⟨x, _, hx⟩ := List.mem_flatMap.1 hu
  rw [List.mem_singleton.1 hx]; rfl
/-- A slice of bytes of one's own into a string. -/
theorem s_b2sg {el t'' : TypeId} {X : List Nat} {K : Value → Prop} (hx : ev N ρ x = v) (ht : P.underlying t = some (.slice el) ∧ P.underlying el = some (.int .u8) ∧ P.underlying t'' = some .string) (hG : Gl (uk .u8) e 1 v X L) (hS : St w0 w (H ++ L))
    (h : K (.string (bstr X))) : Read1 P N ρ w ⟨d, .convert t t'' x, ty, pos, aft, g⟩ K := by
  obtain ⟨hX, ⟨rfl, h0, rfl⟩ | ⟨b, cap, spare, rfl, rfl, h1, h2, h3⟩⟩ := hG
  · obtain rfl : X = [] := List.eq_nil_of_length_eq_zero h0
    refine ⟨_, fun w' hb => ?_, h⟩
    simp [execOp, hx, run_convert_bytes_string w' t t'' el none 0 0 ht.1 ht.2.1 ht.2.2, Conv.bytesToString, bstr]
    rfl
  · refine s_b2s hx ht rfl ?_ h
    have hat := (hS.perm List.perm_append_comm).at (k := 0) (b := b) (t := e) (cs := X.flatMap (uk .u8) ++ spare) rfl 0 (X.flatMap (uk .u8)).length
    rw [List.drop_zero, List.take_left] at hat
    rw [Kr_flat]
    exact hat
/-- A new slice with room. -/
theorem s_make0l {α : Type} {enc : α → List Value} {sz by_ n : Nat} {zz : List Value} {kl kc : IntKind} {ml mc : Int} (hx : ev N ρ x = .int kl ml) (hy : ev N ρ y = .int kc mc) (ht : sinfo P t = some (e, sz, by_, zz)) (hml : ml = 0) (hmc : mc = (n : Int))
    (h1 : by_ * n ≤ 281474976710656) (h2 : n ≤ 9223372036854775807) (hS : St w0 w H)
    (h : ∀ v L w', Gl enc e sz v [] L → St w0 w' (H ++ L) → Below w.heap.size w w' → K2 v w') :
    Hup1 P N ρ w ⟨d, .makeSlice t x y, ty, pos, aft, g⟩ K2 := by
  obtain ⟨_, _, _, _, _, _, _, _, hzl⟩ := sinfo_parts ht
  exact s_make0 hx hy ht hml hmc h1 h2 hS (fun b w' hS' hB => h _ [(b, e, rep n zz)] w' (Gl.make0 hzl h2) (hS'.perm (List.perm_append_comm (l₁ := [(b, e, rep n zz)]))) hB)
end
end Go.Sx
namespace Go.Sx
open Go Go.RowKit
section
variable {α : Type} {enc : α → List Value} {size : Nat}
theorem flat_drop (hu : ∀ x, (enc x).length = size) (L : List α) (i : Nat) : (L.flatMap enc).drop (i * size) = (L.drop i).flatMap enc := by
  induction L generalizing i with
  | nil => simp
  | cons x L ih =>
    cases i with
    | zero => simp
    | succ i =>
      rw [List.flatMap_cons, List.drop_append, hu, List.drop_eq_nil_of_le (by rw [hu, Nat.add_mul]; omega), List.nil_append, List.drop_succ_cons, ← ih i]
      congr 1
      rw [Nat.add_mul]; omega
theorem flat_take (hu : ∀ x, (enc x).length = size) (L : List α) (i : Nat) : (L.flatMap enc).take (i * size) = (L.take i).flatMap enc := by
  induction L generalizing i with
  | nil => simp
  | cons x L ih =>
    cases i with
    | zero => simp
    | succ i =>
      rw [List.flatMap_cons, List.take_append, hu, List.take_of_length_le (by rw [hu, Nat.add_mul]; omega), List.take_succ_cons, List.flatMap_cons, ← ih i]
      congr 2
      rw [Nat.add_mul]; omega
theorem flat_elem (hu : ∀ x, (enc x).length = size) (L : List α) (d : α) {i : Nat} (hi : i < L.length) : ((L.flatMap enc).drop (i * size)).take size = enc (L.getD i d) := by
  rw [flat_drop hu, List.drop_eq_getElem_cons hi, List.flatMap_cons, List.take_append, List.take_of_length_le (by rw [hu]; exact Nat.le_refl _), hu, Nat.sub_self, List.take_zero, List.append_nil]
  rw [List.getD_eq_getElem?_getD, List.getElem?_eq_getElem hi]; rfl
theorem flat_set (hu : ∀ x, (enc x).length = size) (L : List α) (x : α) {i : Nat} (hi : i < L.length) : splice (L.flatMap enc) (i * size) (enc x) = (L.set i x).flatMap enc := by
  unfold splice
  rw [flat_take hu, hu, show i * size + size = (i + 1) * size by rw [Nat.add_mul]; omega, flat_drop hu, List.set_eq_take_append_cons_drop, if_pos hi, List.flatMap_append, List.flatMap_cons, List.append_assoc]
theorem flat_rep (z : α) (n : Nat) : rep n (enc z) = (List.replicate n z).flatMap enc := by
  induction n with
  | zero => rfl
  | succ n ih => rw [rep_succ, ih]; rfl
end
section
variable {w0 w : World} {H : List Blk} {b k : Nat} {t : TypeId}
/-- A row of one's own, read from its head on. -/
theorem St.sle {α : Type} {enc : α → List Value} {size : Nat} {L : List α} (h : St w0 w H) (hk : H[k]? = some (b, t, L.flatMap enc)) (hu : ∀ x, (enc x).length = size) {n cap : Nat} (hn : n ≤ L.length) (h1 : n ≤ cap) (h2 : cap ≤ 9223372036854775807) :
    Sl enc size w (.slice (some ⟨b, 0, none⟩) n cap) (L.take n) := by
  have hl : (L.take n).length = n := by simp; omega
  have := h.sl (enc := enc) (size := size) (L := L.take n) (spare := (L.drop n).flatMap enc) (cap := cap) hk (by rw [← List.flatMap_append, List.take_append_drop]) hu (by rw [hl]; exact h1) (by unfold Go.maxLen; omega)
  rwa [hl] at this
end
section
variable {P : Program} {N : Nat} {ρ : Nat → Value} {w0 w w' : World}
  {d : Option Tmp} {ty : TypeId} {pos : String} {aft : Array Edge} {g : Option (Nat × Bool)} {x y z : Operand} {t t' e : TypeId} {H : List Blk} {k b o : Nat} {v : Value} {K : Value → Prop} {K2 : Value → World → Prop}
theorem s_ldE {α : Type} {enc : α → List Value} {size : Nat} {L : List α} {i : Nat} {zz : List Value} {agg : Bool} (dd : α) (hu : ∀ x, (enc x).length = size) (hx : ev N ρ x = .pointer (some ⟨b, o, none⟩)) (ht : vinfo P t = some (size, agg, zz)) (hS : St w0 w H) (hk : H[k]? = some (b, t', L.flatMap enc))
    (ho : o = i * size) (hi : i < L.length) (hv : mkv agg (enc (L.getD i dd)) = v) (hagg : agg = true ∨ size = 1) (h : K v) : Read1 P N ρ w ⟨d, .load t x, ty, pos, aft, g⟩ K := by
  subst ho
  have hat := hS.at hk (i * size) size
  rw [flat_elem hu L dd hi] at hat
  exact s_ld hx ht hat (hu _) hv hagg h
theorem s_stE {α : Type} {enc : α → List Value} {size : Nat} {L : List α} {i : Nat} {zz : List Value} {agg : Bool} (u : α) (hu : ∀ x, (enc x).length = size) (hx : ev N ρ x = .pointer (some ⟨b, o, none⟩)) (hy : ev N ρ y = v) (ht : vinfo P t = some (size, agg, zz)) (hS : St w0 w H) (hk : H[k]? = some (b, t', L.flatMap enc))
    (ho : o = i * size) (hi : i < L.length) (hv : v.cells.toList = enc u) (h1 : (enc u).all (·.oneCell') = true)
    (h : ∀ w', St w0 w' (H.set k (b, t', (L.set i u).flatMap enc)) → K2 undef w') : Hup1 P N ρ w ⟨d, .store t x y, ty, pos, aft, g⟩ K2 := by
  subst ho
  refine s_sta hx hy ht hS hk hv (hu u) ?_ h1 (fun w' hS' => ?_)
  · rw [flat_len hu]
    have : (i + 1) * size ≤ L.length * size := Nat.mul_le_mul_right _ hi
    rw [Nat.add_mul] at this; omega
  · rw [flat_set hu L u hi] at hS'
    exact h w' hS'
theorem s_makeE {α : Type} {enc : α → List Value} {size by_ n : Nat} {zz : List Value} {kl kc : IntKind} {ml mc : Int} (zd : α) (hx : ev N ρ x = .int kl ml) (hy : ev N ρ y = .int kc mc) (ht : sinfo P t = some (e, size, by_, zz)) (hz : zz = enc zd) (hml : ml = (n : Int)) (hmc : mc = (n : Int))
    (h1 : by_ * n ≤ 281474976710656) (h2 : n ≤ 9223372036854775807) (hS : St w0 w H)
    (h : ∀ b w', St w0 w' ((b, e, (List.replicate n zd).flatMap enc) :: H) → Below w.heap.size w w' → K2 (.slice (some ⟨b, 0, none⟩) n n) w') :
    Hup1 P N ρ w ⟨d, .makeSlice t x y, ty, pos, aft, g⟩ K2 := by
  refine s_make hx hy ht hml hmc h1 h2 hS (fun b w' hS' hB => ?_)
  rw [hz, flat_rep] at hS'
  exact h b w' hS' hB
end
end Go.Sx
namespace Go.Sx
open Go Go.RowKit
theorem add_spot {a : Addr} (h : a.spot = none) (n : Nat) : (a.add n).spot = none := by
  obtain ⟨b, o, s⟩ := a
  subst h
  rw [add_lit]
theorem At.sub {w : World} {a : Addr} {cs : List Value} (hs : a.spot = none) (h : At w a cs) (k n : Nat) : At w (a.add k) ((cs.drop k).take n) := by
  obtain ⟨b, o, s⟩ := a
  subst hs
  rw [add_lit]
  exact h.seg k n
section
variable {P : Program} {N : Nat} {ρ : Nat → Value} {w : World}
  {d : Option Tmp} {ty : TypeId} {pos : String} {aft : Array Edge} {g : Option (Nat × Bool)} {x : Operand} {t : TypeId} {v : Value} {K : Value → Prop}
theorem spot_el {α : Type} {enc : α → List Value} {size : Nat} {L : List α} (hS : Sl enc size w v L) (hu : ∀ x, (enc x).length = size) (hs : 0 < size) {i : Nat} (hi : i < L.length) : ((sbase v).add (i * size)).spot = none :=
  add_spot (hS.spot hu hs (by omega)) _
theorem s_fldr {f off : Nat} {a : Addr} (hx : ev N ρ x = .pointer (some a)) (hs : a.spot = none) (hf : foff P t f = some off) (h : K (.pointer (some (a.add off)))) :
    Pure1 P N ρ ⟨d, .fieldAddr t x f, ty, pos, aft, g⟩ K := by
  obtain ⟨b, o, s⟩ := a
  subst hs
  rw [add_lit] at h
  exact s_fld hx hf h
theorem s_ldfe {α : Type} {enc : α → List Value} {size : Nat} {L : List α} {i off m : Nat} {agg : Bool} {zz : List Value} {vs : Value} (dd : α) (hx : ev N ρ x = .pointer (some (((sbase vs).add (i * size)).add off))) (ht : vinfo P t = some (m, agg, zz))
    (hS : Sl enc size w vs L) (hu : ∀ x, (enc x).length = size) (hs : 0 < size) (hi : i < L.length) (hn : (((enc (L.getD i dd)).drop off).take m).length = m) (hv : mkv agg (((enc (L.getD i dd)).drop off).take m) = v) (hagg : agg = true ∨ m = 1)
    (h : K v) : Read1 P N ρ w ⟨d, .load t x, ty, pos, aft, g⟩ K :=
  s_ld hx ht (At.sub (spot_el hS hu hs hi) (hS.at hi dd) off m) hn hv hagg h
end
end Go.Sx
namespace Go.Sx
open Go
def ofDigs (b : Nat) : List Nat → Nat
  | [] => 0
  | d :: l => d + b * ofDigs b l
def digs (b n : Nat) : List Nat :=
  if _h : n = 0 ∨ b < 2 then [] else n % b :: digs b (n / b)
termination_by n
decreasing_by
  have h1 : n ≠ 0 := fun e => _h (.inl e)
  exact Nat.div_lt_self (by omega) (by omega)
theorem digs_zero (b : Nat) : digs b 0 = [] := by rw [digs]; simp
theorem digs_pos {b n : Nat} (hb : 2 ≤ b) (hn : 0 < n) : digs b n = n % b :: digs b (n / b) := by
  rw [digs, dif_neg (by omega)]
theorem ofDigs_digs {b : Nat} (hb : 2 ≤ b) (n : Nat) : ofDigs b (digs b n) = n := by
  induction n using Nat.strongRecOn with
  | _ n ih =>
    rcases Nat.eq_zero_or_pos n with rfl | hn
    · rw [digs_zero]; rfl
    · rw [digs_pos hb hn, ofDigs, ih _ (Nat.div_lt_self hn (by omega))]
      exact Nat.mod_add_div n b
theorem digs_lt {b : Nat} (hb : 2 ≤ b) (n : Nat) : ∀ d ∈ digs b n, d < b := by
  induction n using Nat.strongRecOn with
  | _ n ih =>
    rcases Nat.eq_zero_or_pos n with rfl | hn
    · rw [digs_zero]; intro d hd; cases hd
    · rw [digs_pos hb hn]
      intro d hd
      rcases List.mem_cons.1 hd with rfl | hd
      · exact Nat.mod_lt _ (by omega)
      · exact ih _ (Nat.div_lt_self hn (by omega)) d hd
theorem ofDigs_lt {b : Nat} (l : List Nat) (h : ∀ d ∈ l, d < b) : ofDigs b l < b ^ l.length := by
  induction l with
  | nil => simp [ofDigs]
  | cons d l ih =>
    have h1 := ih (fun x hx => h x (List.mem_cons_of_mem _ hx))
    have h2 := h d (List.mem_cons_self ..)
    rw [ofDigs, List.length_cons, Nat.pow_succ, Nat.mul_comm (b ^ l.length) b]
    have : b * (ofDigs b l + 1) ≤ b * b ^ l.length := Nat.mul_le_mul_left _ h1
    rw [Nat.mul_add] at this
    omega
theorem ofDigs_append (b : Nat) (l m : List Nat) : ofDigs b (l ++ m) = ofDigs b l + b ^ l.length * ofDigs b m := by
  induction l with
  | nil => simp [ofDigs]
  | cons d l ih =>
    rw [List.cons_append, ofDigs, ih, ofDigs, List.length_cons, Nat.pow_succ, Nat.mul_add, Nat.mul_comm (b ^ l.length) b, Nat.mul_assoc, Nat.add_assoc]
theorem ofDigs_zeros (b n : Nat) : ofDigs b (List.replicate n 0) = 0 := by
  induction n with
  | zero => rfl
  | succ n ih => rw [List.replicate_succ, ofDigs, ih]; simp
/-- Without zeros at the end. -/
def trimmed (l : List Nat) : Prop := l.getLast? ≠ some 0
theorem ofDigs_pos_of_trimmed {b : Nat} (hb : 2 ≤ b) : ∀ (l : List Nat), trimmed l → l ≠ [] → 0 < ofDigs b l
  | [], _, h => absurd rfl h
  | [d], h, _ => by
    simp only [trimmed, List.getLast?_singleton, ne_eq, Option.some.injEq] at h
    simp only [ofDigs]
    omega
  | d :: e :: l, h, _ => by
    have h' : trimmed (e :: l) := by simpa [trimmed, List.getLast?_cons_cons] using h
    have := ofDigs_pos_of_trimmed hb (e :: l) h' (by simp)
    rw [ofDigs]
    have : 0 < b * ofDigs b (e :: l) := Nat.mul_pos (by omega) this
    omega
theorem digs_ofDigs {b : Nat} (hb : 2 ≤ b) : ∀ (l : List Nat), (∀ d ∈ l, d < b) → trimmed l → digs b (ofDigs b l) = l
  | [], _, _ => by rw [ofDigs, digs_zero]
  | d :: l, h, ht => by
    have hd := h d (List.mem_cons_self ..)
    have hpos := ofDigs_pos_of_trimmed hb (d :: l) ht (by simp)
    have hl : trimmed l := by
      cases l with
      | nil => simp [trimmed]
      | cons e l => simpa [trimmed, List.getLast?_cons_cons] using ht
    rw [digs_pos hb hpos, ofDigs]
    have h1 : (d + b * ofDigs b l) % b = d := by rw [Nat.add_mul_mod_self_left]; exact Nat.mod_eq_of_lt hd
    have h2 : (d + b * ofDigs b l) / b = ofDigs b l := by
      rw [Nat.add_mul_div_left _ _ (by omega), Nat.div_eq_of_lt hd, Nat.zero_add]
    rw [h1, h2, digs_ofDigs hb l (fun x hx => h x (List.mem_cons_of_mem _ hx)) hl]
/-- Zeros at the end count nothing. -/
theorem digs_of_take {b : Nat} (hb : 2 ≤ b) (l : List Nat) (n : Nat) (h : ∀ d ∈ l, d < b) (hn : n ≤ l.length) (hz : ∀ i, n ≤ i → i < l.length → l.getD i 0 = 0) (hl : n = 0 ∨ l.getD (n - 1) 0 ≠ 0) :
    l.take n = digs b (ofDigs b l) := by
  have hsplit : l = l.take n ++ List.replicate (l.length - n) 0 := by
    conv => lhs; rw [← List.take_append_drop n l]
    congr 1
    apply List.ext_getElem
    · simp
    · intro i h1 h2
      simp only [List.getElem_drop, List.getElem_replicate]
      have := hz (n + i) (by omega) (by simp at h1; omega)
      rwa [List.getD_eq_getElem?_getD, List.getElem?_eq_getElem (by simp at h1; omega)] at this
  have hv : ofDigs b l = ofDigs b (l.take n) := by
    conv => lhs; rw [hsplit]
    rw [ofDigs_append, ofDigs_zeros]; simp
  rw [hv, digs_ofDigs hb _ (fun d hd => h d (List.mem_of_mem_take hd))]
  unfold trimmed
  rcases hl with rfl | hl
  · simp
  · rcases Nat.eq_zero_or_pos n with rfl | hp
    · simp
    · rw [List.getLast?_eq_getElem?, List.length_take, Nat.min_eq_left hn, List.getElem?_take, if_pos (by omega)]
      intro h0
      rw [List.getD_eq_getElem?_getD, h0] at hl
      exact hl rfl
theorem digs_length_le {b : Nat} (hb : 2 ≤ b) : ∀ (k n : Nat), n < b ^ k → (digs b n).length ≤ k := by
  intro k
  induction k with
  | zero => intro n hn; simp at hn; subst hn; rw [digs_zero]; simp
  | succ k ih =>
    intro n hn
    rcases Nat.eq_zero_or_pos n with rfl | hp
    · rw [digs_zero]; simp
    · rw [digs_pos hb hp, List.length_cons]
      have := ih (n / b) (by rw [Nat.div_lt_iff_lt_mul (by omega)]; rw [Nat.pow_succ] at hn; exact hn)
      omega
theorem lt_pow_digs_length {b : Nat} (hb : 2 ≤ b) (n : Nat) : n < b ^ (digs b n).length := by
  have := ofDigs_lt (digs b n) (digs_lt hb n)
  rwa [ofDigs_digs hb] at this
theorem digs_length_mono {b m n : Nat} (hb : 2 ≤ b) (h : m ≤ n) : (digs b m).length ≤ (digs b n).length :=
  digs_length_le hb _ _ (Nat.lt_of_le_of_lt h (lt_pow_digs_length hb n))
theorem pow_le_of_digs_length {b n k : Nat} (hb : 2 ≤ b) (h : k < (digs b n).length) : b ^ k ≤ n := by
  rcases Nat.lt_or_ge n (b ^ k) with h1 | h1
  · have := digs_length_le hb k n h1; omega
  · exact h1
theorem digs_eq_nil {b n : Nat} (hb : 2 ≤ b) : digs b n = [] ↔ n = 0 := by
  constructor
  · intro h; have := ofDigs_digs hb n; rw [h] at this; exact this.symm
  · rintro rfl; exact digs_zero b
def sbytes (s : ByteArray) : List Nat := s.data.toList.map UInt8.toNat
def val (s : ByteArray) : Nat := ofDigs 256 (sbytes s).reverse
def natS (n : Nat) : ByteArray := bstr (digs 256 n).reverse
theorem sbytes_bstr (l : List Nat) (h : ∀ d ∈ l, d < 256) : sbytes (bstr l) = l := by
  unfold sbytes bstr
  simp only [List.map_map]
  conv => rhs; rw [← List.map_id l]
  apply List.map_congr_left
  intro d hd
  simp only [Function.comp, id]
  rw [UInt8.toNat_ofNat']
  exact Nat.mod_eq_of_lt (h d hd)
theorem bstr_sbytes (s : ByteArray) : bstr (sbytes s) = s := by
  cases s with
  | mk a =>
    unfold sbytes bstr
    simp only [List.map_map]
    congr 1
    apply Array.ext'
    simp only
    conv => rhs; rw [← List.map_id a.toList]
    apply List.map_congr_left
    intro x _
    simp
theorem sbytes_lt (s : ByteArray) : ∀ d ∈ sbytes s, d < 256 := by
  intro d hd
  obtain ⟨x, _, rfl⟩ := List.mem_map.1 hd
  exact x.toNat_lt
theorem sbytes_length (s : ByteArray) : (sbytes s).length = s.size := by unfold sbytes; rw [List.length_map, Array.length_toList]; rfl
theorem val_natS (n : Nat) : val (natS n) = n := by
  unfold val natS
  rw [sbytes_bstr _ (fun d hd => digs_lt (by decide) n d (List.mem_reverse.1 hd)), List.reverse_reverse, ofDigs_digs (by decide)]
theorem natS_inj {m n : Nat} (h : natS m = natS n) : m = n := by rw [← val_natS m, h, val_natS]
theorem val_bstr (l : List Nat) (h : ∀ d ∈ l, d < 256) : val (bstr l) = ofDigs 256 l.reverse := by unfold val; rw [sbytes_bstr l h]
theorem natS_size (n : Nat) : (natS n).size = (digs 256 n).length := by
  rw [← sbytes_length, natS, sbytes_bstr _ (fun d hd => digs_lt (by decide) n d (List.mem_reverse.1 hd)), List.length_reverse]
theorem val_lt (s : ByteArray) : val s < 256 ^ s.size := by
  have := ofDigs_lt (b := 256) (sbytes s).reverse (fun d hd => sbytes_lt s d (List.mem_reverse.1 hd))
  rwa [List.length_reverse, sbytes_length] at this
theorem natS_val_size_le (s : ByteArray) : (natS (val s)).size ≤ s.size := by rw [natS_size]; exact digs_length_le (by decide) _ _ (val_lt s)
theorem natS_zero : natS 0 = ByteArray.empty := by unfold natS; rw [digs_zero]; rfl
theorem natS_eq_empty {n : Nat} : natS n = ByteArray.empty ↔ n = 0 := by
  rw [← natS_zero]; exact ⟨fun h => natS_inj h, fun h => by rw [h]⟩
theorem natS_one : natS 1 = ⟨#[1]⟩ := by
  unfold natS
  rw [digs_pos (by decide) (by decide), show 1 / 256 = 0 from rfl, digs_zero]; rfl
/-- The numbers that the program calls limbs. -/
abbrev B32 : Nat := 4294967296
def limb (n : Nat) : List Nat := digs B32 n
end Go.Sx
namespace Go.Sx
open Go
theorem natS_size_le {n k : Nat} (h : n < 256 ^ k) : (natS n).size ≤ k := by rw [natS_size]; exact digs_length_le (by decide) _ _ h
theorem lt_natS_size (n : Nat) : n < 256 ^ (natS n).size := by rw [natS_size]; exact lt_pow_digs_length (by decide) n
theorem natS_size_mono {m n : Nat} (h : m ≤ n) : (natS m).size ≤ (natS n).size := natS_size_le (Nat.lt_of_le_of_lt h (lt_natS_size n))
theorem natS_size_mul (m n : Nat) : (natS (m * n)).size ≤ (natS m).size + (natS n).size := by
  refine natS_size_le ?_
  rw [Nat.pow_add]
  have h1 := lt_natS_size m
  have h2 := lt_natS_size n
  exact Nat.mul_lt_mul_of_lt_of_le h1 (Nat.le_of_lt h2) (Nat.lt_of_le_of_lt (Nat.zero_le _) h2)
theorem natS_size_add (m n : Nat) : (natS (m + n)).size ≤ max (natS m).size (natS n).size + 1 := by
  refine natS_size_le ?_
  have h1 : m < 256 ^ max (natS m).size (natS n).size := Nat.lt_of_lt_of_le (lt_natS_size m) (Nat.pow_le_pow_right (by decide) (Nat.le_max_left _ _))
  have h2 : n < 256 ^ max (natS m).size (natS n).size := Nat.lt_of_lt_of_le (lt_natS_size n) (Nat.pow_le_pow_right (by decide) (Nat.le_max_right _ _))
  rw [Nat.pow_succ]
  omega
theorem natS_one_size : (natS 1).size = 1 := by rw [natS_one]; rfl
theorem natS_size_pos {n : Nat} (h : 0 < n) : 1 ≤ (natS n).size := by
  have := natS_size_mono (m := 1) (n := n) h
  rwa [natS_one_size] at this
theorem val_le_one : val ⟨#[1]⟩ = 1 := by rw [← natS_one, val_natS]
theorem natS_nil {n : Nat} : natS n = ⟨#[]⟩ ↔ n = 0 := natS_eq_empty
theorem val_nil : val ⟨#[]⟩ = 0 := rfl
/-- A number as it comes: whatever lies in its three fields. -/
structure RR where
  neg : Bool
  num : ByteArray
  den : ByteArray
  deriving DecidableEq
def encR (r : RR) : List Value := [.bool r.neg, .string r.num, .string r.den]
def aggR (r : RR) : Value := .agg #[.bool r.neg, .string r.num, .string r.den]
theorem encR_len : ∀ r, (encR r).length = 3 := fun _ => rfl
def sg (b : Bool) (n : Nat) : Int := if b then -(n : Int) else n
theorem sg_natAbs (b : Bool) (n : Nat) : (sg b n).natAbs = n := by unfold sg; split <;> simp
def ofQ (q : Rat) : RR := ⟨decide (q.num < 0), natS q.num.natAbs, if q.den = 1 then ⟨#[]⟩ else natS q.den⟩
def dv (s : ByteArray) : Nat := if s = ⟨#[]⟩ then 1 else val s
def toQ' (r : RR) : Rat := mkRat (sg r.neg (val r.num)) (dv r.den)
def Vld (r : RR) : Prop := ofQ (toQ' r) = r
instance (r : RR) : Decidable (Vld r) := inferInstanceAs (Decidable (ofQ (toQ' r) = r))
def toQ (r : RR) : Rat := if Vld r then toQ' r else 0
def fx (r : RR) : RR := ofQ (toQ r)
theorem dv_natS {d : Nat} (h : d ≠ 0) : dv (if d = 1 then ⟨#[]⟩ else natS d) = d := by
  unfold dv
  by_cases h1 : d = 1
  · simp [h1]
  · rw [if_neg h1, if_neg (by rw [natS_nil]; exact h), val_natS]
theorem toQ'_ofQ (q : Rat) : toQ' (ofQ q) = q := by
  unfold toQ' ofQ
  simp only
  rw [dv_natS q.den_nz, val_natS]
  have : sg (decide (q.num < 0)) q.num.natAbs = q.num := by
    unfold sg
    by_cases h : q.num < 0 <;> simp [h] <;> omega
  rw [this, Rat.mkRat_self]
theorem Vld_ofQ (q : Rat) : Vld (ofQ q) := by unfold Vld; rw [toQ'_ofQ]
@[simp] theorem toQ_ofQ (q : Rat) : toQ (ofQ q) = q := by unfold toQ; rw [if_pos (Vld_ofQ q), toQ'_ofQ]
theorem ofQ_toQ {r : RR} (h : Vld r) : ofQ (toQ r) = r := by unfold toQ; rw [if_pos h]; exact h
theorem fx_vld {r : RR} (h : Vld r) : fx r = r := ofQ_toQ h
theorem ofQ_zero : ofQ 0 = ⟨false, ⟨#[]⟩, ⟨#[]⟩⟩ := by
  unfold ofQ
  simp only [Rat.zero_num, Rat.zero_den, if_true]
  rw [show (0 : Int).natAbs = 0 from rfl, natS_nil.2 rfl]; rfl
theorem toQ_bad {r : RR} (h : ¬ Vld r) : toQ r = 0 := by unfold toQ; rw [if_neg h]
theorem fx_bad {r : RR} (h : ¬ Vld r) : fx r = ⟨false, ⟨#[]⟩, ⟨#[]⟩⟩ := by unfold fx; rw [toQ_bad h, ofQ_zero]
theorem ofQ_num_nil {q : Rat} : (ofQ q).num = ⟨#[]⟩ ↔ q = 0 := by
  show natS q.num.natAbs = _ ↔ _
  rw [natS_nil, Int.natAbs_eq_zero, Rat.num_eq_zero]
/-- What 'reduced' makes of a sign and two numbers without a common part. -/
theorem ofQ_mk {b : Bool} {n d : Nat} (hn : 0 < n) (hd : d ≠ 0) (hc : Nat.gcd n d = 1) : ofQ (mkRat (sg b n) d) = ⟨b, natS n, if d = 1 then ⟨#[]⟩ else natS d⟩ := by
  have e : (⟨sg b n, d, hd, by rw [sg_natAbs]; exact hc⟩ : Rat) = mkRat (sg b n) d := Rat.mk_eq_mkRat ..
  rw [← e]
  unfold ofQ
  simp only [sg_natAbs]
  have : decide (sg b n < 0) = b := by
    unfold sg
    cases b
    · simp
    · simp; omega
  rw [this]
theorem mkRat_red {b : Bool} {n d g : Nat} (hd : d ≠ 0) (hg : g = Nat.gcd n d) : mkRat (sg b n) d = mkRat (sg b (n / g)) (d / g) := by
  have hgp : 0 < g := by rw [hg]; exact Nat.gcd_pos_of_pos_right _ (by omega)
  have h1 : g * (n / g) = n := Nat.mul_div_cancel' (by rw [hg]; exact Nat.gcd_dvd_left _ _)
  have h2 : g * (d / g) = d := Nat.mul_div_cancel' (by rw [hg]; exact Nat.gcd_dvd_right _ _)
  have h3 : sg b n = (g : Int) * sg b (n / g) := by
    unfold sg
    have : ((n : Nat) : Int) = (g : Int) * ((n / g : Nat) : Int) := by exact_mod_cast h1.symm
    split
    · rw [this, Int.mul_neg]
    · exact this
  conv => lhs; rw [h3, ← h2]
  exact Rat.mkRat_mul_left (by omega)
/-- What is valid, as the program asks it. -/
theorem Vld_iff (r : RR) : Vld r ↔ natS (val r.num) = r.num ∧ natS (val r.den) = r.den ∧
    (r.num = ⟨#[]⟩ → r.neg = false ∧ r.den = ⟨#[]⟩) ∧ (r.num ≠ ⟨#[]⟩ → r.den = ⟨#[]⟩ ∨ (r.den ≠ ⟨#[1]⟩ ∧ Nat.gcd (val r.num) (val r.den) = 1)) := by
  constructor
  · intro h
    obtain ⟨q, rfl⟩ : ∃ q, r = ofQ q := ⟨_, h.symm⟩
    have hnum : val (ofQ q).num = q.num.natAbs := val_natS _
    refine ⟨by rw [hnum]; rfl, ?_, ?_, ?_⟩
    · show natS (val (if q.den = 1 then _ else _)) = if q.den = 1 then _ else _
      split
      · rw [val_nil]; exact natS_nil.2 rfl
      · rw [val_natS]
    · intro h0
      have : q = 0 := ofQ_num_nil.1 h0
      subst this
      rw [ofQ_zero]; exact ⟨rfl, rfl⟩
    · intro h0
      by_cases h1 : q.den = 1
      · left; show (if q.den = 1 then _ else _) = _; rw [if_pos h1]
      · right
        have hden : (ofQ q).den = natS q.den := by show (if q.den = 1 then _ else _) = _; rw [if_neg h1]
        rw [hnum, hden, val_natS]
        exact ⟨fun h2 => h1 (by rw [← val_natS q.den, h2, val_le_one]), q.reduced⟩
  · rintro ⟨h1, h2, h3, h4⟩
    by_cases h0 : r.num = ⟨#[]⟩
    · obtain ⟨g1, g2⟩ := h3 h0
      have : r = ofQ 0 := by rw [ofQ_zero]; cases r; simp_all
      rw [this]; exact Vld_ofQ 0
    · have hn : 0 < val r.num := by
        rcases Nat.eq_zero_or_pos (val r.num) with g | g
        · rw [g, natS_nil.2 rfl] at h1; exact absurd h1.symm h0
        · exact g
      unfold Vld toQ'
      rcases h4 h0 with g | ⟨g1, g2⟩
      · have hd : dv r.den = 1 := by unfold dv; rw [if_pos g]
        rw [hd, ofQ_mk hn (by decide) (Nat.gcd_one_right _), if_pos rfl, h1]
        cases r; simp_all
      · by_cases hd0 : r.den = ⟨#[]⟩
        · have hd : dv r.den = 1 := by unfold dv; rw [if_pos hd0]
          rw [hd, ofQ_mk hn (by decide) (Nat.gcd_one_right _), if_pos rfl, h1]
          cases r; simp_all
        · have hd : dv r.den = val r.den := by unfold dv; rw [if_neg hd0]
          have hdn : val r.den ≠ 0 := fun g => by rw [g, natS_nil.2 rfl] at h2; exact hd0 h2.symm
          have hd1 : val r.den ≠ 1 := fun g => by rw [g, natS_one] at h2; exact g1 h2.symm
          rw [hd, ofQ_mk hn hdn g2, if_neg hd1, h1, h2]
/-- The greater one of a number's two lengths. -/
def L (q : Rat) : Nat := max (natS q.num.natAbs).size (natS q.den).size
def Lr (r : RR) : Nat := max 1 (max r.num.size r.den.size)
theorem L_pos (q : Rat) : 1 ≤ L q := Nat.le_trans (natS_size_pos (Nat.pos_of_ne_zero q.den_nz)) (Nat.le_max_right _ _)
theorem L_num (q : Rat) : (natS q.num.natAbs).size ≤ L q := Nat.le_max_left _ _
theorem L_den (q : Rat) : (natS q.den).size ≤ L q := Nat.le_max_right _ _
@[simp] theorem Lr_ofQ (q : Rat) : Lr (ofQ q) = L q := by
  unfold Lr L ofQ
  simp only
  have h1 := natS_size_pos (Nat.pos_of_ne_zero q.den_nz)
  by_cases h : q.den = 1
  · rw [if_pos h, h, natS_one_size]
    show max 1 (max _ 0) = _
    omega
  · rw [if_neg h]; omega
theorem L_zero : L 0 = 1 := by
  unfold L
  rw [Rat.zero_num, Rat.zero_den, natS_one_size, show (0 : Int).natAbs = 0 from rfl, natS_nil.2 rfl]; rfl
theorem Lr_pos (r : RR) : 1 ≤ Lr r := by unfold Lr; omega
theorem L_toQ (r : RR) : L (toQ r) ≤ Lr r := by
  by_cases h : Vld r
  · rw [← Lr_ofQ, ofQ_toQ h]; exact Nat.le_refl _
  · rw [toQ_bad h, L_zero]; exact Lr_pos r
theorem num_size_le (r : RR) : r.num.size ≤ Lr r := by unfold Lr; omega
theorem den_size_le (r : RR) : r.den.size ≤ Lr r := by unfold Lr; omega
theorem L_mkRat (n : Int) {d : Nat} (hd : d ≠ 0) {k : Nat} (h1 : (natS n.natAbs).size ≤ k) (h2 : (natS d).size ≤ k) : L (mkRat n d) ≤ k := by
  have e1 : (mkRat n d).num.natAbs ≤ n.natAbs := by
    rw [Rat.num_mkRat, if_neg hd, Int.natAbs_ediv_of_dvd]
    · exact Nat.div_le_self _ _
    · exact Int.dvd_natAbs.1 (Int.natCast_dvd_natCast.2 (Nat.gcd_dvd_right _ _))
  have e2 : (mkRat n d).den ≤ d := by rw [Rat.den_mkRat, if_neg hd]; exact Nat.div_le_self _ _
  unfold L
  have := natS_size_mono e1
  have := natS_size_mono e2
  omega
theorem L_add (p q : Rat) : L (p + q) ≤ L p + L q + 1 := by
  rw [Rat.add_def']
  have a1 := L_num p
  have a2 := L_num q
  have a3 := L_den p
  have a4 := L_den q
  refine L_mkRat _ (Nat.mul_ne_zero p.den_nz q.den_nz) ?_ ?_
  · have h : (p.num * q.den + q.num * p.den).natAbs ≤ p.num.natAbs * q.den + q.num.natAbs * p.den := by
      refine Nat.le_trans (Int.natAbs_add_le _ _) ?_
      rw [Int.natAbs_mul, Int.natAbs_mul, Int.natAbs_natCast, Int.natAbs_natCast]
      exact Nat.le_refl _
    have h1 := natS_size_mono h
    have h2 := natS_size_add (p.num.natAbs * q.den) (q.num.natAbs * p.den)
    have h3 := natS_size_mul p.num.natAbs q.den
    have h4 := natS_size_mul q.num.natAbs p.den
    omega
  · have := natS_size_mul p.den q.den
    omega
theorem L_neg (q : Rat) : L (-q) = L q := by unfold L; rw [Rat.neg_num, Rat.neg_den, Int.natAbs_neg]
theorem L_sub (p q : Rat) : L (p - q) ≤ L p + L q + 1 := by rw [Rat.sub_eq_add_neg, ← L_neg q]; exact L_add p (-q)
def sgnQ (q : Rat) : Int := if q.num = 0 then 0 else if q.num < 0 then -1 else 1
def cmpQ (p q : Rat) : Int := if p < q then -1 else if q < p then 1 else 0
theorem num_neg {q : Rat} : q.num < 0 ↔ q < 0 := by
  have := Rat.lt_iff q 0
  simp only [Rat.zero_num, Rat.zero_den, Int.zero_mul] at this
  simpa using this.symm
theorem sgnQ_neg {q : Rat} : sgnQ q < 0 ↔ q < 0 := by
  rw [← num_neg]; unfold sgnQ; split <;> (try split) <;> omega
theorem sgnQ_zero {q : Rat} : sgnQ q = 0 ↔ q = 0 := by
  rw [← Rat.num_eq_zero]; unfold sgnQ; split <;> (try split) <;> omega
theorem sgnQ_pos {q : Rat} : 0 < sgnQ q ↔ 0 < q := by
  have h1 := sgnQ_neg (q := q)
  have h2 := sgnQ_zero (q := q)
  constructor
  · intro h
    rcases Rat.le_iff_lt_or_eq.1 (Rat.not_lt.1 (fun g => by have := h1.2 g; omega : ¬ q < 0)) with g | g
    · exact g
    · exfalso; have := h2.2 g.symm; omega
  · intro h
    have g1 : ¬ sgnQ q < 0 := fun g => Rat.lt_irrefl (a := (0 : Rat)) (by have := h1.1 g; grind)
    have g2 : ¬ sgnQ q = 0 := fun g => by have := h2.1 g; rw [this] at h; exact Rat.lt_irrefl h
    omega
theorem sgnQ_range (q : Rat) : sgnQ q = -1 ∨ sgnQ q = 0 ∨ sgnQ q = 1 := by unfold sgnQ; split <;> (try split) <;> simp
theorem cmpQ_lt {p q : Rat} (h : p < q) : cmpQ p q = -1 := by unfold cmpQ; rw [if_pos h]
theorem cmpQ_gt {p q : Rat} (h : q < p) : cmpQ p q = 1 := by unfold cmpQ; rw [if_neg (by grind), if_pos h]
theorem cmpQ_eq {p : Rat} : cmpQ p p = 0 := by unfold cmpQ; rw [if_neg Rat.lt_irrefl, if_neg Rat.lt_irrefl]
theorem cmpQ_cases (p q : Rat) : (p < q ∧ cmpQ p q = -1) ∨ (p = q ∧ cmpQ p q = 0) ∨ (q < p ∧ cmpQ p q = 1) := by
  rcases Rat.le_total (a := p) (b := q) with h | h
  · rcases Rat.le_iff_lt_or_eq.1 h with g | g
    · exact .inl ⟨g, cmpQ_lt g⟩
    · subst g; exact .inr (.inl ⟨rfl, cmpQ_eq⟩)
  · rcases Rat.le_iff_lt_or_eq.1 h with g | g
    · exact .inr (.inr ⟨g, cmpQ_gt g⟩)
    · subst g; exact .inr (.inl ⟨rfl, cmpQ_eq⟩)
theorem cmpQ_neg {p q : Rat} : cmpQ p q < 0 ↔ p < q := by
  rcases cmpQ_cases p q with ⟨h, e⟩ | ⟨h, e⟩ | ⟨h, e⟩ <;> rw [e]
  · exact ⟨fun _ => h, fun _ => by decide⟩
  · subst h; exact ⟨fun h => absurd h (by decide), fun h => absurd h Rat.lt_irrefl⟩
  · exact ⟨fun h => absurd h (by decide), fun g => absurd g (by grind)⟩
theorem cmpQ_pos {p q : Rat} : 0 < cmpQ p q ↔ q < p := by
  rcases cmpQ_cases p q with ⟨h, e⟩ | ⟨h, e⟩ | ⟨h, e⟩ <;> rw [e]
  · exact ⟨fun h => absurd h (by decide), fun g => absurd g (by grind)⟩
  · subst h; exact ⟨fun h => absurd h (by decide), fun h => absurd h Rat.lt_irrefl⟩
  · exact ⟨fun _ => h, fun _ => by decide⟩
theorem cmpQ_le {p q : Rat} : cmpQ p q ≤ 0 ↔ p ≤ q := by rw [← Int.not_lt, cmpQ_pos, Rat.not_lt]
theorem cmpQ_ge {p q : Rat} : 0 ≤ cmpQ p q ↔ q ≤ p := by rw [← Int.not_lt, cmpQ_neg, Rat.not_lt]
theorem sg_num (q : Rat) : sg (decide (q.num < 0)) q.num.natAbs = q.num := by
  unfold sg
  by_cases h : q.num < 0 <;> simp [h] <;> omega
theorem mkRat_sg (q : Rat) : mkRat (sg (decide (q.num < 0)) q.num.natAbs) q.den = q := by rw [sg_num, Rat.mkRat_self]
theorem mkRat_sg_mul (q : Rat) {e : Nat} (he : e ≠ 0) : mkRat (sg (decide (q.num < 0)) (q.num.natAbs * e)) (q.den * e) = q := by
  have h : sg (decide (q.num < 0)) (q.num.natAbs * e) = q.num * (e : Int) := by
    conv => rhs; rw [← sg_num q]
    unfold sg
    split
    · rw [Int.natCast_mul, Int.neg_mul]
    · rw [Int.natCast_mul]
  rw [h, Rat.mkRat_mul_right he, Rat.mkRat_self]
theorem mkRat_add_same (a b : Int) {D : Nat} (hD : D ≠ 0) : mkRat a D + mkRat b D = mkRat (a + b) D := by
  rw [Rat.mkRat_add_mkRat _ _ hD hD, ← Int.add_mul, Rat.mkRat_mul_right hD]
theorem sg_add (b : Bool) (X Y : Nat) : sg b X + sg b Y = sg b (X + Y) := by unfold sg; split <;> (push_cast; omega)
theorem sg_sub {b c : Bool} (h : b ≠ c) {X Y : Nat} (hle : Y ≤ X) : sg b X + sg c Y = sg b (X - Y) := by
  cases b <;> cases c <;> first | exact absurd rfl h | (simp [sg]; omega)
theorem sg_sub' {b c : Bool} (h : b ≠ c) {X Y : Nat} (hle : X ≤ Y) : sg b X + sg c Y = sg c (Y - X) := by
  cases b <;> cases c <;> first | exact absurd rfl h | (simp [sg]; omega)
theorem ofQ_den_inj {p q : Rat} : (ofQ p).den = (ofQ q).den ↔ p.den = q.den := by
  show (if p.den = 1 then _ else _) = (if q.den = 1 then _ else _) ↔ _
  have h1 : ∀ (d : Nat), d ≠ 0 → natS d ≠ ⟨#[]⟩ := fun d hd h => hd (natS_nil.1 h)
  by_cases hp : p.den = 1
  · by_cases hq : q.den = 1
    · simp [hp, hq]
    · rw [if_pos hp, if_neg hq]
      exact ⟨fun h => absurd h.symm (h1 _ q.den_nz), fun h => absurd (h.symm.trans hp) hq⟩
  · by_cases hq : q.den = 1
    · rw [if_neg hp, if_pos hq]
      exact ⟨fun h => absurd h (h1 _ p.den_nz), fun h => absurd (h.trans hq) hp⟩
    · rw [if_neg hp, if_neg hq]
      exact ⟨fun h => natS_inj h, fun h => by rw [h]⟩
end Go.Sx
namespace Go.Proofs.YtmghobajmhdbfaaGreatDoor
open Go Go.Sx
theorem vi_3 : vinfo Tryz.prog 3 = some (1, false, [.int .i64 0]) := by kernel_rfl
theorem vi_4 : vinfo Tryz.prog 4 = some (1, false, [.bool false]) := by kernel_rfl
theorem vi_5 : vinfo Tryz.prog 5 = some (1, false, [.int .u8 0]) := by kernel_rfl
theorem vi_9 : vinfo Tryz.prog 9 = some (1, false, [.string ⟨#[]⟩]) := by kernel_rfl
theorem si_22 : sinfo Tryz.prog 22 = some (59, 6, 12, [.int .u16 0, .int .u16 0, .int .u16 0, .int .u16 0, .int .u16 0, .int .u16 0]) := by kernel_rfl
theorem si_23 : sinfo Tryz.prog 23 = some (58, 1, 2, [.int .u16 0]) := by kernel_rfl
theorem si_24 : sinfo Tryz.prog 24 = some (36, 3, 40, [.bool false, .string ⟨#[]⟩, .string ⟨#[]⟩]) := by kernel_rfl
theorem vi_24 : vinfo Tryz.prog 24 = some (1, false, [.slice none 0 0]) := by kernel_rfl
theorem si_26 : sinfo Tryz.prog 26 = some (41, 7, 104, [.bool false, .string ⟨#[]⟩, .string ⟨#[]⟩, .bool false, .string ⟨#[]⟩, .string ⟨#[]⟩, .slice none 0 0]) := by kernel_rfl
theorem si_28 : sinfo Tryz.prog 28 = some (24, 1, 24, [.slice none 0 0]) := by kernel_rfl
theorem vi_28 : vinfo Tryz.prog 28 = some (1, false, [.slice none 0 0]) := by kernel_rfl
theorem vi_36 : vinfo Tryz.prog 36 = some (3, true, [.bool false, .string ⟨#[]⟩, .string ⟨#[]⟩]) := by kernel_rfl
theorem fo_36_0 : foff Tryz.prog 36 0 = some 0 := by kernel_rfl
theorem fo_36_1 : foff Tryz.prog 36 1 = some 1 := by kernel_rfl
theorem fo_36_2 : foff Tryz.prog 36 2 = some 2 := by kernel_rfl
theorem bz_36 : Tryz.prog.built 36 [] = some #[.bool false, .string ⟨#[]⟩, .string ⟨#[]⟩] := by kernel_rfl
theorem si_39 : sinfo Tryz.prog 39 = some (62, 6, 64, [.int .i64 0, .int .i64 0, .bool false, .bool false, .string ⟨#[]⟩, .string ⟨#[]⟩]) := by kernel_rfl
theorem vi_39 : vinfo Tryz.prog 39 = some (1, false, [.slice none 0 0]) := by kernel_rfl
theorem vi_41 : vinfo Tryz.prog 41 = some (7, true, [.bool false, .string ⟨#[]⟩, .string ⟨#[]⟩, .bool false, .string ⟨#[]⟩, .string ⟨#[]⟩, .slice none 0 0]) := by kernel_rfl
theorem fo_41_0 : foff Tryz.prog 41 0 = some 0 := by kernel_rfl
theorem fo_41_1 : foff Tryz.prog 41 1 = some 3 := by kernel_rfl
theorem fo_41_2 : foff Tryz.prog 41 2 = some 6 := by kernel_rfl
theorem si_47 : sinfo Tryz.prog 47 = some (3, 1, 8, [.int .i64 0]) := by kernel_rfl
theorem vi_58 : vinfo Tryz.prog 58 = some (1, false, [.int .u16 0]) := by kernel_rfl
theorem vi_59 : vinfo Tryz.prog 59 = some (6, true, [.int .u16 0, .int .u16 0, .int .u16 0, .int .u16 0, .int .u16 0, .int .u16 0]) := by kernel_rfl
theorem vi_62 : vinfo Tryz.prog 62 = some (6, true, [.int .i64 0, .int .i64 0, .bool false, .bool false, .string ⟨#[]⟩, .string ⟨#[]⟩]) := by kernel_rfl
theorem fo_62_0 : foff Tryz.prog 62 0 = some 0 := by kernel_rfl
theorem fo_62_2 : foff Tryz.prog 62 2 = some 2 := by kernel_rfl
theorem fo_62_3 : foff Tryz.prog 62 3 = some 3 := by kernel_rfl
theorem si_65 : sinfo Tryz.prog 65 = some (85, 1, 8, [.int .u64 0]) := by kernel_rfl
theorem vi_65 : vinfo Tryz.prog 65 = some (1, false, [.slice none 0 0]) := by kernel_rfl
theorem vi_67 : vinfo Tryz.prog 67 = some (3, true, [.slice none 0 0, .slice none 0 0, .slice none 0 0]) := by kernel_rfl
theorem fo_67_0 : foff Tryz.prog 67 0 = some 0 := by kernel_rfl
theorem fo_67_1 : foff Tryz.prog 67 1 = some 1 := by kernel_rfl
theorem fo_67_2 : foff Tryz.prog 67 2 = some 2 := by kernel_rfl
theorem fo_70_0 : foff Tryz.prog 70 0 = some 0 := by kernel_rfl
theorem fo_70_1 : foff Tryz.prog 70 1 = some 3 := by kernel_rfl
theorem fo_70_2 : foff Tryz.prog 70 2 = some 4 := by kernel_rfl
theorem si_81 : sinfo Tryz.prog 81 = some (4, 1, 1, [.bool false]) := by kernel_rfl
theorem vi_85 : vinfo Tryz.prog 85 = some (1, false, [.int .u64 0]) := by kernel_rfl
theorem si_91 : sinfo Tryz.prog 91 = some (94, 1, 4, [.int .u32 0]) := by kernel_rfl
theorem si_92 : sinfo Tryz.prog 92 = some (94, 1, 4, [.int .u32 0]) := by kernel_rfl
theorem vi_94 : vinfo Tryz.prog 94 = some (1, false, [.int .u32 0]) := by kernel_rfl
theorem si_114 : sinfo Tryz.prog 114 = some (5, 1, 1, [.int .u8 0]) := by kernel_rfl
end Go.Proofs.YtmghobajmhdbfaaGreatDoor
namespace Go.Proofs.YtmghobajmhdbfaaGreatDoor
open Go Go.RowKit Go.Sx
/-- What is left of a string behind its first k bytes. -/
theorem drop_one (s : ByteArray) (k : Nat) (hk : k < s.size) : (s.extract k s.size).extract 1 (s.extract k s.size).size = s.extract (k + 1) s.size := by
  have hsz : (s.extract k s.size).size = s.size - k := by simp
  rw [hsz]
  apply ByteArray.ext
  simp only [ByteArray.data_extract, Array.extract_extract]
  congr 1
  omega
theorem sbytes_drop (s : ByteArray) (k : Nat) : sbytes (s.extract k s.size) = (sbytes s).drop k := by
  unfold sbytes
  rw [ByteArray.data_extract, Array.toList_extract, List.extract, List.map_take, List.map_drop, List.take_of_length_le]
  have h : (s.data.toList.map UInt8.toNat).length = s.size := sbytes_length s
  rw [List.length_drop, h]; omega
theorem sbytes_get (s : ByteArray) (i : Nat) (h : i < s.size) : (sbytes s)[i]'(by rw [sbytes_length]; exact h) = (s[i]).toNat := by
  unfold sbytes
  rw [List.getElem_map]; rfl
theorem zdrop_val (s : ByteArray) (k : Nat) (hk : k ≤ s.size) (hz : ∀ i (_ : i < k) (h : i < s.size), s[i] = 0) (hn : k = s.size ∨ ∃ h : k < s.size, s[k] ≠ 0) : s.extract k s.size = natS (val s) := by
  have hl : (sbytes s).length = s.size := sbytes_length s
  have h1 := sbytes_drop s k
  have h2 : ((sbytes s).drop k).reverse = digs 256 (val s) := by
    have h3 : (sbytes s).reverse = ((sbytes s).drop k).reverse ++ List.replicate k 0 := by
      have h5 : (sbytes s).take k = List.replicate k 0 := by
        apply List.ext_getElem
        · rw [List.length_take, List.length_replicate, hl]; omega
        · intro i g1 g2
          rw [List.getElem_take, List.getElem_replicate]
          have hi : i < k := by rw [List.length_replicate] at g2; exact g2
          rw [sbytes_get s i (by omega), hz i hi (by omega)]; rfl
      conv => lhs; rw [← List.take_append_drop k (sbytes s), List.reverse_append, h5, List.reverse_replicate]
    have h4 : val s = ofDigs 256 ((sbytes s).drop k).reverse := by
      unfold val
      rw [h3, ofDigs_append, ofDigs_zeros, Nat.mul_zero, Nat.add_zero]
    rw [h4, digs_ofDigs (by decide) _ (fun d hd => sbytes_lt s d (List.mem_of_mem_drop (List.mem_reverse.1 hd)))]
    unfold trimmed
    rw [List.getLast?_reverse, List.head?_drop]
    rcases hn with rfl | ⟨h, hne⟩
    · rw [List.getElem?_eq_none (by omega)]; simp
    · rw [List.getElem?_eq_getElem (by omega), sbytes_get s k h]
      intro h0
      apply hne
      have : (s[k]).toNat = 0 := Option.some.inj h0
      exact UInt8.toNat_inj.1 (by rw [this]; rfl)
  rw [← bstr_sbytes (s.extract k s.size), h1, natS, ← h2, List.reverse_reverse]
theorem trimLeftByte_ok (s : ByteArray) (w : World) (hs : s.size ≤ 9223372036854775807) :
    Ret Tryz.prog 107 #[.string s, .int .u8 0] w fun v w' => v = .string (natS (val s)) ∧ w' = w := by
  refine enter Tryz.func107 rfl Tryz.ntmps107 rfl ?_
  repeat (with_reducible first | refine c_seq ?_ | refine c_block ?_ | refine c_skip ?_ | refine x_then ?_ | refine x_block ?_)
  refine c_reg ?_
  refine l_pure rfl (s_asg  rfl ?_)
  refine l_nil ?_
  repeat (with_reducible first | refine c_seq ?_ | refine c_block ?_ | refine c_skip ?_ | refine x_then ?_ | refine x_block ?_)
  refine c_loop (σ := Nat) (fun k ρ w' => k ≤ s.size ∧ (∀ i (_ : i < k) (h : i < s.size), s[i] = 0) ∧ ρ 0 = .string (s.extract k s.size) ∧ ρ 1 = .int .u8 0 ∧ w' = w) (fun k => s.size - k) 0
    ⟨by omega, fun i h => by omega, congrArg Value.string (by rw [ByteArray.extract_zero_size]), rfl, rfl⟩ ?_
  rintro k ρ w' ⟨hk, hz, h0, h1, rfl⟩
  have hsz : (s.extract k s.size).size = s.size - k := by simp
  by_cases hlt : k < s.size
  · have hpos : 0 < (s.extract k s.size).size := by omega
    have hget : (s.extract k s.size)[0] = s[k] := by rw [ByteArray.getElem_extract]; rfl
    repeat (with_reducible first | refine c_seq ?_ | refine c_block ?_ | refine c_skip ?_ | refine x_then ?_ | refine x_block ?_)
    refine c_reg ?_
    refine l_pure rfl (s_move  h0 ?_)
    refine l_pure rfl (s_lens  rfl Tryz.underlying9 ?_)
    refine l_pure rfl (s_gtr  rfl rfl ?_)
    refine l_pure rfl (s_move  rfl ?_)
    refine l_pure (gd_yes 8 (by kernel_rfl) rfl (decide_eq_true (by omega))) (s_move  h0 ?_)
    refine l_pure (gd_yes 8 (by kernel_rfl) rfl (decide_eq_true (by omega))) (s_ixs (i := 0)  rfl rfl (by omega) (by omega) Tryz.underlying9 ?_)
    refine l_pure (gd_yes 8 (by kernel_rfl) rfl (decide_eq_true (by omega))) (s_move  h1 ?_)
    refine l_pure (gd_yes 8 (by kernel_rfl) rfl (decide_eq_true (by omega))) (s_eql  rfl rfl ?_)
    refine l_pure rfl (s_pick (vb rfl (decide_eq_true (by omega))) rfl ?_)
    refine l_nil ?_
    repeat (with_reducible first | refine c_seq ?_ | refine c_block ?_ | refine c_skip ?_ | refine x_then ?_ | refine x_block ?_)
    refine c_if _ rfl (fun h => ?_) (fun h => ?_)
    · refine c_skip (x_then (c_block ?_))
      repeat (with_reducible first | refine c_seq ?_ | refine c_block ?_ | refine c_skip ?_ | refine x_then ?_ | refine x_block ?_)
      refine c_reg ?_
      refine l_pure rfl (s_move  h0 ?_)
      refine l_pure rfl (s_slcsl (lo := 1)  rfl rfl rfl (by omega) Tryz.underlying9 ?_)
      refine l_pure rfl (s_asg  rfl ?_)
      refine l_nil ?_
      repeat (with_reducible first | refine c_seq ?_ | refine c_block ?_ | refine c_skip ?_ | refine x_then ?_ | refine x_block ?_)
      refine ⟨k + 1, _, rfl, ⟨by omega, fun i hi hi' => ?_, congrArg Value.string (drop_one s k hlt), h1, rfl⟩, by omega⟩
      rcases Nat.lt_or_ge i k with h2 | h2
      · exact hz i h2 hi'
      · obtain rfl : i = k := by omega
        rw [← hget]
        exact UInt8.toNat_inj.1 (by have h := h; simp at h; exact h)
    · refine c_exit ?_
      repeat (with_reducible first | refine x_then_exit ?_ | refine x_block_exit ?_ | refine x_block_pass rfl ?_)
      repeat (with_reducible first | refine c_seq ?_ | refine c_block ?_ | refine c_skip ?_ | refine x_then ?_ | refine x_block ?_)
      refine c_reg ?_
      refine l_pure rfl (s_move  h0 ?_)
      refine l_pure rfl (s_asg  rfl ?_)
      refine l_nil ?_
      repeat (with_reducible first | refine c_seq ?_ | refine c_block ?_ | refine c_skip ?_ | refine x_then ?_ | refine x_block ?_)
      refine c_ret ?_
      repeat (with_reducible first | refine x_then ?_ | refine x_block ?_ | refine x_then_ret ?_ | refine x_block_ret ?_ | refine x_then_exit ?_ | refine x_block_exit ?_ | refine x_block_pass rfl ?_)
      refine r_one rfl rfl ⟨congrArg Value.string (zdrop_val s k hk hz (.inr ⟨hlt, fun h2 => h ?_⟩)), rfl⟩
      rw [hget, h2]; rfl
  · repeat (with_reducible first | refine c_seq ?_ | refine c_block ?_ | refine c_skip ?_ | refine x_then ?_ | refine x_block ?_)
    refine c_reg ?_
    refine l_pure rfl (s_move  h0 ?_)
    refine l_pure rfl (s_lens  rfl Tryz.underlying9 ?_)
    refine l_pure rfl (s_gtr  rfl rfl ?_)
    refine l_pure rfl (s_move  rfl ?_)
    refine l_no (gno_yes 8 (by kernel_rfl) rfl (decide_eq_false (by omega))) ?_
    refine l_no (gno_yes 8 (by kernel_rfl) rfl (decide_eq_false (by omega))) ?_
    refine l_no (gno_yes 8 (by kernel_rfl) rfl (decide_eq_false (by omega))) ?_
    refine l_no (gno_yes 8 (by kernel_rfl) rfl (decide_eq_false (by omega))) ?_
    refine l_pure rfl (s_pick (vb rfl (decide_eq_false (by omega))) rfl ?_)
    refine l_nil ?_
    repeat (with_reducible first | refine c_seq ?_ | refine c_block ?_ | refine c_skip ?_ | refine x_then ?_ | refine x_block ?_)
    refine c_no rfl (rfl) ?_
    repeat (with_reducible first | refine c_seq ?_ | refine c_block ?_ | refine c_skip ?_ | refine x_then ?_ | refine x_block ?_)
    refine c_exit ?_
    repeat (with_reducible first | refine x_then_exit ?_ | refine x_block_exit ?_ | refine x_block_pass rfl ?_)
    repeat (with_reducible first | refine c_seq ?_ | refine c_block ?_ | refine c_skip ?_ | refine x_then ?_ | refine x_block ?_)
    refine c_reg ?_
    refine l_pure rfl (s_move  h0 ?_)
    refine l_pure rfl (s_asg  rfl ?_)
    refine l_nil ?_
    repeat (with_reducible first | refine c_seq ?_ | refine c_block ?_ | refine c_skip ?_ | refine x_then ?_ | refine x_block ?_)
    refine c_ret ?_
    repeat (with_reducible first | refine x_then ?_ | refine x_block ?_ | refine x_then_ret ?_ | refine x_block_ret ?_ | refine x_then_exit ?_ | refine x_block_exit ?_ | refine x_block_pass rfl ?_)
    exact r_one rfl rfl ⟨congrArg Value.string (zdrop_val s k hk hz (.inl (by omega))), rfl⟩
theorem TrimLeft_ok (s : ByteArray) (w : World) (hs : s.size ≤ 9223372036854775807) :
    Ret Tryz.prog 88 #[.string s, .string ⟨#[0]⟩] w fun v w' => v = .string (natS (val s)) ∧ w' = w := by
  refine enter Tryz.func88 rfl Tryz.ntmps88 rfl ?_
  repeat (with_reducible first | refine c_seq ?_ | refine c_block ?_ | refine c_skip ?_ | refine x_then ?_ | refine x_block ?_)
  refine c_reg ?_
  refine l_pure rfl (s_asg  rfl ?_)
  refine l_nil ?_
  repeat (with_reducible first | refine c_seq ?_ | refine c_block ?_ | refine c_skip ?_ | refine x_then ?_ | refine x_block ?_)
  by_cases he : s = ⟨#[]⟩
  · repeat (with_reducible first | refine c_seq ?_ | refine c_block ?_ | refine c_skip ?_ | refine x_then ?_ | refine x_block ?_)
    refine c_reg ?_
    refine l_pure rfl (s_move  rfl ?_)
    refine l_pure rfl (s_eqs  rfl rfl ?_)
    refine l_pure rfl (s_move  rfl ?_)
    refine l_no (gno_yes 9 (by kernel_rfl) rfl (decide_eq_true he)) ?_
    refine l_no (gno_yes 9 (by kernel_rfl) rfl (decide_eq_true he)) ?_
    refine l_pure rfl (s_pick (vb rfl (decide_eq_true he)) rfl ?_)
    refine l_nil ?_
    repeat (with_reducible first | refine c_seq ?_ | refine c_block ?_ | refine c_skip ?_ | refine x_then ?_ | refine x_block ?_)
    refine c_yes rfl (rfl) ?_
    repeat (with_reducible first | refine c_seq ?_ | refine c_block ?_ | refine c_skip ?_ | refine x_then ?_ | refine x_block ?_)
    refine c_reg ?_
    refine l_pure rfl (s_move  rfl ?_)
    refine l_pure rfl (s_asg  rfl ?_)
    refine l_nil ?_
    repeat (with_reducible first | refine c_seq ?_ | refine c_block ?_ | refine c_skip ?_ | refine x_then ?_ | refine x_block ?_)
    refine c_ret ?_
    repeat (with_reducible first | refine x_then_ret ?_ | refine x_block_ret ?_)
    refine r_one rfl rfl ?_
    refine ⟨congrArg Value.string ?_, rfl⟩
    rw [he]; exact natS_zero.symm
  · have h0 : ¬ ((⟨#[0]⟩ : ByteArray) = ⟨#[]⟩) := by intro h; cases h
    repeat (with_reducible first | refine c_seq ?_ | refine c_block ?_ | refine c_skip ?_ | refine x_then ?_ | refine x_block ?_)
    refine c_reg ?_
    refine l_pure rfl (s_move  rfl ?_)
    refine l_pure rfl (s_eqs  rfl rfl ?_)
    refine l_pure rfl (s_move  rfl ?_)
    refine l_pure (gd_yes 9 (by kernel_rfl) rfl (decide_eq_false he)) (s_move  rfl ?_)
    refine l_pure (gd_yes 9 (by kernel_rfl) rfl (decide_eq_false he)) (s_eqs  rfl rfl ?_)
    refine l_pure rfl (s_pick (vb rfl (decide_eq_false he)) rfl ?_)
    refine l_nil ?_
    repeat (with_reducible first | refine c_seq ?_ | refine c_block ?_ | refine c_skip ?_ | refine x_then ?_ | refine x_block ?_)
    refine c_no rfl (decide_eq_false h0) ?_
    repeat (with_reducible first | refine c_seq ?_ | refine c_block ?_ | refine c_skip ?_ | refine x_then ?_ | refine x_block ?_)
    refine c_reg ?_
    refine l_pure rfl (s_move  rfl ?_)
    refine l_pure rfl (s_lens  rfl Tryz.underlying9 ?_)
    refine l_pure rfl (s_eql  rfl rfl ?_)
    refine l_pure rfl (s_move  rfl ?_)
    refine l_pure (gd_yes 17 (by kernel_rfl) rfl rfl) (s_move  rfl ?_)
    refine l_pure (gd_yes 17 (by kernel_rfl) rfl rfl) (s_ixs (i := 0)  rfl rfl rfl (by decide) Tryz.underlying9 ?_)
    refine l_pure (gd_yes 17 (by kernel_rfl) rfl rfl) (s_lss  rfl rfl ?_)
    refine l_pure rfl (s_pick (vb rfl rfl) rfl ?_)
    refine l_nil ?_
    repeat (with_reducible first | refine c_seq ?_ | refine c_block ?_ | refine c_skip ?_ | refine x_then ?_ | refine x_block ?_)
    refine c_yes rfl (by decide +kernel) ?_
    repeat (with_reducible first | refine c_seq ?_ | refine c_block ?_ | refine c_skip ?_ | refine x_then ?_ | refine x_block ?_)
    refine c_reg ?_
    refine l_pure rfl (s_move  rfl ?_)
    refine l_pure rfl (s_move  rfl ?_)
    refine l_pure rfl (s_ixs (i := 0)  rfl rfl rfl (by decide) Tryz.underlying9 ?_)
    refine l_heavy rfl (s_call Tryz.call107 rfl (trimLeftByte_ok s w hs) ?_)
    rintro v w' ⟨rfl, rfl⟩
    refine l_pure rfl (s_asg  rfl ?_)
    refine l_nil ?_
    repeat (with_reducible first | refine c_seq ?_ | refine c_block ?_ | refine c_skip ?_ | refine x_then ?_ | refine x_block ?_)
    refine c_ret ?_
    repeat (with_reducible first | refine x_then_ret ?_ | refine x_block_ret ?_)
    refine r_one rfl rfl ?_
    exact ⟨rfl, rfl⟩
theorem Normalize_ok (s : ByteArray) (w : World) (hs : s.size ≤ 9223372036854775807) :
    Ret Tryz.prog 59 #[.string s] w fun v w' => v = .string (natS (val s)) ∧ w' = w := by
  refine enter Tryz.func59 rfl Tryz.ntmps59 rfl ?_
  repeat (with_reducible first | refine c_seq ?_ | refine c_block ?_ | refine c_skip ?_ | refine x_then ?_ | refine x_block ?_)
  refine c_reg ?_
  refine l_pure rfl (s_asg  rfl ?_)
  refine l_nil ?_
  repeat (with_reducible first | refine c_seq ?_ | refine c_block ?_ | refine c_skip ?_ | refine x_then ?_ | refine x_block ?_)
  refine c_reg ?_
  refine l_pure rfl (s_move  rfl ?_)
  refine l_heavy rfl (s_call Tryz.call88 rfl (TrimLeft_ok s w hs) ?_)
  rintro v w' ⟨rfl, rfl⟩
  refine l_pure rfl (s_asg  rfl ?_)
  refine l_nil ?_
  repeat (with_reducible first | refine c_seq ?_ | refine c_block ?_ | refine c_skip ?_ | refine x_then ?_ | refine x_block ?_)
  refine c_ret ?_
  repeat (with_reducible first | refine x_then_ret ?_ | refine x_block_ret ?_)
  refine r_one rfl rfl ?_
  exact ⟨rfl, rfl⟩
end Go.Proofs.YtmghobajmhdbfaaGreatDoor
namespace Go.Proofs.YtmghobajmhdbfaaGreatDoor
open Go Go.RowKit Go.Sx
theorem wr_i64 {m : Int} (r : Int) (h : m = r ∧ -9223372036854775808 ≤ r ∧ r ≤ 9223372036854775807) : IntKind.i64.wrap m = r := by
  obtain ⟨rfl, h1⟩ := h; exact IntWalk.i64_in _ h1
theorem wr_u64 {m : Int} (r : Int) (h : m = r ∧ 0 ≤ r ∧ r ≤ 18446744073709551615) : IntKind.u64.wrap m = r := by
  obtain ⟨rfl, h1⟩ := h; exact IntWalk.u64_in _ h1
theorem wr_u32 {m : Int} (r : Int) (h : m = r ∧ 0 ≤ r ∧ r ≤ 4294967295) : IntKind.u32.wrap m = r := by
  obtain ⟨rfl, h1⟩ := h; exact IntWalk.u32_in _ h1
theorem u32_mod (n : Nat) : IntKind.u32.wrap (n : Int) = ((n % 4294967296 : Nat) : Int) := by rw [wrapm_u32]; omega
theorem u8_mod (n : Nat) : IntKind.u8.wrap (n : Int) = ((n % 256 : Nat) : Int) := by rw [wrapm_u8]; omega
/-- A shift to the left by a number that is not written out. -/
theorem shl_v {k : IntKind} (m c : Nat) (r : Int) (hc : c ≤ k.bits) (hr : k.wrap ((m * 2 ^ c : Nat) : Int) = r) : k.wrap ((m : Int) * 2 ^ (min ((c : Int)).toNat k.bits)) = r := by
  rw [Int.toNat_natCast, Nat.min_eq_left hc, ← hr]; push_cast; rfl
theorem shr_v {k : IntKind} (m c : Nat) (hc : c ≤ k.bits) : (m : Int).fdiv (2 ^ (min ((c : Int)).toNat k.bits)) = ((m / 2 ^ c : Nat) : Int) := by
  rw [shr_n (k := k) (m : Int) c hc]; push_cast; rfl
theorem St.atk {w0 w : World} {H : List Blk} {b k : Nat} {t : TypeId} {kk : IntKind} {L : List Nat} (h : St w0 w H) (hk : H[k]? = some (b, t, Kr kk L)) : At w ⟨b, 0, none⟩ (Kr kk L) := by
  have := h.at hk 0 (Kr kk L).length
  rwa [List.drop_zero, List.take_length] at this
theorem bstr_size (L : List Nat) : (bstr L).size = L.length := by
  show ((L.map UInt8.ofNat).toArray).size = _
  simp
/-- Digit j of a number. -/
def dgt (b v j : Nat) : Nat := v / b ^ j % b
theorem dgt_lt {b : Nat} (hb : 0 < b) (v j : Nat) : dgt b v j < b := Nat.mod_lt _ hb
/-- The n lowest digits of a number. -/
def pad (b v n : Nat) : List Nat := (List.range n).map (dgt b v)
@[simp] theorem pad_length (b v n : Nat) : (pad b v n).length = n := by simp [pad]
theorem pad_getD (b v : Nat) {n j : Nat} (h : j < n) : (pad b v n).getD j 0 = dgt b v j := by simp [pad, List.getD, h]
theorem pad_lt {b : Nat} (hb : 0 < b) (v n : Nat) : ∀ d ∈ pad b v n, d < b := by
  intro d hd
  obtain ⟨j, _, rfl⟩ := List.mem_map.1 hd
  exact dgt_lt hb v j
theorem pad_succ (b v n : Nat) : pad b v (n + 1) = (v % b) :: pad b (v / b) n := by
  unfold pad
  rw [List.range_succ_eq_map, List.map_cons, List.map_map]
  congr 1
  · simp [dgt]
  · apply List.map_congr_left
    intro j _
    simp [dgt, Nat.div_div_eq_div_mul, Nat.pow_succ, Nat.mul_comm]
theorem ofDigs_pad {b : Nat} (n : Nat) : ∀ v, ofDigs b (pad b v n) = v % b ^ n := by
  induction n with
  | zero => intro v; simp [pad, ofDigs, Nat.mod_one]
  | succ n ih =>
    intro v
    rw [pad_succ]
    show v % b + b * ofDigs b (pad b (v / b) n) = _
    rw [ih, Nat.pow_succ, Nat.mul_comm (b ^ n) b, Nat.mod_mul]
theorem ofDigs_pad_lt {b v n : Nat} (h : v < b ^ n) : ofDigs b (pad b v n) = v := by rw [ofDigs_pad, Nat.mod_eq_of_lt h]
/-- The digits of a row of digits. -/
theorem ofDigs_dgt {b : Nat} (hb : 0 < b) : ∀ (L : List Nat) (_ : ∀ d ∈ L, d < b) (j : Nat), dgt b (ofDigs b L) j = L.getD j 0
  | [], _, j => by simp [dgt, ofDigs, Nat.zero_div, Nat.zero_mod]
  | d :: L, h, 0 => by
    show (d + b * ofDigs b L) / b ^ 0 % b = d
    rw [Nat.pow_zero, Nat.div_one, Nat.add_mul_mod_self_left, Nat.mod_eq_of_lt (h d (by simp))]
  | d :: L, h, j + 1 => by
    have ih := ofDigs_dgt hb L (fun d hd => h d (by simp [hd])) j
    show (d + b * ofDigs b L) / b ^ (j + 1) % b = _
    rw [Nat.pow_succ, Nat.mul_comm (b ^ j) b, ← Nat.div_div_eq_div_mul, Nat.add_mul_div_left _ _ hb, Nat.div_eq_of_lt (h d (by simp)), Nat.zero_add]
    simpa [dgt] using ih
theorem digs_getD {b : Nat} (hb : 2 ≤ b) (v j : Nat) : (digs b v).getD j 0 = dgt b v j := by
  rw [← ofDigs_dgt (by omega) (digs b v) (digs_lt hb v), ofDigs_digs hb]
theorem eq_pad {b v : Nat} {L : List Nat} (h : ∀ j, j < L.length → L.getD j 0 = dgt b v j) : L = pad b v L.length := by
  apply List.ext_getElem
  · simp
  · intro j h1 h2
    have := h j h1
    rw [List.getD_eq_getElem?_getD, List.getElem?_eq_getElem h1] at this
    simp only [pad, List.getElem_map, List.getElem_range]
    exact this
theorem limb_getD (v j : Nat) : (limb v).getD j 0 = dgt B32 v j := digs_getD (by decide) v j
theorem limb_lt (v : Nat) : ∀ d ∈ limb v, d < B32 := digs_lt (by decide) v
theorem ofDigs_limb (v : Nat) : ofDigs B32 (limb v) = v := ofDigs_digs (by decide) v
theorem limb_of_pad {v n : Nat} (h : v < B32 ^ n) : limb (ofDigs B32 (pad B32 v n)) = limb v := by rw [ofDigs_pad_lt h]
/-- A string's byte, from behind. -/
theorem sbytes_rget (s : ByteArray) (i : Nat) (h : i < s.size) : (s[s.size - 1 - i]).toNat = dgt 256 (val s) i := by
  unfold val
  rw [ofDigs_dgt (by decide) _ (fun d hd => sbytes_lt s d (List.mem_reverse.1 hd))]
  have hl := sbytes_length s
  rw [List.getD_eq_getElem?_getD, List.getElem?_reverse (by rw [hl]; exact h), hl]
  rw [List.getElem?_eq_getElem (by rw [hl]; omega)]
  unfold sbytes
  rw [List.getElem_map]
  rfl
theorem mod_pow_succ (b v i : Nat) : v % b ^ (i + 1) = v % b ^ i + b ^ i * dgt b v i := by
  rw [Nat.mod_pow_succ]; rfl
theorem or_add (a d r : Nat) (h : a < 2 ^ r) : a ||| d * 2 ^ r = a + d * 2 ^ r := by
  have := Nat.two_pow_add_eq_or_of_lt h d
  rw [Nat.or_comm, Nat.mul_comm, ← this, Nat.add_comm]
theorem dgt_add_lt {b : Nat} (hb : 0 < b) (v x : Nat) {j k : Nat} (h : j < k) : dgt b (v + b ^ k * x) j = dgt b v j := by
  unfold dgt
  obtain ⟨m, rfl⟩ : ∃ m, k = j + (m + 1) := ⟨k - j - 1, by omega⟩
  rw [Nat.pow_add, Nat.mul_assoc, Nat.add_mul_div_left _ _ (Nat.pow_pos hb), Nat.pow_succ, Nat.mul_comm (b ^ m) b, Nat.mul_assoc, Nat.add_mul_mod_self_left]
theorem dgt_add_eq {b : Nat} (hb : 0 < b) (v x k : Nat) : dgt b (v + b ^ k * x) k = (v / b ^ k + x) % b := by
  unfold dgt
  rw [Nat.add_mul_div_left _ _ (Nat.pow_pos hb)]
theorem dgt_big {b v j : Nat} (h : v < b ^ j) : dgt b v j = 0 := by
  unfold dgt; rw [Nat.div_eq_of_lt h, Nat.zero_mod]
theorem dgt_top {b v k : Nat} (hb : 0 < b) (h : v < b ^ (k + 1)) : dgt b v k = v / b ^ k := by
  unfold dgt
  exact Nat.mod_eq_of_lt ((Nat.div_lt_iff_lt_mul (Nat.pow_pos hb)).2 (by rwa [Nat.pow_succ, Nat.mul_comm] at h))
theorem pad_add {b v n k x : Nat} (hb : 2 ≤ b) (hv : v < b ^ (k + 1)) (hx : v + b ^ k * x < b ^ (k + 1)) : (pad b v n).set k (dgt b v k + x) = pad b (v + b ^ k * x) n := by
  have hb' : 0 < b := by omega
  rw [eq_pad (b := b) (v := v + b ^ k * x) (L := (pad b v n).set k (dgt b v k + x)) ?_]
  · simp
  · intro j hj
    have hj' : j < n := by simpa using hj
    rw [List.getD_eq_getElem?_getD, List.getElem?_set]
    split
    · rename_i h; subst h
      rw [if_pos (by simpa using hj'), Option.getD_some, dgt_top hb' hv, dgt_top hb' hx, Nat.add_mul_div_left _ _ (Nat.pow_pos hb')]
    · rename_i h
      rw [← List.getD_eq_getElem?_getD, pad_getD b v hj']
      rcases Nat.lt_or_ge j k with h1 | h1
      · rw [dgt_add_lt hb' v x h1]
      · have h2 : b ^ (k + 1) ≤ b ^ j := Nat.pow_le_pow_right hb' (by omega)
        rw [dgt_big (by omega), dgt_big (by omega)]
theorem pow_256 (i : Nat) : 256 ^ i = B32 ^ (i / 4) * 2 ^ (8 * (i % 4)) := by
  have h1 : (256 : Nat) = 2 ^ 8 := rfl
  have h2 : B32 = 2 ^ 32 := rfl
  rw [h1, h2, ← Nat.pow_mul, ← Nat.pow_mul, ← Nat.pow_add]
  congr 1; omega
theorem pad_byte (v i n : Nat) : (pad B32 (v % 256 ^ i) n).set (i / 4) (dgt B32 (v % 256 ^ i) (i / 4) ||| dgt 256 v i * 2 ^ (8 * (i % 4))) = pad B32 (v % 256 ^ (i + 1)) n := by
  have h0 : v % 256 ^ i < B32 ^ (i / 4) * 2 ^ (8 * (i % 4)) := by rw [← pow_256]; exact Nat.mod_lt _ (Nat.pow_pos (by decide))
  have h1 : 256 ^ (i + 1) ≤ B32 ^ (i / 4 + 1) := by
    rw [show (256 : Nat) = 2 ^ 8 from rfl, show B32 = 2 ^ 32 from rfl, ← Nat.pow_mul, ← Nat.pow_mul]
    exact Nat.pow_le_pow_right (by decide) (by omega)
  have h2 : v % 256 ^ (i + 1) < 256 ^ (i + 1) := Nat.mod_lt _ (Nat.pow_pos (by decide))
  have h5 : v % 256 ^ i ≤ v % 256 ^ (i + 1) := by rw [mod_pow_succ]; omega
  have h3 : v % 256 ^ (i + 1) = v % 256 ^ i + B32 ^ (i / 4) * (dgt 256 v i * 2 ^ (8 * (i % 4))) := by
    rw [mod_pow_succ]
    conv => lhs; rw [show (256 : Nat) ^ i * dgt 256 v i = B32 ^ (i / 4) * 2 ^ (8 * (i % 4)) * dgt 256 v i by rw [← pow_256]]
    rw [Nat.mul_assoc, Nat.mul_comm (2 ^ (8 * (i % 4)))]
  have h4 : dgt B32 (v % 256 ^ i) (i / 4) < 2 ^ (8 * (i % 4)) := by
    rw [dgt_top (by decide) (by omega)]
    exact Nat.div_lt_of_lt_mul h0
  rw [or_add _ _ _ h4, h3]
  exact pad_add (by decide) (by omega) (by omega)
theorem pad_zero (b n : Nat) : pad b 0 n = List.replicate n 0 := by
  apply List.ext_getElem
  · simp
  · intro j h1 h2; simp [pad, dgt]
theorem mod_lt_pow {b : Nat} (hb : 0 < b) (v i : Nat) : v % b ^ i < b ^ i := Nat.mod_lt _ (Nat.pow_pos hb)
theorem pad_next {b : Nat} (hb : 2 ≤ b) (v i n : Nat) : (pad b (v % b ^ i) n).set i (dgt b v i) = pad b (v % b ^ (i + 1)) n := by
  have h1 := mod_lt_pow (b := b) (by omega) v i
  have h2 := mod_lt_pow (b := b) (by omega) v (i + 1)
  have h3 : b ^ (i + 1) = b ^ i * b := Nat.pow_succ ..
  have h4 : b ^ i ≤ b ^ (i + 1) := Nat.pow_le_pow_right (by omega) (by omega)
  have h := pad_add (b := b) (v := v % b ^ i) (n := n) (k := i) (x := dgt b v i) hb (by omega) (by rw [← mod_pow_succ]; exact h2)
  rw [dgt_big h1, Nat.zero_add, ← mod_pow_succ] at h
  exact h
theorem set_reverse {α : Type} (L : List α) (i : Nat) (x : α) (h : i < L.length) : L.reverse.set (L.length - 1 - i) x = (L.set i x).reverse := by
  apply List.ext_getElem?
  intro j
  rcases Nat.lt_or_ge j L.length with hj | hj
  · rw [List.getElem?_reverse (by simpa using hj), List.getElem?_set, List.getElem?_set, List.getElem?_reverse hj, List.length_set]
    by_cases h1 : L.length - 1 - i = j
    · have h2 : i = L.length - 1 - j := by omega
      rw [if_pos h1, if_pos h2, if_pos (by simp; omega), if_pos h]
    · have h2 : ¬ i = L.length - 1 - j := by omega
      rw [if_neg h1, if_neg h2]
  · rw [List.getElem?_eq_none (by simp; omega), List.getElem?_eq_none (by simp; omega)]
theorem byte_of_limb (v i : Nat) : dgt B32 v (i / 4) / 2 ^ (8 * (i % 4)) % 256 = dgt 256 v i := by
  unfold dgt
  rw [pow_256, ← Nat.div_div_eq_div_mul]
  generalize v / B32 ^ (i / 4) = x
  have h4 : i % 4 = 0 ∨ i % 4 = 1 ∨ i % 4 = 2 ∨ i % 4 = 3 := by omega
  rcases h4 with h | h | h | h <;> rw [h] <;> simp only [B32] <;> omega
theorem val_rpad (v n : Nat) : val (bstr (pad 256 v n).reverse) = v % 256 ^ n := by
  rw [val_bstr _ (fun d hd => pad_lt (by decide) _ _ d (List.mem_reverse.1 hd)), List.reverse_reverse, ofDigs_pad]
end Go.Proofs.YtmghobajmhdbfaaGreatDoor
namespace Go.Proofs.YtmghobajmhdbfaaGreatDoor
open Go Go.RowKit Go.Sx
theorem trim_ok (v : Value) (L : List Nat) (w : World) (hv : Sl (uk .u32) 1 w v L) (hL : ∀ d ∈ L, d < B32) :
    Ret Tryz.prog 90 #[v] w fun r w' => Sl (uk .u32) 1 w r (limb (ofDigs B32 L)) ∧ w' = w := by
  have hmax := hv.maxLen
  refine enter Tryz.func90 rfl Tryz.ntmps90 rfl ?_
  repeat (with_reducible first | refine c_seq ?_ | refine c_block ?_ | refine c_skip ?_ | refine x_then ?_ | refine x_block ?_)
  refine c_reg ?_
  refine l_pure rfl (s_asg  rfl ?_)
  refine l_nil ?_
  repeat (with_reducible first | refine c_seq ?_ | refine c_block ?_ | refine c_skip ?_ | refine x_then ?_ | refine x_block ?_)
  refine c_reg ?_
  refine l_pure rfl (s_move  rfl ?_)
  refine l_pure rfl (s_lenr  rfl hv ⟨_, Tryz.underlying92⟩ ?_)
  refine l_pure rfl (s_asg  rfl ?_)
  refine l_nil ?_
  repeat (with_reducible first | refine c_seq ?_ | refine c_block ?_ | refine c_skip ?_ | refine x_then ?_ | refine x_block ?_)
  refine c_loop (σ := Nat) (fun n ρ w' => n ≤ L.length ∧ (∀ i, n ≤ i → i < L.length → L.getD i 0 = 0) ∧ ρ 0 = v ∧ ρ 3 = .int .i64 n ∧ w' = w) (fun n => n) L.length
    ⟨Nat.le_refl _, fun i h1 h2 => by omega, rfl, rfl, rfl⟩ ?_
  rintro n ρ w' ⟨hn, hz, h0, h3, rfl⟩
  have hdone : (n = 0 ∨ L.getD (n - 1) 0 ≠ 0) → L.take n = limb (ofDigs B32 L) := fun h => digs_of_take (b := B32) (by decide) L n hL hn hz h
  by_cases hpos : 0 < n
  · by_cases hl : L.getD (n - 1) 0 = 0
    · repeat (with_reducible first | refine c_seq ?_ | refine c_block ?_ | refine c_skip ?_ | refine x_then ?_ | refine x_block ?_)
      refine c_reg ?_
      refine l_pure rfl (s_move  h3 ?_)
      refine l_pure rfl (s_gtr  rfl rfl ?_)
      refine l_pure rfl (s_move  rfl ?_)
      refine l_pure (gd_yes 8 (by kernel_rfl) rfl (decide_eq_true (by omega))) (s_move  h0 ?_)
      refine l_pure (gd_yes 8 (by kernel_rfl) rfl (decide_eq_true (by omega))) (s_move  h3 ?_)
      refine l_pure (gd_yes 8 (by kernel_rfl) rfl (decide_eq_true (by omega))) (s_sub  rfl rfl (IntWalk.i64_in _ (by omega)) ?_)
      refine l_pure (gd_yes 8 (by kernel_rfl) rfl (decide_eq_true (by omega))) (s_ixr (i := n - 1)  rfl rfl hv (by omega) (by first | omega | (simp; done) | (simp; omega)) si_92 ?_)
      refine l_read (gd_yes 8 (by kernel_rfl) rfl (decide_eq_true (by omega))) (s_lde (i := n - 1) 0  rfl vi_94 hv (by first | omega | (simp; done) | (simp; omega)) rfl rfl (.inr rfl) ?_)
      refine l_pure (gd_yes 8 (by kernel_rfl) rfl (decide_eq_true (by omega))) (s_eql  rfl rfl ?_)
      refine l_pure rfl (s_pick (vb rfl (decide_eq_true (by omega))) rfl ?_)
      refine l_nil ?_
      repeat (with_reducible first | refine c_seq ?_ | refine c_block ?_ | refine c_skip ?_ | refine x_then ?_ | refine x_block ?_)
      refine c_yes rfl (decide_eq_true (by omega)) ?_
      repeat (with_reducible first | refine c_seq ?_ | refine c_block ?_ | refine c_skip ?_ | refine x_then ?_ | refine x_block ?_)
      refine c_reg ?_
      refine l_pure rfl (s_move  h3 ?_)
      refine l_pure rfl (s_sub  rfl rfl (IntWalk.i64_in _ (by omega)) ?_)
      refine l_pure rfl (s_asg  rfl ?_)
      refine l_nil ?_
      repeat (with_reducible first | refine c_seq ?_ | refine c_block ?_ | refine c_skip ?_ | refine x_then ?_ | refine x_block ?_)
      refine ⟨n - 1, _, rfl, ⟨by omega, fun i h1 h2 => ?_, h0, vi rfl (by omega), rfl⟩, by omega⟩
      rcases Nat.lt_or_ge i n with h4 | h4
      · rw [show i = n - 1 by omega]; exact hl
      · exact hz i h4 h2
    · repeat (with_reducible first | refine c_seq ?_ | refine c_block ?_ | refine c_skip ?_ | refine x_then ?_ | refine x_block ?_)
      refine c_reg ?_
      refine l_pure rfl (s_move  h3 ?_)
      refine l_pure rfl (s_gtr  rfl rfl ?_)
      refine l_pure rfl (s_move  rfl ?_)
      refine l_pure (gd_yes 8 (by kernel_rfl) rfl (decide_eq_true (by omega))) (s_move  h0 ?_)
      refine l_pure (gd_yes 8 (by kernel_rfl) rfl (decide_eq_true (by omega))) (s_move  h3 ?_)
      refine l_pure (gd_yes 8 (by kernel_rfl) rfl (decide_eq_true (by omega))) (s_sub  rfl rfl (IntWalk.i64_in _ (by omega)) ?_)
      refine l_pure (gd_yes 8 (by kernel_rfl) rfl (decide_eq_true (by omega))) (s_ixr (i := n - 1)  rfl rfl hv (by omega) (by first | omega | (simp; done) | (simp; omega)) si_92 ?_)
      refine l_read (gd_yes 8 (by kernel_rfl) rfl (decide_eq_true (by omega))) (s_lde (i := n - 1) 0  rfl vi_94 hv (by first | omega | (simp; done) | (simp; omega)) rfl rfl (.inr rfl) ?_)
      refine l_pure (gd_yes 8 (by kernel_rfl) rfl (decide_eq_true (by omega))) (s_eql  rfl rfl ?_)
      refine l_pure rfl (s_pick (vb rfl (decide_eq_true (by omega))) rfl ?_)
      refine l_nil ?_
      repeat (with_reducible first | refine c_seq ?_ | refine c_block ?_ | refine c_skip ?_ | refine x_then ?_ | refine x_block ?_)
      refine c_no rfl (decide_eq_false (by omega)) ?_
      repeat (with_reducible first | refine c_seq ?_ | refine c_block ?_ | refine c_skip ?_ | refine x_then ?_ | refine x_block ?_)
      refine c_exit ?_
      repeat (with_reducible first | refine x_then_exit ?_ | refine x_block_exit ?_ | refine x_block_pass rfl ?_)
      repeat (with_reducible first | refine c_seq ?_ | refine c_block ?_ | refine c_skip ?_ | refine x_then ?_ | refine x_block ?_)
      refine c_reg ?_
      refine l_pure rfl (s_move  h0 ?_)
      refine l_pure rfl (s_move  h3 ?_)
      refine l_pure rfl (s_subrh (hi := n)  rfl rfl hv rfl hn si_92 ?_)
      refine l_pure rfl (s_asg  rfl ?_)
      refine l_nil ?_
      repeat (with_reducible first | refine c_seq ?_ | refine c_block ?_ | refine c_skip ?_ | refine x_then ?_ | refine x_block ?_)
      refine c_ret ?_
      repeat (with_reducible first | refine x_then_ret ?_ | refine x_block_ret ?_)
      refine r_one rfl rfl ?_
      refine ⟨?_, rfl⟩
      rw [← hdone (.inr hl)]
      exact hv.sub (uk_len _) (by decide) (Nat.zero_le n) hn
  · repeat (with_reducible first | refine c_seq ?_ | refine c_block ?_ | refine c_skip ?_ | refine x_then ?_ | refine x_block ?_)
    refine c_reg ?_
    refine l_pure rfl (s_move  h3 ?_)
    refine l_pure rfl (s_gtr  rfl rfl ?_)
    refine l_pure rfl (s_move  rfl ?_)
    refine l_no (gno_yes 8 (by kernel_rfl) rfl (decide_eq_false (by omega))) ?_
    refine l_no (gno_yes 8 (by kernel_rfl) rfl (decide_eq_false (by omega))) ?_
    refine l_no (gno_yes 8 (by kernel_rfl) rfl (decide_eq_false (by omega))) ?_
    refine l_no (gno_yes 8 (by kernel_rfl) rfl (decide_eq_false (by omega))) ?_
    refine l_no (gno_yes 8 (by kernel_rfl) rfl (decide_eq_false (by omega))) ?_
    refine l_no (gno_yes 8 (by kernel_rfl) rfl (decide_eq_false (by omega))) ?_
    refine l_pure rfl (s_pick (vb rfl (decide_eq_false (by omega))) rfl ?_)
    refine l_nil ?_
    repeat (with_reducible first | refine c_seq ?_ | refine c_block ?_ | refine c_skip ?_ | refine x_then ?_ | refine x_block ?_)
    refine c_no rfl (rfl) ?_
    repeat (with_reducible first | refine c_seq ?_ | refine c_block ?_ | refine c_skip ?_ | refine x_then ?_ | refine x_block ?_)
    refine c_exit ?_
    repeat (with_reducible first | refine x_then_exit ?_ | refine x_block_exit ?_ | refine x_block_pass rfl ?_)
    repeat (with_reducible first | refine c_seq ?_ | refine c_block ?_ | refine c_skip ?_ | refine x_then ?_ | refine x_block ?_)
    refine c_reg ?_
    refine l_pure rfl (s_move  h0 ?_)
    refine l_pure rfl (s_move  h3 ?_)
    refine l_pure rfl (s_subrh (hi := n)  rfl rfl hv rfl hn si_92 ?_)
    refine l_pure rfl (s_asg  rfl ?_)
    refine l_nil ?_
    repeat (with_reducible first | refine c_seq ?_ | refine c_block ?_ | refine c_skip ?_ | refine x_then ?_ | refine x_block ?_)
    refine c_ret ?_
    repeat (with_reducible first | refine x_then_ret ?_ | refine x_block_ret ?_)
    refine r_one rfl rfl ?_
    refine ⟨?_, rfl⟩
    rw [← hdone (.inl (by omega))]
    exact hv.sub (uk_len _) (by decide) (Nat.zero_le n) hn
theorem parse_ok (s : ByteArray) (w : World) (hs : s.size ≤ 70368744177664) :
    Ret Tryz.prog 62 #[.string s] w fun r w' => Sl (uk .u32) 1 w' r (limb (val s)) ∧ Below w.heap.size w w' := by
  have hS := St.init w
  refine enter Tryz.func62 rfl Tryz.ntmps62 rfl ?_
  repeat (with_reducible first | refine c_seq ?_ | refine c_block ?_ | refine c_skip ?_ | refine x_then ?_ | refine x_block ?_)
  refine c_reg ?_
  refine l_pure rfl (s_asg  rfl ?_)
  refine l_nil ?_
  repeat (with_reducible first | refine c_seq ?_ | refine c_block ?_ | refine c_skip ?_ | refine x_then ?_ | refine x_block ?_)
  refine c_reg ?_
  refine l_pure rfl (s_move  rfl ?_)
  refine l_pure rfl (s_lens  rfl Tryz.underlying9 ?_)
  refine l_pure rfl (s_add  rfl rfl (IntWalk.i64_in _ (by omega)) ?_)
  refine l_pure rfl (s_sub  rfl rfl (IntWalk.i64_in _ (by omega)) ?_)
  refine l_pure rfl (s_quo  rfl rfl (by omega) (IntWalk.i64_quo _ _ (by omega)) ?_)
  refine l_heavy rfl (s_makek (n := (s.size + 3) / 4)  rfl rfl si_92 (by omega) (by omega) (by omega) (by omega) hS ?_)
  intro b1 wz2 hS hBz2
  refine l_pure rfl (s_asg  rfl ?_)
  refine l_nil ?_
  repeat (with_reducible first | refine c_seq ?_ | refine c_block ?_ | refine c_skip ?_ | refine x_then ?_ | refine x_block ?_)
  refine c_reg ?_
  refine l_pure rfl (s_move  rfl ?_)
  refine l_pure rfl (s_lens  rfl Tryz.underlying9 ?_)
  refine l_pure rfl (s_move  rfl ?_)
  refine l_nil ?_
  repeat (with_reducible first | refine c_seq ?_ | refine c_block ?_ | refine c_skip ?_ | refine x_then ?_ | refine x_block ?_)
  obtain ⟨n, hn⟩ : ∃ n, n = (s.size + 3) / 4 := ⟨_, rfl⟩
  rw [← hn, ← pad_zero B32 n, show 0 = val s % 256 ^ 0 by rw [Nat.pow_zero, Nat.mod_one]] at hS
  refine c_loop (σ := Nat) (fun i ρ w' => i ≤ s.size ∧ ρ 0 = .string s ∧ ρ 3 = .slice (some ⟨b1, 0, none⟩) n n ∧ ρ 12 = .int .i64 s.size ∧ ρ 13 = .int .i64 i ∧ St w w' [(b1, 94, Kr .u32 (pad B32 (val s % 256 ^ i) n))]) (fun i => s.size - i) 0
    ⟨Nat.zero_le _, rfl, by rw [hn]; rfl, rfl, rfl, hS⟩ ?_
  clear hS
  rintro i ρ w2 ⟨hi, h0, h3, h12, h13, hS⟩
  repeat (with_reducible first | refine c_seq ?_ | refine c_block ?_ | refine c_skip ?_ | refine x_then ?_ | refine x_block ?_)
  refine c_reg ?_
  refine l_pure rfl (s_lss  h13 h12 ?_)
  refine l_nil ?_
  repeat (with_reducible first | refine c_seq ?_ | refine c_block ?_ | refine c_skip ?_ | refine x_then ?_ | refine x_block ?_)
  by_cases hlt : i < s.size
  · refine c_yes rfl (decide_eq_true (by omega)) ?_
    repeat (with_reducible first | refine c_seq ?_ | refine c_block ?_ | refine c_skip ?_ | refine x_then ?_ | refine x_block ?_)
    refine c_reg ?_
    refine l_pure rfl (s_move  h13 ?_)
    refine l_pure rfl (s_asg  rfl ?_)
    refine l_nil ?_
    repeat (with_reducible first | refine c_seq ?_ | refine c_block ?_ | refine c_skip ?_ | refine x_then ?_ | refine x_block ?_)
    have hb := sbytes_rget s i hlt
    have hl := dgt_lt (b := B32) (by decide) (val s % 256 ^ i) (i / 4)
    have hd := dgt_lt (b := 256) (by decide) (val s) i
    have hg : (pad B32 (val s % 256 ^ i) n).getD (i / 4) 0 = dgt B32 (val s % 256 ^ i) (i / 4) := pad_getD _ _ (by omega)
    have hp : 2 ^ (8 * (i % 4)) ≤ 2 ^ 24 := Nat.pow_le_pow_right (by decide) (by omega)
    have hq : dgt 256 (val s) i * 2 ^ (8 * (i % 4)) < 4294967296 := Nat.lt_of_le_of_lt (Nat.mul_le_mul (Nat.le_of_lt_succ hd) hp) (by decide)
    repeat (with_reducible first | refine c_seq ?_ | refine c_block ?_ | refine c_skip ?_ | refine x_then ?_ | refine x_block ?_)
    refine c_draw [(0, .pure), (1, .pure), (2, .pure), (3, .pure), (4, .read), (5, .pure), (6, .pure), (7, .pure), (8, .pure), (9, .pure), (10, .pure), (11, .pure), (12, .pure), (13, .pure), (14, .pure), (15, .pure), (16, .pure), (17, .pure), (18, .pure), (19, .free)] (by kernel_rfl) (by kernel_rfl) hS ?_
    intro wz3 hS hBz3
    refine w_pure rfl rfl (s_move  h3 ?_)
    refine w_pure rfl rfl (s_move  rfl ?_)
    refine w_pure rfl rfl (s_quo  rfl rfl (by omega) (r := ((i / 4 : Nat) : Int)) (by exact IntWalk.i64_quo _ _ (by omega)) ?_)
    refine w_pure rfl rfl (s_ixo (i := i / 4)  rfl rfl (by omega) (by first | omega | (simp; done) | (simp; omega)) si_92 ?_)
    refine w_read rfl rfl (s_ldk (k := 0) (i := i / 4)  rfl vi_94 hS rfl (by omega) (by first | omega | (simp; done) | (simp; omega)) ?_)
    refine w_pure rfl rfl (s_move  h0 ?_)
    refine w_pure rfl rfl (s_move  h0 ?_)
    refine w_pure rfl rfl (s_lens  rfl Tryz.underlying9 ?_)
    refine w_pure rfl rfl (s_sub  rfl rfl (IntWalk.i64_in _ (by omega)) ?_)
    refine w_pure rfl rfl (s_move  rfl ?_)
    refine w_pure rfl rfl (s_sub  rfl rfl (IntWalk.i64_in _ (by omega)) ?_)
    refine w_pure rfl rfl (s_ixs (i := s.size - 1 - i)  rfl rfl (by omega) (by omega) Tryz.underlying9 ?_)
    refine w_pure rfl rfl (s_conv  rfl Tryz.underlying94 ⟨_, Tryz.underlying5⟩ (r := ((dgt 256 (val s) i : Nat) : Int)) (by rw [hb]; exact IntWalk.u32_in _ (by omega)) ?_)
    refine w_pure rfl rfl (s_move  rfl ?_)
    refine w_pure rfl rfl (s_rem  rfl rfl (by omega) (r := ((i % 4 : Nat) : Int)) (by rfl) ?_)
    refine w_pure rfl rfl (s_mul  rfl rfl (r := ((8 * (i % 4) : Nat) : Int)) (by exact wr_i64 _ (by omega)) ?_)
    refine w_pure rfl rfl (s_shl  rfl rfl (by omega) (shl_v _ _ _ (show _ ≤ 32 by omega) (wr_u32 _ ⟨rfl, by omega, by omega⟩)) ?_)
    refine w_pure rfl rfl (s_or  rfl rfl (or_nat rfl _ _ (by rw [hg]; exact hl) hq) ?_)
    refine w_pure rfl rfl (s_ixo (i := i / 4)  rfl rfl (by omega) (by first | omega | (simp; done) | (simp; omega)) si_92 ?_)
    refine w_free rfl rfl (s_stk (k := 0) (i := i / 4) (a := _)  rfl rfl rfl vi_94 hS rfl (by omega) (by first | omega | (simp; done) | (simp; omega)) ?_)
    intro wz4 hS
    refine w_end ?_
    repeat (with_reducible first | refine c_seq ?_ | refine c_block ?_ | refine c_skip ?_ | refine x_then ?_ | refine x_block ?_)
    rw [hg, pad_byte] at hS
    repeat (with_reducible first | refine c_seq ?_ | refine c_block ?_ | refine c_skip ?_ | refine x_then ?_ | refine x_block ?_)
    refine c_reg ?_
    refine l_pure rfl (s_add  h13 rfl (IntWalk.i64_in _ (by omega)) ?_)
    refine l_pure rfl (s_move  rfl ?_)
    refine l_nil ?_
    repeat (with_reducible first | refine c_seq ?_ | refine c_block ?_ | refine c_skip ?_ | refine x_then ?_ | refine x_block ?_)
    exact ⟨i + 1, _, rfl, ⟨hlt, h0, h3, h12, vi rfl (by omega), hS⟩, by omega⟩
  · refine c_no rfl (decide_eq_false (by omega)) ?_
    repeat (with_reducible first | refine c_seq ?_ | refine c_block ?_ | refine c_skip ?_ | refine x_then ?_ | refine x_block ?_)
    refine c_exit ?_
    repeat (with_reducible first | refine x_then_exit ?_ | refine x_block_exit ?_ | refine x_block_pass rfl ?_)
    repeat (with_reducible first | refine c_seq ?_ | refine c_block ?_ | refine c_skip ?_ | refine x_then ?_ | refine x_block ?_)
    obtain rfl : i = s.size := by omega
    have hval : val s < 256 ^ s.size := val_lt s
    have h256 : 256 ^ s.size ≤ B32 ^ n := by
      rw [show (256 : Nat) = 2 ^ 8 from rfl, show B32 = 2 ^ 32 from rfl, ← Nat.pow_mul, ← Nat.pow_mul]
      exact Nat.pow_le_pow_right (by decide) (by omega)
    rw [Nat.mod_eq_of_lt hval] at hS
    have hsl := hS.slk (k := 0) rfl (n := n) (cap := n) (by simp) (Nat.le_refl _) (by omega)
    rw [List.take_of_length_le (by simp)] at hsl
    repeat (with_reducible first | refine c_seq ?_ | refine c_block ?_ | refine c_skip ?_ | refine x_then ?_ | refine x_block ?_)
    refine c_reg ?_
    refine l_pure rfl (s_move  h3 ?_)
    refine l_heavy rfl (s_call Tryz.call90 rfl (trim_ok _ _ _ hsl (pad_lt (by decide) _ _)) ?_)
    rintro r w3 ⟨hr, rfl⟩
    refine l_pure rfl (s_asg  rfl ?_)
    refine l_nil ?_
    repeat (with_reducible first | refine c_seq ?_ | refine c_block ?_ | refine c_skip ?_ | refine x_then ?_ | refine x_block ?_)
    refine c_ret ?_
    repeat (with_reducible first | refine x_then_ret ?_ | refine x_block_ret ?_)
    refine r_one rfl rfl ?_
    rw [limb_of_pad (by omega)] at hr
    exact ⟨hr, hS.below⟩
theorem text_ok (v : Value) (L : List Nat) (w : World) (hv : Sl (uk .u32) 1 w v L) (hL : ∀ d ∈ L, d < B32) (hs : L.length ≤ 17592186044416) :
    Ret Tryz.prog 63 #[v] w fun r w' => r = .string (natS (ofDigs B32 L)) ∧ Below w.heap.size w w' := by
  have hS := St.init w
  refine enter Tryz.func63 rfl Tryz.ntmps63 rfl ?_
  repeat (with_reducible first | refine c_seq ?_ | refine c_block ?_ | refine c_skip ?_ | refine x_then ?_ | refine x_block ?_)
  refine c_reg ?_
  refine l_pure rfl (s_asg  rfl ?_)
  refine l_nil ?_
  repeat (with_reducible first | refine c_seq ?_ | refine c_block ?_ | refine c_skip ?_ | refine x_then ?_ | refine x_block ?_)
  refine c_reg ?_
  refine l_pure rfl (s_move  rfl ?_)
  refine l_pure rfl (s_lenr  rfl hv ⟨_, Tryz.underlying92⟩ ?_)
  refine l_pure rfl (s_mul  rfl rfl (IntWalk.i64_in _ (by omega)) ?_)
  refine l_heavy rfl (s_makek (n := 4 * L.length)  rfl rfl si_114 (by omega) (by omega) (by omega) (by omega) hS ?_)
  intro b1 wz2 hS hBz2
  refine l_pure rfl (s_asg  rfl ?_)
  refine l_nil ?_
  repeat (with_reducible first | refine c_seq ?_ | refine c_block ?_ | refine c_skip ?_ | refine x_then ?_ | refine x_block ?_)
  refine c_reg ?_
  refine l_pure rfl (s_move  rfl ?_)
  refine l_pure rfl (s_leno  rfl ⟨_, Tryz.underlying114⟩ ?_)
  refine l_pure rfl (s_move  rfl ?_)
  refine l_nil ?_
  repeat (with_reducible first | refine c_seq ?_ | refine c_block ?_ | refine c_skip ?_ | refine x_then ?_ | refine x_block ?_)
  obtain ⟨V, hV⟩ : ∃ V, V = ofDigs B32 L := ⟨_, rfl⟩
  obtain ⟨n, hn⟩ : ∃ n, n = 4 * L.length := ⟨_, rfl⟩
  have h00 : List.replicate (4 * L.length) 0 = (pad 256 (V % 256 ^ 0) n).reverse := by rw [Nat.pow_zero, Nat.mod_one, pad_zero, List.reverse_replicate, hn]
  rw [h00] at hS
  refine c_loop (σ := Nat) (fun i ρ w' => i ≤ n ∧ ρ 0 = v ∧ ρ 3 = .slice (some ⟨b1, 0, none⟩) n n ∧ ρ 10 = .int .i64 n ∧ ρ 11 = .int .i64 i ∧ St w w' [(b1, 5, Kr .u8 (pad 256 (V % 256 ^ i) n).reverse)]) (fun i => n - i) 0
    ⟨Nat.zero_le _, rfl, by rw [hn]; rfl, vi rfl (by rw [hn]), rfl, hS⟩ ?_
  clear hS
  rintro i ρ w3 ⟨hi, h0, h3, h10, h11, hS⟩
  have hv2 := hv.below hS.below
  repeat (with_reducible first | refine c_seq ?_ | refine c_block ?_ | refine c_skip ?_ | refine x_then ?_ | refine x_block ?_)
  refine c_reg ?_
  refine l_pure rfl (s_lss  h11 h10 ?_)
  refine l_nil ?_
  repeat (with_reducible first | refine c_seq ?_ | refine c_block ?_ | refine c_skip ?_ | refine x_then ?_ | refine x_block ?_)
  by_cases hlt : i < n
  · refine c_yes rfl (decide_eq_true (by omega)) ?_
    repeat (with_reducible first | refine c_seq ?_ | refine c_block ?_ | refine c_skip ?_ | refine x_then ?_ | refine x_block ?_)
    refine c_reg ?_
    refine l_pure rfl (s_move  h11 ?_)
    refine l_pure rfl (s_asg  rfl ?_)
    refine l_nil ?_
    repeat (with_reducible first | refine c_seq ?_ | refine c_block ?_ | refine c_skip ?_ | refine x_then ?_ | refine x_block ?_)
    have hg : L.getD (i / 4) 0 = dgt B32 V (i / 4) := by rw [hV, ofDigs_dgt (by decide) _ hL]
    have hl := dgt_lt (b := B32) (by decide) V (i / 4)
    have hlen : (pad 256 (V % 256 ^ i) n).length = n := pad_length _ _ _
    repeat (with_reducible first | refine c_seq ?_ | refine c_block ?_ | refine c_skip ?_ | refine x_then ?_ | refine x_block ?_)
    refine c_reg ?_
    refine l_pure rfl (s_move  h3 ?_)
    refine l_pure rfl (s_move  h3 ?_)
    refine l_pure rfl (s_leno  rfl ⟨_, Tryz.underlying114⟩ ?_)
    refine l_pure rfl (s_sub  rfl rfl (IntWalk.i64_in _ (by omega)) ?_)
    refine l_pure rfl (s_move  rfl ?_)
    refine l_pure rfl (s_sub  rfl rfl (IntWalk.i64_in _ (by omega)) ?_)
    refine l_pure rfl (s_move  h0 ?_)
    refine l_pure rfl (s_move  rfl ?_)
    refine l_pure rfl (s_quo  rfl rfl (by omega) (r := ((i / 4 : Nat) : Int)) (by exact IntWalk.i64_quo _ _ (by omega)) ?_)
    refine l_pure rfl (s_ixr (i := i / 4)  rfl rfl hv2 (by omega) (by first | omega | (simp; done) | (simp; omega)) si_92 ?_)
    refine l_read rfl (s_lde (i := i / 4) 0  rfl vi_94 hv2 (by first | omega | (simp; done) | (simp; omega)) rfl rfl (.inr rfl) ?_)
    refine l_pure rfl (s_move  rfl ?_)
    refine l_pure rfl (s_rem  rfl rfl (by omega) (r := ((i % 4 : Nat) : Int)) (by rfl) ?_)
    refine l_pure rfl (s_mul  rfl rfl (r := ((8 * (i % 4) : Nat) : Int)) (by exact wr_i64 _ (by omega)) ?_)
    refine l_pure rfl (s_shr  rfl rfl (by omega) (shr_v _ _ (show _ ≤ 32 by omega)) ?_)
    refine l_pure rfl (s_conv  rfl Tryz.underlying5 ⟨_, Tryz.underlying94⟩ (u8_mod _) ?_)
    refine l_pure rfl (s_ixo (i := n - 1 - i)  rfl rfl (by omega) (by first | omega | (simp; done) | (simp; omega)) si_114 ?_)
    refine l_heavy rfl (s_stk (k := 0) (i := n - 1 - i) (a := _)  rfl rfl rfl vi_5 hS rfl (by omega) (by first | omega | (simp; done) | (simp; omega)) ?_)
    intro wz3 hS
    refine l_nil ?_
    repeat (with_reducible first | refine c_seq ?_ | refine c_block ?_ | refine c_skip ?_ | refine x_then ?_ | refine x_block ?_)
    have hset := set_reverse (pad 256 (V % 256 ^ i) n) i (dgt 256 V i) (by omega)
    rw [hg, byte_of_limb, show n - 1 - i = (pad 256 (V % 256 ^ i) n).length - 1 - i by omega, hset, pad_next (by decide)] at hS
    repeat (with_reducible first | refine c_seq ?_ | refine c_block ?_ | refine c_skip ?_ | refine x_then ?_ | refine x_block ?_)
    refine c_reg ?_
    refine l_pure rfl (s_add  h11 rfl (IntWalk.i64_in _ (by omega)) ?_)
    refine l_pure rfl (s_move  rfl ?_)
    refine l_nil ?_
    repeat (with_reducible first | refine c_seq ?_ | refine c_block ?_ | refine c_skip ?_ | refine x_then ?_ | refine x_block ?_)
    exact ⟨i + 1, _, rfl, ⟨hlt, h0, h3, h10, vi rfl (by omega), hS⟩, by omega⟩
  · refine c_no rfl (decide_eq_false (by omega)) ?_
    repeat (with_reducible first | refine c_seq ?_ | refine c_block ?_ | refine c_skip ?_ | refine x_then ?_ | refine x_block ?_)
    refine c_exit ?_
    repeat (with_reducible first | refine x_then_exit ?_ | refine x_block_exit ?_ | refine x_block_pass rfl ?_)
    repeat (with_reducible first | refine c_seq ?_ | refine c_block ?_ | refine c_skip ?_ | refine x_then ?_ | refine x_block ?_)
    obtain rfl : i = n := by omega
    have hVlt : V < 256 ^ i := by
      have := ofDigs_lt L hL
      rwa [← hV, show B32 = 256 ^ 4 from rfl, ← Nat.pow_mul, ← hn] at this
    have hat := St.atk hS (k := 0) rfl
    have hsz : (bstr (pad 256 (V % 256 ^ i) i).reverse).size ≤ 9223372036854775807 := by rw [bstr_size]; simp; omega
    repeat (with_reducible first | refine c_seq ?_ | refine c_block ?_ | refine c_skip ?_ | refine x_then ?_ | refine x_block ?_)
    refine c_reg ?_
    refine l_pure rfl (s_move  h3 ?_)
    refine l_read rfl (s_b2s  rfl ⟨Tryz.underlying114, Tryz.underlying5, Tryz.underlying9⟩ (by simp) hat ?_)
    refine l_heavy rfl (s_call Tryz.call59 rfl (Normalize_ok _ _ hsz) ?_)
    rintro r w4 ⟨rfl, rfl⟩
    refine l_pure rfl (s_asg  rfl ?_)
    refine l_nil ?_
    repeat (with_reducible first | refine c_seq ?_ | refine c_block ?_ | refine c_skip ?_ | refine x_then ?_ | refine x_block ?_)
    refine c_ret ?_
    repeat (with_reducible first | refine x_then_ret ?_ | refine x_block_ret ?_)
    refine r_one rfl rfl ?_
    rw [val_rpad, Nat.mod_mod, Nat.mod_eq_of_lt hVlt, hV]
    exact ⟨rfl, hS.below⟩
end Go.Proofs.YtmghobajmhdbfaaGreatDoor
