/-
  Part 5 of the texts that the laws' proofs share: the framework and the walks.
-/
import Derived.Test.YtfocimgpahjkmaaDoorPart4
namespace Go.Proofs.YtfocimgpahjkmaaDoor
open Go Go.RowKit Go.Sx

theorem rsize_ok (n : Int) (w : World) (h1 : -9223372036854775808 ≤ n) (h2 : n ≤ 9223372036854775807) :
    Ret Tryd.prog 53 #[.int .i64 n] w fun v w' => v = .int .u64 (n.natAbs : Nat) ∧ w' = w := by
  refine enter Tryd.func53 rfl Tryd.ntmps53 rfl ?_
  repeat (with_reducible first | refine c_seq ?_ | refine c_block ?_ | refine c_skip ?_ | refine x_then ?_ | refine x_block ?_)
  refine c_reg ?_
  refine l_pure rfl (s_asg  rfl ?_)
  refine l_nil ?_
  repeat (with_reducible first | refine c_seq ?_ | refine c_block ?_ | refine c_skip ?_ | refine x_then ?_ | refine x_block ?_)
  refine c_reg ?_
  refine l_pure rfl (s_move  rfl ?_)
  refine l_pure rfl (s_lss  rfl rfl ?_)
  refine l_nil ?_
  repeat (with_reducible first | refine c_seq ?_ | refine c_block ?_ | refine c_skip ?_ | refine x_then ?_ | refine x_block ?_)
  by_cases h : n < 0
  · refine c_yes rfl (decide_eq_true h) ?_
    repeat (with_reducible first | refine c_seq ?_ | refine c_block ?_ | refine c_skip ?_ | refine x_then ?_ | refine x_block ?_)
    refine c_reg ?_
    refine l_pure rfl (s_move  rfl ?_)
    refine l_pure rfl (s_add  rfl rfl (IntWalk.i64_in _ (by omega)) ?_)
    refine l_pure rfl (s_neg  rfl (r := (-(n + 1))) (by exact wr_i64 _ ⟨by omega, by omega, by omega⟩) ?_)
    refine l_pure rfl (s_conv  rfl Tryd.underlying81 ⟨_, Tryd.underlying2⟩ (r := (-(n + 1))) (by exact IntWalk.u64_in _ (by omega)) ?_)
    refine l_pure rfl (s_add  rfl rfl (r := ((n.natAbs : Nat) : Int)) (by exact wr_u64 _ ⟨by omega, by omega, by omega⟩) ?_)
    refine l_pure rfl (s_asg  rfl ?_)
    refine l_nil ?_
    repeat (with_reducible first | refine c_seq ?_ | refine c_block ?_ | refine c_skip ?_ | refine x_then ?_ | refine x_block ?_)
    refine c_ret ?_
    repeat (with_reducible first | refine x_then_ret ?_ | refine x_block_ret ?_)
    refine r_one rfl rfl ?_
    exact ⟨rfl, rfl⟩
  · refine c_no rfl (decide_eq_false h) ?_
    repeat (with_reducible first | refine c_seq ?_ | refine c_block ?_ | refine c_skip ?_ | refine x_then ?_ | refine x_block ?_)
    refine c_reg ?_
    refine l_pure rfl (s_move  rfl ?_)
    refine l_pure rfl (s_conv  rfl Tryd.underlying81 ⟨_, Tryd.underlying2⟩ (r := ((n.natAbs : Nat) : Int)) (by exact wr_u64 _ ⟨by omega, by omega, by omega⟩) ?_)
    refine l_pure rfl (s_asg  rfl ?_)
    refine l_nil ?_
    repeat (with_reducible first | refine c_seq ?_ | refine c_block ?_ | refine c_skip ?_ | refine x_then ?_ | refine x_block ?_)
    refine c_ret ?_
    repeat (with_reducible first | refine x_then_ret ?_ | refine x_block_ret ?_)
    refine r_one rfl rfl ?_
    exact ⟨rfl, rfl⟩

theorem ofQ_int (n : Int) : ofQ (n : Rat) = ⟨decide (n < 0), natS n.natAbs, ⟨#[]⟩⟩ := rfl
theorem rInt_ok (n : Int) (w : World) (h1 : -9223372036854775808 ≤ n) (h2 : n ≤ 9223372036854775807) :
    Ret Tryd.prog 35 #[.int .i64 n] w fun v w' => v = aggR (ofQ (n : Rat)) ∧ Below w.heap.size w w' := by
  have hS := St.init w
  refine enter Tryd.func35 rfl Tryd.ntmps35 rfl ?_
  repeat (with_reducible first | refine c_seq ?_ | refine c_block ?_ | refine c_skip ?_ | refine x_then ?_ | refine x_block ?_)
  refine c_reg ?_
  refine l_heavy rfl (s_alloc  vi_32 hS ?_)
  intro b1 wz2 hS hBz2
  refine l_nil ?_
  repeat (with_reducible first | refine c_seq ?_ | refine c_block ?_ | refine c_skip ?_ | refine x_then ?_ | refine x_block ?_)
  refine c_reg ?_
  refine l_pure rfl (s_move  rfl ?_)
  refine l_pure rfl (s_lss  rfl rfl ?_)
  refine l_pure rfl (s_move  rfl ?_)
  refine l_heavy rfl (s_call Tryd.call53 rfl (rsize_ok n _ h1 h2) ?_)
  rintro _ wq3 ⟨rfl, hq3⟩
  replace hq3 := hq3.symm
  subst hq3
  refine l_heavy rfl (s_call Tryd.call52 rfl (rFromUint_ok n.natAbs _ (by omega)) ?_)
  rintro _ wc4 ⟨rfl, hBc4⟩
  replace hS := hS.grow hBc4
  refine l_pure rfl (s_build  rfl (built_Rat2 _ _) ?_)
  refine l_heavy rfl (s_sta (k := 0)  rfl rfl vi_32 hS rfl rfl rfl (Nat.le_of_ble_eq_true rfl) rfl ?_)
  intro wz5 hS
  refine l_nil ?_
  repeat (with_reducible first | refine c_seq ?_ | refine c_block ?_ | refine c_skip ?_ | refine x_then ?_ | refine x_block ?_)
  refine c_ret ?_
  repeat (with_reducible first | refine x_then_ret ?_ | refine x_block_ret ?_)
  refine r_cell (k := 0) rfl rfl vi_32 hS rfl rfl ?_
  exact ⟨rfl, hS.below⟩

theorem rMake_ok (b : Bool) (num den : ByteArray) (w : World) (hn : num.size ≤ 4398046511104) (hd : den.size ≤ 4398046511104) (h0 : val den ≠ 0) :
    Ret Tryd.prog 67 #[.bool b, .string num, .string den] w fun v w' => v = .tuple #[aggR (ofQ (mkRat (sg b (val num)) (val den))), .bool true] ∧ Below w.heap.size w w' := by
  have hla := limb_val_len num
  have hlb := limb_val_len den
  have hne : (limb (val den)).length ≠ 0 := fun h => h0 (limb_nil_iff.1 h)
  have hS := St.init w
  refine enter Tryd.func67 rfl Tryd.ntmps67 rfl ?_
  repeat (with_reducible first | refine c_seq ?_ | refine c_block ?_ | refine c_skip ?_ | refine x_then ?_ | refine x_block ?_)
  refine c_reg ?_
  refine l_heavy rfl (s_alloc  vi_32 hS ?_)
  intro b1 wz2 hS hBz2
  refine l_pure rfl (s_asg  rfl ?_)
  refine l_nil ?_
  repeat (with_reducible first | refine c_seq ?_ | refine c_block ?_ | refine c_skip ?_ | refine x_then ?_ | refine x_block ?_)
  refine c_reg ?_
  refine l_pure rfl (s_move  rfl ?_)
  refine l_heavy rfl (s_call Tryd.call77 rfl (rlimbs_ok _ _ (by omega)) ?_)
  rintro vd w2 ⟨hvd, hB2⟩
  replace hS := hS.grow hB2
  refine l_pure rfl (s_asg  rfl ?_)
  refine l_nil ?_
  repeat (with_reducible first | refine c_seq ?_ | refine c_block ?_ | refine c_skip ?_ | refine x_then ?_ | refine x_block ?_)
  refine c_reg ?_
  refine l_pure rfl (s_move  rfl ?_)
  refine l_pure rfl (s_lenr  rfl hvd ⟨_, Tryd.underlying77⟩ ?_)
  refine l_pure rfl (s_eql  rfl rfl ?_)
  refine l_nil ?_
  repeat (with_reducible first | refine c_seq ?_ | refine c_block ?_ | refine c_skip ?_ | refine x_then ?_ | refine x_block ?_)
  refine c_no rfl (decide_eq_false (by omega)) ?_
  repeat (with_reducible first | refine c_seq ?_ | refine c_block ?_ | refine c_skip ?_ | refine x_then ?_ | refine x_block ?_)
  refine c_reg ?_
  refine l_pure rfl (s_move  rfl ?_)
  refine l_pure rfl (s_move  rfl ?_)
  refine l_heavy rfl (s_call Tryd.call77 rfl (rlimbs_ok _ _ (by omega)) ?_)
  rintro vn w3 ⟨hvn, hB3⟩
  replace hS := hS.grow hB3
  refine l_pure rfl (s_move  rfl ?_)
  refine l_heavy rfl (s_call Tryd.call78 rfl (rreduced_ok b vn vd _ _ _ hvn (hvd.below hB3) (by omega) (by omega) h0) ?_)
  rintro r w4 ⟨rfl, hB4⟩
  replace hS := hS.grow hB4
  refine l_heavy rfl (s_sta (k := 0)  rfl rfl vi_32 hS rfl rfl rfl (Nat.le_of_ble_eq_true rfl) rfl ?_)
  intro wz3 hS
  refine l_pure rfl (s_asg  rfl ?_)
  refine l_nil ?_
  repeat (with_reducible first | refine c_seq ?_ | refine c_block ?_ | refine c_skip ?_ | refine x_then ?_ | refine x_block ?_)
  refine c_ret ?_
  repeat (with_reducible first | refine x_then_ret ?_ | refine x_block_ret ?_)
  refine r_cell_tmp (k := 0) rfl rfl rfl vi_32 hS rfl rfl ?_
  exact ⟨rfl, hS.below⟩

theorem frac_sg (a : Int) (n : Nat) : sg (decide (a < 0) != decide (((n : Nat) : Int) < 0)) a.natAbs = a := by
  have h : decide (((n : Nat) : Int) < 0) = false := by simp
  rw [h]
  unfold sg
  by_cases ha : a < 0 <;> simp [ha] <;> omega
theorem rFraction_ok (a : Int) (n : Nat) (w : World) (h1 : -9223372036854775808 ≤ a) (h2 : a ≤ 9223372036854775807) (hn0 : 0 < n) (hn : n ≤ 9223372036854775807) :
    Ret Tryd.prog 51 #[.int .i64 a, .int .i64 n] w fun v w' => v = .tuple #[aggR (ofQ (mkRat a n)), .bool true] ∧ Below w.heap.size w w' := by
  have hS := St.init w
  have hs1 := natS_u64 (n := a.natAbs) (by omega)
  have hs2 := natS_u64 (n := n) (by omega)
  have hmk := fun w => rMake_ok (decide (a < 0) != decide (((n : Nat) : Int) < 0)) (natS a.natAbs) (natS n) w (by omega) (by omega) (by rw [val_natS]; omega)
  rw [val_natS, val_natS, frac_sg] at hmk
  refine enter Tryd.func51 rfl Tryd.ntmps51 rfl ?_
  repeat (with_reducible first | refine c_seq ?_ | refine c_block ?_ | refine c_skip ?_ | refine x_then ?_ | refine x_block ?_)
  refine c_reg ?_
  refine l_heavy rfl (s_alloc  vi_32 hS ?_)
  intro b1 wz2 hS hBz2
  refine l_pure rfl (s_asg  rfl ?_)
  refine l_nil ?_
  repeat (with_reducible first | refine c_seq ?_ | refine c_block ?_ | refine c_skip ?_ | refine x_then ?_ | refine x_block ?_)
  refine c_reg ?_
  refine l_pure rfl (s_move  rfl ?_)
  refine l_pure rfl (s_lss  rfl rfl ?_)
  refine l_pure rfl (s_move  rfl ?_)
  refine l_pure rfl (s_lss  rfl rfl ?_)
  refine l_pure rfl (s_neb  rfl rfl Tryd.underlying4 ?_)
  refine l_pure rfl (s_move  rfl ?_)
  refine l_heavy rfl (s_call Tryd.call53 rfl (rsize_ok a _ h1 h2) ?_)
  rintro _ wq3 ⟨rfl, hq3⟩
  replace hq3 := hq3.symm
  subst hq3
  refine l_heavy rfl (s_call Tryd.call52 rfl (rFromUint_ok a.natAbs _ (by omega)) ?_)
  rintro _ wc4 ⟨rfl, hBc4⟩
  replace hS := hS.grow hBc4
  refine l_pure rfl (s_move  rfl ?_)
  refine l_heavy rfl (s_call Tryd.call53 rfl (rsize_ok n _ (by omega) (by omega)) ?_)
  rintro _ wq5 ⟨rfl, hq5⟩
  replace hq5 := hq5.symm
  subst hq5
  rw [Int.natAbs_natCast]
  refine l_heavy rfl (s_call Tryd.call52 rfl (rFromUint_ok n _ (by omega)) ?_)
  rintro _ wc6 ⟨rfl, hBc6⟩
  replace hS := hS.grow hBc6
  refine l_heavy rfl (s_call Tryd.call67 rfl (hmk _) ?_)
  rintro _ wc7 ⟨rfl, hBc7⟩
  replace hS := hS.grow hBc7
  refine l_pure rfl (s_ext  rfl rfl ?_)
  refine l_pure rfl (s_ext  rfl rfl ?_)
  refine l_heavy rfl (s_sta (k := 0)  rfl rfl vi_32 hS rfl rfl rfl (Nat.le_of_ble_eq_true rfl) rfl ?_)
  intro wz8 hS
  refine l_pure rfl (s_asg  rfl ?_)
  refine l_nil ?_
  repeat (with_reducible first | refine c_seq ?_ | refine c_block ?_ | refine c_skip ?_ | refine x_then ?_ | refine x_block ?_)
  refine c_ret ?_
  repeat (with_reducible first | refine x_then_ret ?_ | refine x_block_ret ?_)
  refine r_cell_tmp (k := 0) rfl rfl rfl vi_32 hS rfl rfl ?_
  exact ⟨rfl, hS.below⟩

theorem sub_neg_iff {p q : Rat} : sgnQ (p - q) < 0 ↔ p < q := by rw [sgnQ_neg]; constructor <;> intro h <;> grind
def posQ (q : Rat) : Rat := if q < 0 then 0 else q
end Go.Proofs.YtfocimgpahjkmaaDoor
namespace Go.Proofs.YtfocimgpahjkmaaDoor
open Go Go.RowKit Go.Sx

theorem tl_iff (a b : ByteArray) : a.toList = b.toList ↔ a = b := by
  have := tl_eq a b
  rw [Bool.eq_iff_iff] at this
  simpa using this
theorem equalIn_Rat (d : Nat) (r s : RR) (w : World) : (Op.equalIn (d + 2) 32 (aggR r) (aggR s)).run Tryd.prog w = .ok (decide (r = s)) w := by
  unfold aggR
  rw [run_equalIn_agg (P := Tryd.prog) w (d + 1) 32 _ _ (by kernel_rfl) (by kernel_rfl)]
  have hb : Tryd.prog.underlying 4 = some .bool := by kernel_rfl
  have hs : Tryd.prog.underlying 9 = some .string := by kernel_rfl
  simp only [Program.fieldsOf, Tryd.underlying32]
  simp [Op.eqFields, part, run_equalIn_bool' (P := Tryd.prog) w _ _ _ _ hb, run_equalIn_string (P := Tryd.prog) w _ _ _ _ hs, tl_iff]
  cases r; cases s
  rename_i a b c a' b' c'
  simp only [RR.mk.injEq]
  by_cases h1 : a = a' <;> by_cases h2 : b = b' <;> by_cases h3 : c = c' <;> simp [h1, h2, h3]
section
variable {N : Nat} {ρ : Nat → Value} {d : Option Tmp} {ty : TypeId} {pos : String} {aft : Array Edge} {g : Option (Nat × Bool)} {x y : Operand} {t' : TypeId} {K : Value → Prop}
theorem s_eqR {r s : RR} (hx : ev N ρ x = aggR r) (hy : ev N ρ y = aggR s) (h : K (.bool (decide (r = s)))) : Pure1 Tryd.prog N ρ ⟨d, .binOp .eql 32 x y t', ty, pos, aft, g⟩ K := by
  refine ⟨_, fun w => ?_, h⟩
  have h1 : (eqGuard .eql 32 x y (aggR r) (aggR s)).run Tryd.prog w = .ok () w := run_eqGuard_agg (P := Tryd.prog) w .eql 32 x y _ _ (by kernel_rfl)
  have h2 : (binOp .eql 32 (aggR r) (aggR s)).run Tryd.prog w = .ok (.bool (decide (r = s))) w := by
    have := run_eql_struct (P := Tryd.prog) w 32 #[.bool r.neg, .string r.num, .string r.den] #[.bool s.neg, .string s.num, .string s.den]
    have h3 := equalIn_Rat 9998 r s w
    unfold aggR at *
    rw [this, h3]; rfl
  simp only [execOp, hx, hy, Sem.run_bind, h1, h2, Result.andThen_ok]
  rfl
theorem s_neR {r s : RR} (hx : ev N ρ x = aggR r) (hy : ev N ρ y = aggR s) (h : K (.bool (decide (r ≠ s)))) : Pure1 Tryd.prog N ρ ⟨d, .binOp .neq 32 x y t', ty, pos, aft, g⟩ K := by
  refine ⟨_, fun w => ?_, h⟩
  have h1 : (eqGuard .neq 32 x y (aggR r) (aggR s)).run Tryd.prog w = .ok () w := run_eqGuard_agg (P := Tryd.prog) w .neq 32 x y _ _ (by kernel_rfl)
  have h2 : (binOp .neq 32 (aggR r) (aggR s)).run Tryd.prog w = .ok (.bool (decide (r ≠ s))) w := by
    have := run_neq_struct (P := Tryd.prog) w 32 #[.bool r.neg, .string r.num, .string r.den] #[.bool s.neg, .string s.num, .string s.den]
    have h3 := equalIn_Rat 9998 r s w
    unfold aggR at *
    rw [this, h3]
    simp [Result.andThen]
  simp only [execOp, hx, hy, Sem.run_bind, h1, h2, Result.andThen_ok]
  rfl
end

def few (r : RR) : Bool := decide (r.num.size ≤ 24) && decide (r.den.size ≤ 24)
theorem few_Lr {r : RR} (h : few r = true) : Lr r ≤ 24 := by
  simp only [few, Bool.and_eq_true, decide_eq_true_eq] at h
  unfold Lr; omega
end Go.Proofs.YtfocimgpahjkmaaDoor
namespace Go.Sx
open Go Go.RowKit

structure Ch where
  claim : Int
  prio : Int
  lim : Bool
  limit : RR
structure It where
  price : RR
  costs : RR
  charges : List Ch
def encCh (c : Ch) : List Value := [.int .i64 c.claim, .int .i64 c.prio, .bool c.lim, .bool c.limit.neg, .string c.limit.num, .string c.limit.den]
def encIt (x : It × Value) : List Value := [.bool x.1.price.neg, .string x.1.price.num, .string x.1.price.den, .bool x.1.costs.neg, .string x.1.costs.num, .string x.1.costs.den, x.2]
def aggIt (x : It) (cv : Value) : Value := .agg #[.bool x.price.neg, .string x.price.num, .string x.price.den, .bool x.costs.neg, .string x.costs.num, .string x.costs.den, cv]
def zCh : Ch := ⟨0, 0, false, ⟨false, ⟨#[]⟩, ⟨#[]⟩⟩⟩
def zIt : It := ⟨⟨false, ⟨#[]⟩, ⟨#[]⟩⟩, ⟨false, ⟨#[]⟩, ⟨#[]⟩⟩, []⟩
/-- A slice of items: each with its own slice of charges. -/
structure Its (w : World) (v : Value) (X : List It) (cvs : List Value) : Prop where
  len : cvs.length = X.length
  sl : Sl encIt 7 w v (X.zip cvs)
  ch : ∀ i, i < X.length → Sl encCh 6 w (cvs.getD i undef) (X.getD i zIt).charges
theorem Its.below {w w' : World} {v : Value} {X : List It} {cvs : List Value} (h : Its w v X cvs) (hb : Below w.heap.size w w') : Its w' v X cvs := ⟨h.len, h.sl.below hb, fun i hi => (h.ch i hi).below hb⟩
theorem Its.zlen {w : World} {v : Value} {X : List It} {cvs : List Value} (h : Its w v X cvs) : (X.zip cvs).length = X.length := by rw [List.length_zip, h.len]; omega
theorem Its.zget {w : World} {v : Value} {X : List It} {cvs : List Value} (h : Its w v X cvs) {i : Nat} (hi : i < X.length) : (X.zip cvs).getD i (zIt, undef) = (X.getD i zIt, cvs.getD i undef) := by
  have h1 : i < cvs.length := by rw [h.len]; exact hi
  have h2 : i < (X.zip cvs).length := by rw [h.zlen]; exact hi
  rw [List.getD_eq_getElem?_getD, List.getElem?_eq_getElem h2, List.getElem_zip, List.getD_eq_getElem?_getD, List.getElem?_eq_getElem hi, List.getD_eq_getElem?_getD, List.getElem?_eq_getElem h1]; rfl

/-- The first error of a list's members, or 0. -/
def firstE {α : Type} (f : α → Int) : List α → Int
  | [] => 0
  | x :: l => if f x = 0 then firstE f l else f x
theorem firstE_append {α : Type} (f : α → Int) (l m : List α) : firstE f (l ++ m) = if firstE f l = 0 then firstE f m else firstE f l := by
  induction l with
  | nil => simp [firstE]
  | cons x l ih =>
    simp only [List.cons_append, firstE, ih]
    by_cases h : f x = 0 <;> simp [h]
theorem firstE_step {α : Type} (f : α → Int) (l : List α) (d : α) {i : Nat} (hi : i < l.length) (h : firstE f (l.take i) = 0) :
    (f (l.getD i d) = 0 → firstE f (l.take (i + 1)) = 0) ∧ (f (l.getD i d) ≠ 0 → firstE f l = f (l.getD i d)) := by
  have ht : l.take (i + 1) = l.take i ++ [l.getD i d] := by
    rw [List.take_succ_eq_append_getElem hi, List.getD_eq_getElem?_getD, List.getElem?_eq_getElem hi]; rfl
  constructor
  · intro h1
    rw [ht, firstE_append, h, if_pos rfl, firstE, if_pos h1]; rfl
  · intro h1
    have hl : l = l.take i ++ (l.getD i d :: l.drop (i + 1)) := by
      conv => lhs; rw [← List.take_append_drop (i + 1) l, ht, List.append_assoc]
      rfl
    conv => lhs; rw [hl]
    rw [firstE_append, h, if_pos rfl, firstE, if_neg h1]
def chErr (m : Nat) (c : Ch) : Int := if c.claim < 0 ∨ (m : Int) ≤ c.claim then 1 else if c.lim = true ∧ toQ c.limit < 0 then 7 else 0
def itErr (m : Nat) (x : It) : Int := if 8 < x.charges.length then 2 else if toQ x.price < 0 ∨ toQ x.costs < 0 then 7 else firstE (chErr m) x.charges
def negs (l : List RR) : Bool := l.any fun r => decide (toQ r < 0)
def checkE (X : List It) (owed : List RR) : Int := if 8 < X.length ∨ 24 < owed.length then 2 else if negs owed = true then 7 else firstE (itErr owed.length) X
/-- How long the numbers of items are. -/
def ItB (k : Nat) (X : List It) : Prop := ∀ x ∈ X, Lr x.price ≤ k ∧ Lr x.costs ≤ k ∧ ∀ c ∈ x.charges, Lr c.limit ≤ k
def RB (k : Nat) (l : List RR) : Prop := ∀ r ∈ l, Lr r ≤ k
end Go.Sx
namespace Go.Proofs.YtfocimgpahjkmaaDoor
open Go Go.RowKit Go.Sx

theorem lam_ok (r : RR) (w : World) (hr : Lr r ≤ MX) :
    Ret Tryd.prog 37 #[aggR r] w fun v w' => v = .bool (decide (toQ r < 0)) ∧ Below w.heap.size w w' := by
  have hS := St.init w
  refine enter Tryd.func37 rfl Tryd.ntmps37 rfl ?_
  repeat (with_reducible first | refine c_seq ?_ | refine c_block ?_ | refine c_skip ?_ | refine x_then ?_ | refine x_block ?_)
  refine c_reg ?_
  refine l_heavy rfl (s_box (new := encR r)  rfl rfl hS ?_)
  intro b1 wz2 hS hBz2
  refine l_pure rfl (s_asg  rfl ?_)
  refine l_nil ?_
  repeat (with_reducible first | refine c_seq ?_ | refine c_block ?_ | refine c_skip ?_ | refine x_then ?_ | refine x_block ?_)
  refine c_reg ?_
  refine l_read rfl (s_ldo (k := 0)  rfl vi_32 hS rfl rfl rfl (.inl rfl) ?_)
  refine l_heavy rfl (s_call Tryd.call38 rfl (Sign_ok r _ hr) ?_)
  rintro _ wc3 ⟨rfl, hBc3⟩
  replace hS := hS.grow hBc3
  refine l_pure rfl (s_lss  rfl rfl ?_)
  refine l_pure rfl (s_asg  rfl ?_)
  refine l_nil ?_
  repeat (with_reducible first | refine c_seq ?_ | refine c_block ?_ | refine c_skip ?_ | refine x_then ?_ | refine x_block ?_)
  refine c_ret ?_
  repeat (with_reducible first | refine x_then_ret ?_ | refine x_block_ret ?_)
  refine r_one rfl rfl ?_
  exact ⟨congrArg Value.bool (decide_eq_decide.2 sgnQ_neg), hS.below⟩

theorem negs_take (l : List RR) {i : Nat} (hi : i < l.length) (h : negs (l.take i) = false) : (¬ toQ (l.getD i zRR) < 0 → negs (l.take (i + 1)) = false) ∧ (toQ (l.getD i zRR) < 0 → negs l = true) := by
  have ht := take_succ' l i zRR hi
  constructor
  · intro h1
    unfold negs at *
    rw [ht, List.any_append, h]
    simpa using h1
  · intro h1
    unfold negs
    rw [List.any_eq_true]
    exact ⟨_, getD_mem l i zRR hi, decide_eq_true h1⟩
theorem IndexFunc_ok (v : Value) (l : List RR) (w : World) (hv : Sl encR 3 w v l) (hl : RB MX l) :
    Ret Tryd.prog 54 #[v, .func (.func 37) #[] #[]] w fun r w' => (∃ k : Int, r = .int .i64 k ∧ (0 ≤ k ↔ negs l = true)) ∧ Below w.heap.size w w' := by
  have hmax := hv.maxLen
  have hS := St.init w
  refine enter Tryd.func54 rfl Tryd.ntmps54 rfl ?_
  repeat (with_reducible first | refine c_seq ?_ | refine c_block ?_ | refine c_skip ?_ | refine x_then ?_ | refine x_block ?_)
  refine c_reg ?_
  refine l_pure rfl (s_asg  rfl ?_)
  refine l_nil ?_
  repeat (with_reducible first | refine c_seq ?_ | refine c_block ?_ | refine c_skip ?_ | refine x_then ?_ | refine x_block ?_)
  refine c_reg ?_
  refine l_pure rfl (s_move  rfl ?_)
  refine l_pure rfl (s_lenr  rfl (hv.below hS.below) ⟨_, Tryd.underlying24⟩ ?_)
  refine l_pure rfl (s_move  rfl ?_)
  refine l_nil ?_
  repeat (with_reducible first | refine c_seq ?_ | refine c_block ?_ | refine c_skip ?_ | refine x_then ?_ | refine x_block ?_)
  refine c_loop (σ := Nat) (fun i ρ w' => i ≤ l.length ∧ negs (l.take i) = false ∧ ρ 0 = v ∧ ρ 1 = .func (.func 37) #[] #[] ∧ ρ 7 = .int .i64 l.length ∧ ρ 8 = .int .i64 i ∧ St w w' []) (fun i => l.length - i) 0
    ⟨Nat.zero_le _, rfl, rfl, rfl, rfl, rfl, hS⟩ ?_
  clear hS
  rintro i ρ w2 ⟨hi, hn, h0, h1, h7, h8, hS⟩
  repeat (with_reducible first | refine c_seq ?_ | refine c_block ?_ | refine c_skip ?_ | refine x_then ?_ | refine x_block ?_)
  refine c_reg ?_
  refine l_pure rfl (s_lss  h8 h7 ?_)
  refine l_nil ?_
  repeat (with_reducible first | refine c_seq ?_ | refine c_block ?_ | refine c_skip ?_ | refine x_then ?_ | refine x_block ?_)
  by_cases hlt : i < l.length
  · refine c_yes rfl (decide_eq_true (by omega)) ?_
    repeat (with_reducible first | refine c_seq ?_ | refine c_block ?_ | refine c_skip ?_ | refine x_then ?_ | refine x_block ?_)
    obtain ⟨t1, t2⟩ := negs_take l hlt hn
    repeat (with_reducible first | refine c_seq ?_ | refine c_block ?_ | refine c_skip ?_ | refine x_then ?_ | refine x_block ?_)
    refine c_reg ?_
    refine l_pure rfl (s_move  h8 ?_)
    refine l_pure rfl (s_asg  rfl ?_)
    refine l_nil ?_
    repeat (with_reducible first | refine c_seq ?_ | refine c_block ?_ | refine c_skip ?_ | refine x_then ?_ | refine x_block ?_)
    refine c_reg ?_
    refine l_pure rfl (s_move  h1 ?_)
    refine l_pure rfl (s_move  h0 ?_)
    refine l_pure rfl (s_move  rfl ?_)
    refine l_pure rfl (s_ixr (i := i)  rfl rfl (hv.below hS.below) (by omega) (by first | omega | (simp; done) | (simp; omega)) si_24 ?_)
    refine l_read rfl (s_lde (i := i) zRR  rfl vi_32 (hv.below hS.below) (by first | omega | (simp; done) | (simp; omega)) rfl rfl (.inl rfl) ?_)
    refine l_heavy rfl (s_callv Tryd.call37 rfl rfl (lam_ok (l.getD i zRR) _ (hl _ (getD_mem l i zRR hlt))) ?_)
    rintro r w3 ⟨rfl, hB3⟩
    replace hS := hS.grow hB3
    refine l_nil ?_
    repeat (with_reducible first | refine c_seq ?_ | refine c_block ?_ | refine c_skip ?_ | refine x_then ?_ | refine x_block ?_)
    by_cases hneg : toQ (l.getD i zRR) < 0
    · refine c_yes rfl (decide_eq_true hneg) ?_
      repeat (with_reducible first | refine c_seq ?_ | refine c_block ?_ | refine c_skip ?_ | refine x_then ?_ | refine x_block ?_)
      refine c_reg ?_
      refine l_pure rfl (s_move  rfl ?_)
      refine l_pure rfl (s_asg  rfl ?_)
      refine l_nil ?_
      repeat (with_reducible first | refine c_seq ?_ | refine c_block ?_ | refine c_skip ?_ | refine x_then ?_ | refine x_block ?_)
      refine c_ret ?_
      repeat (with_reducible first | refine x_then_ret ?_ | refine x_block_ret ?_)
      refine r_one rfl rfl ?_
      exact ⟨⟨_, rfl, ⟨fun _ => t2 hneg, fun _ => by omega⟩⟩, hS.below⟩
    · refine c_no rfl (decide_eq_false hneg) ?_
      repeat (with_reducible first | refine c_seq ?_ | refine c_block ?_ | refine c_skip ?_ | refine x_then ?_ | refine x_block ?_)
      refine c_reg ?_
      refine l_pure rfl (s_add  h8 rfl (IntWalk.i64_in _ (by omega)) ?_)
      refine l_pure rfl (s_move  rfl ?_)
      refine l_nil ?_
      repeat (with_reducible first | refine c_seq ?_ | refine c_block ?_ | refine c_skip ?_ | refine x_then ?_ | refine x_block ?_)
      exact ⟨i + 1, _, rfl, ⟨hlt, t1 hneg, h0, h1, h7, vi rfl (by omega), hS⟩, by omega⟩
  · refine c_no rfl (decide_eq_false (by omega)) ?_
    repeat (with_reducible first | refine c_seq ?_ | refine c_block ?_ | refine c_skip ?_ | refine x_then ?_ | refine x_block ?_)
    refine c_exit ?_
    repeat (with_reducible first | refine x_then_exit ?_ | refine x_block_exit ?_ | refine x_block_pass rfl ?_)
    repeat (with_reducible first | refine c_seq ?_ | refine c_block ?_ | refine c_skip ?_ | refine x_then ?_ | refine x_block ?_)
    obtain rfl : i = l.length := by omega
    rw [List.take_length] at hn
    repeat (with_reducible first | refine c_seq ?_ | refine c_block ?_ | refine c_skip ?_ | refine x_then ?_ | refine x_block ?_)
    refine c_reg ?_
    refine l_pure rfl (s_asg  rfl ?_)
    refine l_nil ?_
    repeat (with_reducible first | refine c_seq ?_ | refine c_block ?_ | refine c_skip ?_ | refine x_then ?_ | refine x_block ?_)
    refine c_ret ?_
    repeat (with_reducible first | refine x_then_ret ?_ | refine x_block_ret ?_)
    refine r_one rfl rfl ?_
    exact ⟨⟨_, rfl, ⟨fun h => by omega, fun h => by rw [hn] at h; cases h⟩⟩, hS.below⟩
theorem ContainsFunc_ok (v : Value) (l : List RR) (w : World) (hv : Sl encR 3 w v l) (hl : RB MX l) :
    Ret Tryd.prog 36 #[v, .func (.func 37) #[] #[]] w fun r w' => r = .bool (negs l) ∧ Below w.heap.size w w' := by
  have hS := St.init w
  refine enter Tryd.func36 rfl Tryd.ntmps36 rfl ?_
  repeat (with_reducible first | refine c_seq ?_ | refine c_block ?_ | refine c_skip ?_ | refine x_then ?_ | refine x_block ?_)
  refine c_reg ?_
  refine l_pure rfl (s_asg  rfl ?_)
  refine l_nil ?_
  repeat (with_reducible first | refine c_seq ?_ | refine c_block ?_ | refine c_skip ?_ | refine x_then ?_ | refine x_block ?_)
  refine c_reg ?_
  refine l_pure rfl (s_move  rfl ?_)
  refine l_pure rfl (s_move  rfl ?_)
  refine l_heavy rfl (s_call Tryd.call54 rfl (IndexFunc_ok v l _ hv hl) ?_)
  rintro r w3 ⟨⟨k, rfl, hk⟩, hB3⟩
  replace hS := hS.grow hB3
  refine l_pure rfl (s_geq  rfl rfl ?_)
  refine l_pure rfl (s_asg  rfl ?_)
  refine l_nil ?_
  repeat (with_reducible first | refine c_seq ?_ | refine c_block ?_ | refine c_skip ?_ | refine x_then ?_ | refine x_block ?_)
  refine c_ret ?_
  repeat (with_reducible first | refine x_then_ret ?_ | refine x_block_ret ?_)
  refine r_one rfl rfl ?_
  refine ⟨congrArg Value.bool ?_, hS.below⟩
  rw [Bool.eq_iff_iff, decide_eq_true_iff]; exact hk


set_option maxHeartbeats 1000000 in
theorem Check_ok (vi_ vo : Value) (X : List It) (cvs : List Value) (owed : List RR) (w : World) (hX : Its w vi_ X cvs) (ho : Sl encR 3 w vo owed) (hXB : ItB MX X) (hoB : RB MX owed) :
    Ret Tryd.prog 19 #[vi_, vo] w fun r w' => r = .int .i64 (checkE X owed) ∧ Below w.heap.size w w' := by
  have hmo := ho.maxLen
  have hmX := hX.sl.maxLen
  rw [hX.zlen] at hmX
  have hzl := hX.zlen
  have hS := St.init w
  obtain ⟨m, hm⟩ : ∃ m, m = owed.length := ⟨_, rfl⟩
  refine enter Tryd.func19 rfl Tryd.ntmps19 rfl ?_
  repeat (with_reducible first | refine c_seq ?_ | refine c_block ?_ | refine c_skip ?_ | refine x_then ?_ | refine x_block ?_)
  refine c_reg ?_
  refine l_pure rfl (s_asg  rfl ?_)
  refine l_nil ?_
  repeat (with_reducible first | refine c_seq ?_ | refine c_block ?_ | refine c_skip ?_ | refine x_then ?_ | refine x_block ?_)
  refine c_cut1 (fun ρ w' => ρ 0 = vi_ ∧ ρ 1 = vo ∧ ρ 16 = .bool (decide (8 < X.length ∨ 24 < owed.length)) ∧ w = w') ?_ ?_
  · by_cases h1 : 8 < X.length
    · repeat (with_reducible first | refine c_seq ?_ | refine c_block ?_ | refine c_skip ?_ | refine x_then ?_ | refine x_block ?_)
      refine c_reg ?_
      refine l_pure rfl (s_move  rfl ?_)
      refine l_pure rfl (s_lenr  rfl (hX.sl.below hS.below) ⟨_, Tryd.underlying26⟩ ?_)
      refine l_pure rfl (s_gtr  rfl rfl ?_)
      refine l_pure rfl (s_move  rfl ?_)
      refine l_no (gno_yes 12 (by kernel_rfl) rfl (decide_eq_true (by omega))) ?_
      refine l_no (gno_yes 12 (by kernel_rfl) rfl (decide_eq_true (by omega))) ?_
      refine l_no (gno_yes 12 (by kernel_rfl) rfl (decide_eq_true (by omega))) ?_
      refine l_pure rfl (s_pick (vb rfl (decide_eq_true (by omega))) rfl ?_)
      refine l_nil ?_
      repeat (with_reducible first | refine c_seq ?_ | refine c_block ?_ | refine c_skip ?_ | refine x_then ?_ | refine x_block ?_)
      exact ⟨_, rfl, rfl, rfl, vb rfl (decide_eq_true (.inl h1)).symm, rfl⟩
    · repeat (with_reducible first | refine c_seq ?_ | refine c_block ?_ | refine c_skip ?_ | refine x_then ?_ | refine x_block ?_)
      refine c_reg ?_
      refine l_pure rfl (s_move  rfl ?_)
      refine l_pure rfl (s_lenr  rfl (hX.sl.below hS.below) ⟨_, Tryd.underlying26⟩ ?_)
      refine l_pure rfl (s_gtr  rfl rfl ?_)
      refine l_pure rfl (s_move  rfl ?_)
      refine l_pure (gd_yes 12 (by kernel_rfl) rfl (decide_eq_false (by omega))) (s_move  rfl ?_)
      refine l_pure (gd_yes 12 (by kernel_rfl) rfl (decide_eq_false (by omega))) (s_lenr  rfl (ho.below hS.below) ⟨_, Tryd.underlying24⟩ ?_)
      refine l_pure (gd_yes 12 (by kernel_rfl) rfl (decide_eq_false (by omega))) (s_gtr  rfl rfl ?_)
      refine l_pure rfl (s_pick (vb rfl (decide_eq_false (by omega))) rfl ?_)
      refine l_nil ?_
      repeat (with_reducible first | refine c_seq ?_ | refine c_block ?_ | refine c_skip ?_ | refine x_then ?_ | refine x_block ?_)
      exact ⟨_, rfl, rfl, rfl, vb rfl (by rw [decide_eq_decide]; omega), rfl⟩
  rintro ρ w' ⟨h0, h1, h16, rfl⟩
  repeat (with_reducible first | refine c_seq ?_ | refine c_block ?_ | refine c_skip ?_ | refine x_then ?_ | refine x_block ?_)
  by_cases hlong : 8 < X.length ∨ 24 < owed.length
  · refine c_yes h16 (decide_eq_true hlong) ?_
    repeat (with_reducible first | refine c_seq ?_ | refine c_block ?_ | refine c_skip ?_ | refine x_then ?_ | refine x_block ?_)
    refine c_reg ?_
    refine l_pure rfl (s_asg  rfl ?_)
    refine l_nil ?_
    repeat (with_reducible first | refine c_seq ?_ | refine c_block ?_ | refine c_skip ?_ | refine x_then ?_ | refine x_block ?_)
    refine c_ret ?_
    repeat (with_reducible first | refine x_then_ret ?_ | refine x_block_ret ?_)
    refine r_one rfl rfl ?_
    exact ⟨vi rfl (by unfold checkE; rw [if_pos hlong]), hS.below⟩
  refine c_no h16 (decide_eq_false hlong) ?_
  repeat (with_reducible first | refine c_seq ?_ | refine c_block ?_ | refine c_skip ?_ | refine x_then ?_ | refine x_block ?_)
  refine c_reg ?_
  refine l_pure rfl (s_move  h1 ?_)
  refine l_heavy rfl (s_call Tryd.call36 rfl (ContainsFunc_ok vo owed _ ho hoB) ?_)
  rintro _ wc1 ⟨rfl, hBc1⟩
  replace hS := hS.grow hBc1
  refine l_nil ?_
  repeat (with_reducible first | refine c_seq ?_ | refine c_block ?_ | refine c_skip ?_ | refine x_then ?_ | refine x_block ?_)
  by_cases hneg : negs owed = true
  · refine c_yes rfl (hneg) ?_
    repeat (with_reducible first | refine c_seq ?_ | refine c_block ?_ | refine c_skip ?_ | refine x_then ?_ | refine x_block ?_)
    refine c_reg ?_
    refine l_pure rfl (s_asg  rfl ?_)
    refine l_nil ?_
    repeat (with_reducible first | refine c_seq ?_ | refine c_block ?_ | refine c_skip ?_ | refine x_then ?_ | refine x_block ?_)
    refine c_ret ?_
    repeat (with_reducible first | refine x_then_ret ?_ | refine x_block_ret ?_)
    refine r_one rfl rfl ?_
    exact ⟨vi rfl (by unfold checkE; rw [if_neg hlong, if_pos hneg]), hS.below⟩
  refine c_no rfl (by rw [← Bool.not_eq_true]; exact hneg) ?_
  repeat (with_reducible first | refine c_seq ?_ | refine c_block ?_ | refine c_skip ?_ | refine x_then ?_ | refine x_block ?_)
  have hfin : checkE X owed = firstE (itErr m) X := by unfold checkE; rw [if_neg hlong, if_neg hneg, hm]
  rw [hfin]
  repeat (with_reducible first | refine c_seq ?_ | refine c_block ?_ | refine c_skip ?_ | refine x_then ?_ | refine x_block ?_)
  refine c_reg ?_
  refine l_pure rfl (s_move  h0 ?_)
  refine l_pure rfl (s_lenr  rfl (hX.sl.below hS.below) ⟨_, Tryd.underlying26⟩ ?_)
  refine l_pure rfl (s_move  rfl ?_)
  refine l_nil ?_
  repeat (with_reducible first | refine c_seq ?_ | refine c_block ?_ | refine c_skip ?_ | refine x_then ?_ | refine x_block ?_)
  refine c_loop (σ := Nat) (fun i ρ w' => i ≤ X.length ∧ firstE (itErr m) (X.take i) = 0 ∧ ρ 1 = vo ∧ ρ 19 = vi_ ∧ ρ 20 = .int .i64 X.length ∧ ρ 21 = .int .i64 i ∧ St w w' []) (fun i => X.length - i) 0
    ⟨Nat.zero_le _, rfl, h1, rfl, vi rfl (by rw [hzl]), rfl, hS⟩ ?_
  clear hS h0 h1 h16
  rintro i ρ w2 ⟨hi, hok1, h1, h19, h20, h21, hS⟩
  repeat (with_reducible first | refine c_seq ?_ | refine c_block ?_ | refine c_skip ?_ | refine x_then ?_ | refine x_block ?_)
  refine c_reg ?_
  refine l_pure rfl (s_lss  h21 h20 ?_)
  refine l_nil ?_
  repeat (with_reducible first | refine c_seq ?_ | refine c_block ?_ | refine c_skip ?_ | refine x_then ?_ | refine x_block ?_)
  by_cases hlt : i < X.length
  · refine c_yes rfl (decide_eq_true (by omega)) ?_
    repeat (with_reducible first | refine c_seq ?_ | refine c_block ?_ | refine c_skip ?_ | refine x_then ?_ | refine x_block ?_)
    obtain ⟨x, hx⟩ : ∃ x, x = X.getD i zIt := ⟨_, rfl⟩
    obtain ⟨cv, hcv⟩ : ∃ cv, cv = cvs.getD i undef := ⟨_, rfl⟩
    have hmem : x ∈ X := by rw [hx]; exact getD_mem X i zIt hlt
    have hxB := hXB x hmem
    have hch := hX.ch i hlt
    rw [← hx, ← hcv] at hch
    have hmc := hch.maxLen
    obtain ⟨ca, ccap, hcve, _⟩ := hch.form
    subst hcve
    have hzg := hX.zget hlt
    rw [← hx, ← hcv] at hzg
    obtain ⟨f1, f2⟩ := firstE_step (itErr m) X zIt hlt hok1
    rw [← hx] at f1 f2
    repeat (with_reducible first | refine c_seq ?_ | refine c_block ?_ | refine c_skip ?_ | refine x_then ?_ | refine x_block ?_)
    refine c_reg ?_
    refine l_pure rfl (s_ixr (i := i)  h19 h21 (hX.sl.below hS.below) (by omega) (by first | omega | (simp; done) | (simp; omega)) si_26 ?_)
    refine l_read rfl (s_lde (v := aggIt x (.slice ca x.charges.length ccap)) (i := i) (zIt, undef)  rfl vi_50 (hX.sl.below hS.below) (by omega) rfl (by rw [hzg]; rfl) (.inl rfl) ?_)
    refine l_heavy rfl (s_alloc  vi_50 hS ?_)
    intro b2 wz3 hS hBz3
    refine l_heavy rfl (s_sta (k := 0)  rfl rfl vi_50 hS rfl rfl rfl (Nat.le_of_ble_eq_true rfl) rfl ?_)
    intro wz4 hS
    refine l_nil ?_
    repeat (with_reducible first | refine c_seq ?_ | refine c_block ?_ | refine c_skip ?_ | refine x_then ?_ | refine x_block ?_)
    replace hS : St w _ [(b2, 50, encIt (x, .slice ca x.charges.length ccap))] := hS
    repeat (with_reducible first | refine c_seq ?_ | refine c_block ?_ | refine c_skip ?_ | refine x_then ?_ | refine x_block ?_)
    refine c_reg ?_
    refine l_pure rfl (s_fld  rfl fo_50_2 ?_)
    refine l_read rfl (s_ldo (k := 0)  rfl vi_48 hS rfl rfl rfl (.inr rfl) ?_)
    refine l_pure rfl (s_lenr  rfl (hch.below hS.below) ⟨_, Tryd.underlying48⟩ ?_)
    refine l_pure rfl (s_gtr  rfl rfl ?_)
    refine l_nil ?_
    repeat (with_reducible first | refine c_seq ?_ | refine c_block ?_ | refine c_skip ?_ | refine x_then ?_ | refine x_block ?_)
    by_cases hl8 : 8 < x.charges.length
    · refine c_yes rfl (decide_eq_true (by omega)) ?_
      repeat (with_reducible first | refine c_seq ?_ | refine c_block ?_ | refine c_skip ?_ | refine x_then ?_ | refine x_block ?_)
      have he : itErr m x = 2 := by unfold itErr; rw [if_pos hl8]
      repeat (with_reducible first | refine c_seq ?_ | refine c_block ?_ | refine c_skip ?_ | refine x_then ?_ | refine x_block ?_)
      refine c_reg ?_
      refine l_pure rfl (s_asg  rfl ?_)
      refine l_nil ?_
      repeat (with_reducible first | refine c_seq ?_ | refine c_block ?_ | refine c_skip ?_ | refine x_then ?_ | refine x_block ?_)
      refine c_ret ?_
      repeat (with_reducible first | refine x_then_ret ?_ | refine x_block_ret ?_)
      refine r_one rfl rfl ?_
      exact ⟨vi rfl (by rw [f2 (by rw [he]; decide), he]), hS.below⟩
    refine c_no rfl (decide_eq_false (by omega)) ?_
    repeat (with_reducible first | refine c_seq ?_ | refine c_block ?_ | refine c_skip ?_ | refine x_then ?_ | refine x_block ?_)
    refine c_cut1 (fun ρ w' => ρ 1 = vo ∧ ρ 6 = .pointer (some ⟨b2, 0, none⟩) ∧ ρ 19 = vi_ ∧ ρ 20 = .int .i64 X.length ∧ ρ 21 = .int .i64 i ∧ ρ 38 = .bool (decide (toQ x.price < 0 ∨ toQ x.costs < 0)) ∧ St w w' [(b2, 50, encIt (x, .slice ca x.charges.length ccap))]) ?_ ?_
    · repeat (with_reducible first | refine c_seq ?_ | refine c_block ?_ | refine c_skip ?_ | refine x_then ?_ | refine x_block ?_)
      by_cases hp : toQ x.price < 0
      · repeat (with_reducible first | refine c_seq ?_ | refine c_block ?_ | refine c_skip ?_ | refine x_then ?_ | refine x_block ?_)
        refine c_reg ?_
        refine l_pure rfl (s_fld  rfl fo_50_0 ?_)
        refine l_read rfl (s_ldo (k := 0)  rfl vi_32 hS rfl rfl rfl (.inl rfl) ?_)
        refine l_heavy rfl (s_call Tryd.call38 rfl (Sign_ok x.price _ hxB.1) ?_)
        rintro _ wc5 ⟨rfl, hBc5⟩
        replace hS := hS.grow hBc5
        refine l_pure rfl (s_lss  rfl rfl ?_)
        refine l_pure rfl (s_move  rfl ?_)
        refine l_no (gno_yes 33 (by kernel_rfl) rfl (decide_eq_true (sgnQ_neg.2 hp))) ?_
        refine l_no (gno_yes 33 (by kernel_rfl) rfl (decide_eq_true (sgnQ_neg.2 hp))) ?_
        refine l_no (gno_yes 33 (by kernel_rfl) rfl (decide_eq_true (sgnQ_neg.2 hp))) ?_
        refine l_no (gno_yes 33 (by kernel_rfl) rfl (decide_eq_true (sgnQ_neg.2 hp))) ?_
        refine l_pure rfl (s_pick (vb rfl (decide_eq_true (sgnQ_neg.2 hp))) rfl ?_)
        refine l_nil ?_
        repeat (with_reducible first | refine c_seq ?_ | refine c_block ?_ | refine c_skip ?_ | refine x_then ?_ | refine x_block ?_)
        exact ⟨_, rfl, h1, rfl, h19, h20, h21, vb rfl (decide_eq_true (.inl hp)).symm, hS⟩
      · repeat (with_reducible first | refine c_seq ?_ | refine c_block ?_ | refine c_skip ?_ | refine x_then ?_ | refine x_block ?_)
        refine c_reg ?_
        refine l_pure rfl (s_fld  rfl fo_50_0 ?_)
        refine l_read rfl (s_ldo (k := 0)  rfl vi_32 hS rfl rfl rfl (.inl rfl) ?_)
        refine l_heavy rfl (s_call Tryd.call38 rfl (Sign_ok x.price _ hxB.1) ?_)
        rintro _ wc6 ⟨rfl, hBc6⟩
        replace hS := hS.grow hBc6
        refine l_pure rfl (s_lss  rfl rfl ?_)
        refine l_pure rfl (s_move  rfl ?_)
        refine l_pure (gd_yes 33 (by kernel_rfl) rfl (decide_eq_false (fun g => hp (sgnQ_neg.1 g)))) (s_fld  rfl fo_50_1 ?_)
        refine l_read (gd_yes 33 (by kernel_rfl) rfl (decide_eq_false (fun g => hp (sgnQ_neg.1 g)))) (s_ldo (k := 0)  rfl vi_32 hS rfl rfl rfl (.inl rfl) ?_)
        refine l_heavy (gd_yes 33 (by kernel_rfl) rfl (decide_eq_false (fun g => hp (sgnQ_neg.1 g)))) (s_call Tryd.call38 rfl (Sign_ok x.costs _ hxB.2.1) ?_)
        rintro _ wc7 ⟨rfl, hBc7⟩
        replace hS := hS.grow hBc7
        refine l_pure (gd_yes 33 (by kernel_rfl) rfl (decide_eq_false (fun g => hp (sgnQ_neg.1 g)))) (s_lss  rfl rfl ?_)
        refine l_pure rfl (s_pick (vb rfl (decide_eq_false (fun g => hp (sgnQ_neg.1 g)))) rfl ?_)
        refine l_nil ?_
        repeat (with_reducible first | refine c_seq ?_ | refine c_block ?_ | refine c_skip ?_ | refine x_then ?_ | refine x_block ?_)
        exact ⟨_, rfl, h1, rfl, h19, h20, h21, vb rfl (by rw [decide_eq_decide, sgnQ_neg]; exact ⟨.inr, fun g => g.resolve_left hp⟩), hS⟩
    clear hS h1 h19 h20 h21
    rintro ρ w3 ⟨h1, h6, h19, h20, h21, h38, hS⟩
    repeat (with_reducible first | refine c_seq ?_ | refine c_block ?_ | refine c_skip ?_ | refine x_then ?_ | refine x_block ?_)
    by_cases hneg2 : toQ x.price < 0 ∨ toQ x.costs < 0
    · refine c_yes h38 (decide_eq_true hneg2) ?_
      repeat (with_reducible first | refine c_seq ?_ | refine c_block ?_ | refine c_skip ?_ | refine x_then ?_ | refine x_block ?_)
      have he : itErr m x = 7 := by unfold itErr; rw [if_neg hl8, if_pos hneg2]
      repeat (with_reducible first | refine c_seq ?_ | refine c_block ?_ | refine c_skip ?_ | refine x_then ?_ | refine x_block ?_)
      refine c_reg ?_
      refine l_pure rfl (s_asg  rfl ?_)
      refine l_nil ?_
      repeat (with_reducible first | refine c_seq ?_ | refine c_block ?_ | refine c_skip ?_ | refine x_then ?_ | refine x_block ?_)
      refine c_ret ?_
      repeat (with_reducible first | refine x_then_ret ?_ | refine x_block_ret ?_)
      refine r_one rfl rfl ?_
      exact ⟨vi rfl (by rw [f2 (by rw [he]; decide), he]), hS.below⟩
    refine c_no h38 (decide_eq_false hneg2) ?_
    repeat (with_reducible first | refine c_seq ?_ | refine c_block ?_ | refine c_skip ?_ | refine x_then ?_ | refine x_block ?_)
    have he : itErr m x = firstE (chErr m) x.charges := by unfold itErr; rw [if_neg hl8, if_neg hneg2]
    rw [he] at f1 f2
    repeat (with_reducible first | refine c_seq ?_ | refine c_block ?_ | refine c_skip ?_ | refine x_then ?_ | refine x_block ?_)
    refine c_reg ?_
    refine l_pure rfl (s_fld  h6 fo_50_2 ?_)
    refine l_read rfl (s_ldo (k := 0)  rfl vi_48 hS rfl rfl rfl (.inr rfl) ?_)
    refine l_pure rfl (s_lenr  rfl (hch.below hS.below) ⟨_, Tryd.underlying48⟩ ?_)
    refine l_pure rfl (s_move  rfl ?_)
    refine l_nil ?_
    repeat (with_reducible first | refine c_seq ?_ | refine c_skip ?_ | refine x_then ?_ | refine x_block ?_)
    refine c_cut1 (fun ρ w' => firstE (chErr m) x.charges = 0 ∧ ρ 1 = vo ∧ ρ 19 = vi_ ∧ ρ 20 = .int .i64 X.length ∧ ρ 21 = .int .i64 i ∧ St w w' []) ?_ ?_
    · repeat (with_reducible first | refine c_seq ?_ | refine c_block ?_ | refine c_skip ?_ | refine x_then ?_ | refine x_block ?_)
      refine c_loop (σ := Nat) (fun k ρ w' => k ≤ x.charges.length ∧ firstE (chErr m) (x.charges.take k) = 0 ∧ ρ 1 = vo ∧ ρ 19 = vi_ ∧ ρ 20 = .int .i64 X.length ∧ ρ 21 = .int .i64 i ∧ ρ 40 = .slice ca x.charges.length ccap ∧ ρ 41 = .int .i64 x.charges.length ∧ ρ 42 = .int .i64 k ∧ St w w' []) (fun k => x.charges.length - k) 0
        ⟨Nat.zero_le _, rfl, h1, h19, h20, h21, rfl, rfl, rfl, hS.drop (List.nil_sublist _)⟩ ?_
      clear hS h1 h6 h19 h20 h21 h38
      rintro k ρ w4 ⟨hk1, hok, h1, h19, h20, h21, h40, h41, h42, hS⟩
      repeat (with_reducible first | refine c_seq ?_ | refine c_block ?_ | refine c_skip ?_ | refine x_then ?_ | refine x_block ?_)
      refine c_reg ?_
      refine l_pure rfl (s_lss  h42 h41 ?_)
      refine l_nil ?_
      repeat (with_reducible first | refine c_seq ?_ | refine c_block ?_ | refine c_skip ?_ | refine x_then ?_ | refine x_block ?_)
      by_cases hk : k < x.charges.length
      · refine c_yes rfl (decide_eq_true (by omega)) ?_
        repeat (with_reducible first | refine c_seq ?_ | refine c_block ?_ | refine c_skip ?_ | refine x_then ?_ | refine x_block ?_)
        obtain ⟨c, hc⟩ : ∃ c, c = x.charges.getD k zCh := ⟨_, rfl⟩
        have hm2 : c ∈ x.charges := by rw [hc]; exact getD_mem x.charges k zCh hk
        have hcl : Lr c.limit ≤ MX := hxB.2.2 c hm2
        obtain ⟨e1, e2⟩ := firstE_step (chErr m) x.charges zCh hk hok
        rw [← hc] at e1 e2
        repeat (with_reducible first | refine c_seq ?_ | refine c_block ?_ | refine c_skip ?_ | refine x_then ?_ | refine x_block ?_)
        refine c_reg ?_
        refine l_pure rfl (s_ixr (i := k)  h40 h42 (hch.below hS.below) (by omega) (by first | omega | (simp; done) | (simp; omega)) si_48 ?_)
        refine l_read rfl (s_lde (i := k) zCh  rfl vi_52 (hch.below hS.below) (by first | omega | (simp; done) | (simp; omega)) rfl rfl (.inl rfl) ?_)
        refine l_heavy rfl (s_alloc  vi_52 hS ?_)
        intro b8 wz9 hS hBz9
        refine l_heavy rfl (s_sta (k := 0)  rfl rfl vi_52 hS rfl rfl rfl (Nat.le_of_ble_eq_true rfl) rfl ?_)
        intro wz10 hS
        refine l_nil ?_
        repeat (with_reducible first | refine c_seq ?_ | refine c_block ?_ | refine c_skip ?_ | refine x_then ?_ | refine x_block ?_)
        rw [← hc] at hS
        replace hS : St w _ [(_, 52, encCh c)] := hS
        refine c_cut1 (fun ρ w' => ρ 1 = vo ∧ ρ 8 = .pointer (some ⟨b8, 0, none⟩) ∧ ρ 19 = vi_ ∧ ρ 20 = .int .i64 X.length ∧ ρ 21 = .int .i64 i ∧ ρ 40 = .slice ca x.charges.length ccap ∧ ρ 41 = .int .i64 x.charges.length ∧ ρ 42 = .int .i64 k ∧ ρ 55 = .bool (decide (c.claim < 0 ∨ (m : Int) ≤ c.claim)) ∧ St w w' [(b8, 52, encCh c)]) ?_ ?_
        · repeat (with_reducible first | refine c_seq ?_ | refine c_block ?_ | refine c_skip ?_ | refine x_then ?_ | refine x_block ?_)
          by_cases hp : c.claim < 0
          · repeat (with_reducible first | refine c_seq ?_ | refine c_block ?_ | refine c_skip ?_ | refine x_then ?_ | refine x_block ?_)
            refine c_reg ?_
            refine l_pure rfl (s_fld  rfl fo_52_0 ?_)
            refine l_read rfl (s_ldo (k := 0)  rfl vi_3 hS rfl rfl rfl (.inr rfl) ?_)
            refine l_pure rfl (s_lss  rfl rfl ?_)
            refine l_pure rfl (s_move  rfl ?_)
            refine l_no (gno_yes 49 (by kernel_rfl) rfl (decide_eq_true hp)) ?_
            refine l_no (gno_yes 49 (by kernel_rfl) rfl (decide_eq_true hp)) ?_
            refine l_no (gno_yes 49 (by kernel_rfl) rfl (decide_eq_true hp)) ?_
            refine l_no (gno_yes 49 (by kernel_rfl) rfl (decide_eq_true hp)) ?_
            refine l_no (gno_yes 49 (by kernel_rfl) rfl (decide_eq_true hp)) ?_
            refine l_pure rfl (s_pick (vb rfl (decide_eq_true hp)) rfl ?_)
            refine l_nil ?_
            repeat (with_reducible first | refine c_seq ?_ | refine c_block ?_ | refine c_skip ?_ | refine x_then ?_ | refine x_block ?_)
            exact ⟨_, rfl, h1, rfl, h19, h20, h21, h40, h41, h42, vb rfl (decide_eq_true (.inl hp)).symm, hS⟩
          · repeat (with_reducible first | refine c_seq ?_ | refine c_block ?_ | refine c_skip ?_ | refine x_then ?_ | refine x_block ?_)
            refine c_reg ?_
            refine l_pure rfl (s_fld  rfl fo_52_0 ?_)
            refine l_read rfl (s_ldo (k := 0)  rfl vi_3 hS rfl rfl rfl (.inr rfl) ?_)
            refine l_pure rfl (s_lss  rfl rfl ?_)
            refine l_pure rfl (s_move  rfl ?_)
            refine l_pure (gd_yes 49 (by kernel_rfl) rfl (decide_eq_false hp)) (s_fld  rfl fo_52_0 ?_)
            refine l_read (gd_yes 49 (by kernel_rfl) rfl (decide_eq_false hp)) (s_ldo (k := 0)  rfl vi_3 hS rfl rfl rfl (.inr rfl) ?_)
            refine l_pure (gd_yes 49 (by kernel_rfl) rfl (decide_eq_false hp)) (s_move  h1 ?_)
            refine l_pure (gd_yes 49 (by kernel_rfl) rfl (decide_eq_false hp)) (s_lenr  rfl (ho.below hS.below) ⟨_, Tryd.underlying24⟩ ?_)
            refine l_pure (gd_yes 49 (by kernel_rfl) rfl (decide_eq_false hp)) (s_geq  rfl rfl ?_)
            refine l_pure rfl (s_pick (vb rfl (decide_eq_false hp)) rfl ?_)
            refine l_nil ?_
            repeat (with_reducible first | refine c_seq ?_ | refine c_block ?_ | refine c_skip ?_ | refine x_then ?_ | refine x_block ?_)
            exact ⟨_, rfl, h1, rfl, h19, h20, h21, h40, h41, h42, vb rfl (by rw [decide_eq_decide]; omega), hS⟩
        clear hS h1 h19 h20 h21 h40 h41 h42
        rintro ρ w5 ⟨h1, h8, h19, h20, h21, h40, h41, h42, h55, hS⟩
        repeat (with_reducible first | refine c_seq ?_ | refine c_block ?_ | refine c_skip ?_ | refine x_then ?_ | refine x_block ?_)
        by_cases hr : c.claim < 0 ∨ (m : Int) ≤ c.claim
        · refine c_yes h55 (decide_eq_true hr) ?_
          repeat (with_reducible first | refine c_seq ?_ | refine c_block ?_ | refine c_skip ?_ | refine x_then ?_ | refine x_block ?_)
          have he1 : chErr m c = 1 := by unfold chErr; rw [if_pos hr]
          repeat (with_reducible first | refine c_seq ?_ | refine c_block ?_ | refine c_skip ?_ | refine x_then ?_ | refine x_block ?_)
          refine c_reg ?_
          refine l_pure rfl (s_asg  rfl ?_)
          refine l_nil ?_
          repeat (with_reducible first | refine c_seq ?_ | refine c_block ?_ | refine c_skip ?_ | refine x_then ?_ | refine x_block ?_)
          refine c_ret ?_
          repeat (with_reducible first | refine x_then_ret ?_ | refine x_block_ret ?_)
          refine r_one rfl rfl ?_
          exact ⟨vi rfl (by rw [f2 (by rw [e2 (by rw [he1]; decide), he1]; decide), e2 (by rw [he1]; decide), he1]), hS.below⟩
        refine c_no h55 (decide_eq_false hr) ?_
        repeat (with_reducible first | refine c_seq ?_ | refine c_block ?_ | refine c_skip ?_ | refine x_then ?_ | refine x_block ?_)
        refine c_cut1 (fun ρ w' => ρ 1 = vo ∧ ρ 19 = vi_ ∧ ρ 20 = .int .i64 X.length ∧ ρ 21 = .int .i64 i ∧ ρ 40 = .slice ca x.charges.length ccap ∧ ρ 41 = .int .i64 x.charges.length ∧ ρ 42 = .int .i64 k ∧ ρ 63 = .bool (decide (c.lim = true ∧ toQ c.limit < 0)) ∧ St w w' [(b8, 52, encCh c)]) ?_ ?_
        · repeat (with_reducible first | refine c_seq ?_ | refine c_block ?_ | refine c_skip ?_ | refine x_then ?_ | refine x_block ?_)
          by_cases hp : c.lim = true
          · repeat (with_reducible first | refine c_seq ?_ | refine c_block ?_ | refine c_skip ?_ | refine x_then ?_ | refine x_block ?_)
            refine c_reg ?_
            refine l_pure rfl (s_fld  h8 fo_52_2 ?_)
            refine l_read rfl (s_ldo (k := 0)  rfl vi_4 hS rfl rfl rfl (.inr rfl) ?_)
            refine l_pure rfl (s_move  rfl ?_)
            refine l_pure (gd_yes 58 (by kernel_rfl) rfl hp) (s_fld  h8 fo_52_3 ?_)
            refine l_read (gd_yes 58 (by kernel_rfl) rfl hp) (s_ldo (k := 0)  rfl vi_32 hS rfl rfl rfl (.inl rfl) ?_)
            refine l_heavy (gd_yes 58 (by kernel_rfl) rfl hp) (s_call Tryd.call38 rfl (Sign_ok c.limit _ hcl) ?_)
            rintro _ wc11 ⟨rfl, hBc11⟩
            replace hS := hS.grow hBc11
            refine l_pure (gd_yes 58 (by kernel_rfl) rfl hp) (s_lss  rfl rfl ?_)
            refine l_pure rfl (s_pick (vb rfl hp) rfl ?_)
            refine l_nil ?_
            repeat (with_reducible first | refine c_seq ?_ | refine c_block ?_ | refine c_skip ?_ | refine x_then ?_ | refine x_block ?_)
            exact ⟨_, rfl, h1, h19, h20, h21, h40, h41, h42, vb rfl (by rw [decide_eq_decide, sgnQ_neg]; exact ⟨fun g => ⟨hp, g⟩, fun g => g.2⟩), hS⟩
          · repeat (with_reducible first | refine c_seq ?_ | refine c_block ?_ | refine c_skip ?_ | refine x_then ?_ | refine x_block ?_)
            refine c_reg ?_
            refine l_pure rfl (s_fld  h8 fo_52_2 ?_)
            refine l_read rfl (s_ldo (k := 0)  rfl vi_4 hS rfl rfl rfl (.inr rfl) ?_)
            refine l_pure rfl (s_move  rfl ?_)
            refine l_no (gno_yes 58 (by kernel_rfl) rfl (show c.lim = false from Bool.eq_false_iff.2 hp)) ?_
            refine l_no (gno_yes 58 (by kernel_rfl) rfl (show c.lim = false from Bool.eq_false_iff.2 hp)) ?_
            refine l_no (gno_yes 58 (by kernel_rfl) rfl (show c.lim = false from Bool.eq_false_iff.2 hp)) ?_
            refine l_no (gno_yes 58 (by kernel_rfl) rfl (show c.lim = false from Bool.eq_false_iff.2 hp)) ?_
            refine l_pure rfl (s_pick (vb rfl (show c.lim = false from Bool.eq_false_iff.2 hp)) rfl ?_)
            refine l_nil ?_
            repeat (with_reducible first | refine c_seq ?_ | refine c_block ?_ | refine c_skip ?_ | refine x_then ?_ | refine x_block ?_)
            exact ⟨_, rfl, h1, h19, h20, h21, h40, h41, h42, vb rfl (decide_eq_false (fun g => hp g.1)).symm, hS⟩
        clear hS h1 h8 h19 h20 h21 h40 h41 h42 h55
        rintro ρ w6 ⟨h1, h19, h20, h21, h40, h41, h42, h63, hS⟩
        repeat (with_reducible first | refine c_seq ?_ | refine c_block ?_ | refine c_skip ?_ | refine x_then ?_ | refine x_block ?_)
        by_cases hlm : c.lim = true ∧ toQ c.limit < 0
        · refine c_yes h63 (decide_eq_true hlm) ?_
          repeat (with_reducible first | refine c_seq ?_ | refine c_block ?_ | refine c_skip ?_ | refine x_then ?_ | refine x_block ?_)
          have he1 : chErr m c = 7 := by unfold chErr; rw [if_neg hr, if_pos hlm]
          repeat (with_reducible first | refine c_seq ?_ | refine c_block ?_ | refine c_skip ?_ | refine x_then ?_ | refine x_block ?_)
          refine c_reg ?_
          refine l_pure rfl (s_asg  rfl ?_)
          refine l_nil ?_
          repeat (with_reducible first | refine c_seq ?_ | refine c_block ?_ | refine c_skip ?_ | refine x_then ?_ | refine x_block ?_)
          refine c_ret ?_
          repeat (with_reducible first | refine x_then_ret ?_ | refine x_block_ret ?_)
          refine r_one rfl rfl ?_
          exact ⟨vi rfl (by rw [f2 (by rw [e2 (by rw [he1]; decide), he1]; decide), e2 (by rw [he1]; decide), he1]), hS.below⟩
        refine c_no h63 (decide_eq_false hlm) ?_
        repeat (with_reducible first | refine c_seq ?_ | refine c_block ?_ | refine c_skip ?_ | refine x_then ?_ | refine x_block ?_)
        have he1 : chErr m c = 0 := by unfold chErr; rw [if_neg hr, if_neg hlm]
        repeat (with_reducible first | refine c_seq ?_ | refine c_block ?_ | refine c_skip ?_ | refine x_then ?_ | refine x_block ?_)
        refine c_reg ?_
        refine l_pure rfl (s_add  h42 rfl (IntWalk.i64_in _ (by omega)) ?_)
        refine l_pure rfl (s_move  rfl ?_)
        refine l_nil ?_
        repeat (with_reducible first | refine c_seq ?_ | refine c_block ?_ | refine c_skip ?_ | refine x_then ?_ | refine x_block ?_)
        exact ⟨k + 1, _, rfl, ⟨hk, e1 he1, h1, h19, h20, h21, h40, h41, vi rfl (by omega), hS.drop (List.nil_sublist _)⟩, by omega⟩
      · refine c_no rfl (decide_eq_false (by omega)) ?_
        repeat (with_reducible first | refine c_seq ?_ | refine c_block ?_ | refine c_skip ?_ | refine x_then ?_ | refine x_block ?_)
        refine c_exit ?_
        repeat (with_reducible first | refine x_then_exit ?_ | refine x_block_exit ?_ | refine x_block_pass rfl ?_)
        repeat (with_reducible first | refine c_seq ?_ | refine c_block ?_ | refine c_skip ?_ | refine x_then ?_ | refine x_block ?_)
        obtain rfl : k = x.charges.length := by omega
        rw [List.take_length] at hok
        exact ⟨_, rfl, hok, h1, h19, h20, h21, hS⟩
    clear hS h1 h6 h19 h20 h21 h38
    rintro ρ w7 ⟨hok2, h1, h19, h20, h21, hS⟩
    repeat (with_reducible first | refine c_seq ?_ | refine c_block ?_ | refine c_skip ?_ | refine x_then ?_ | refine x_block ?_)
    refine c_reg ?_
    refine l_pure rfl (s_add  h21 rfl (IntWalk.i64_in _ (by omega)) ?_)
    refine l_pure rfl (s_move  rfl ?_)
    refine l_nil ?_
    repeat (with_reducible first | refine c_seq ?_ | refine c_block ?_ | refine c_skip ?_ | refine x_then ?_ | refine x_block ?_)
    exact ⟨i + 1, _, rfl, ⟨hlt, f1 hok2, h1, h19, h20, vi rfl (by omega), hS⟩, by omega⟩
  · refine c_no rfl (decide_eq_false (by omega)) ?_
    repeat (with_reducible first | refine c_seq ?_ | refine c_block ?_ | refine c_skip ?_ | refine x_then ?_ | refine x_block ?_)
    refine c_exit ?_
    repeat (with_reducible first | refine x_then_exit ?_ | refine x_block_exit ?_ | refine x_block_pass rfl ?_)
    repeat (with_reducible first | refine c_seq ?_ | refine c_block ?_ | refine c_skip ?_ | refine x_then ?_ | refine x_block ?_)
    obtain rfl : i = X.length := by omega
    rw [List.take_length] at hok1
    repeat (with_reducible first | refine c_seq ?_ | refine c_block ?_ | refine c_skip ?_ | refine x_then ?_ | refine x_block ?_)
    refine c_reg ?_
    refine l_pure rfl (s_asg  rfl ?_)
    refine l_nil ?_
    repeat (with_reducible first | refine c_seq ?_ | refine c_block ?_ | refine c_skip ?_ | refine x_then ?_ | refine x_block ?_)
    refine c_ret ?_
    repeat (with_reducible first | refine x_then_ret ?_ | refine x_block_ret ?_)
    refine r_one rfl rfl ?_
    exact ⟨vi rfl hok1.symm, hS.below⟩
end Go.Proofs.YtfocimgpahjkmaaDoor
namespace Go.Proofs.YtfocimgpahjkmaaDoor
open Go Go.RowKit Go.Sx

theorem positive_ok (r : RR) (w : World) (hr : Lr r + 1 ≤ MX) :
    Ret Tryd.prog 55 #[aggR r] w fun v w' => v = aggR (ofQ (maxQ (toQ r) 0)) ∧ Below w.heap.size w w' := by
  have hz : toQ zRR = 0 := by rw [← toQ_ofQ 0, ofQ_zero]; rfl
  have hzl : Lr zRR = 1 := by decide
  have hS := St.init w
  refine enter Tryd.func55 rfl Tryd.ntmps55 rfl ?_
  repeat (with_reducible first | refine c_seq ?_ | refine c_block ?_ | refine c_skip ?_ | refine x_then ?_ | refine x_block ?_)
  refine c_reg ?_
  refine l_heavy rfl (s_box (new := encR r)  rfl rfl hS ?_)
  intro b1 wz2 hS hBz2
  refine l_heavy rfl (s_alloc  vi_32 hS ?_)
  intro b3 wz4 hS hBz4
  refine l_nil ?_
  repeat (with_reducible first | refine c_seq ?_ | refine c_block ?_ | refine c_skip ?_ | refine x_then ?_ | refine x_block ?_)
  refine c_reg ?_
  refine l_read rfl (s_ldo (k := 1)  rfl vi_32 hS rfl rfl rfl (.inl rfl) ?_)
  refine l_pure rfl (s_build  rfl bz_32 ?_)
  refine l_heavy rfl (s_call Tryd.call69 rfl (QMax_ok r zRR _ (by omega)) ?_)
  rintro _ wc5 ⟨rfl, hBc5⟩
  replace hS := hS.grow hBc5
  refine l_heavy rfl (s_sta (k := 0)  rfl rfl vi_32 hS rfl rfl rfl (Nat.le_of_ble_eq_true rfl) rfl ?_)
  intro wz6 hS
  refine l_nil ?_
  repeat (with_reducible first | refine c_seq ?_ | refine c_block ?_ | refine c_skip ?_ | refine x_then ?_ | refine x_block ?_)
  refine c_ret ?_
  repeat (with_reducible first | refine x_then_ret ?_ | refine x_block_ret ?_)
  refine r_cell (k := 0) rfl rfl vi_32 hS rfl rfl ?_
  rw [hz]
  exact ⟨rfl, hS.below⟩
theorem posQ_max (q : Rat) : posQ q = maxQ q 0 := by
  unfold posQ maxQ
  by_cases h : q < 0
  · rw [if_pos h, if_neg (Rat.not_le.2 h)]
  · rw [if_neg h, if_pos (Rat.not_lt.1 h)]
theorem L_max (p q : Rat) : L (maxQ p q) ≤ max (L p) (L q) := by unfold maxQ; split <;> omega
theorem L_min (p q : Rat) : L (minQ p q) ≤ max (L p) (L q) := by unfold minQ; split <;> omega
theorem L_max0 (p : Rat) : L (maxQ p 0) ≤ L p := by
  have h1 := L_max p 0
  have h2 := L_pos p
  rw [L_zero] at h1
  omega
/-- The proceeds of an item. -/
def procQ (x : It) : Rat := maxQ (maxQ (toQ x.price) 0 - maxQ (toQ x.costs) 0) 0
theorem L_proc (x : It) : L (procQ x) ≤ Lr x.price + Lr x.costs + 1 := by
  unfold procQ
  have h1 := L_max0 (maxQ (toQ x.price) 0 - maxQ (toQ x.costs) 0)
  have h2 := L_sub (maxQ (toQ x.price) 0) (maxQ (toQ x.costs) 0)
  have h3 := L_max0 (toQ x.price)
  have h4 := L_max0 (toQ x.costs)
  have h5 := L_toQ x.price
  have h6 := L_toQ x.costs
  omega
theorem Proceeds_ok (x : It) (ca : Option Addr) (n cap : Nat) (w : World) (hr : Lr x.price + Lr x.costs + 2 ≤ MX) :
    Ret Tryd.prog 39 #[aggIt x (.slice ca n cap)] w fun v w' => v = aggR (ofQ (procQ x)) ∧ Below w.heap.size w w' := by
  have h1 := L_max0 (toQ x.price)
  have h2 := L_max0 (toQ x.costs)
  have h3 := L_toQ x.price
  have h4 := L_toQ x.costs
  have h5 := L_sub (maxQ (toQ x.price) 0) (maxQ (toQ x.costs) 0)
  have hS := St.init w
  refine enter Tryd.func39 rfl Tryd.ntmps39 rfl ?_
  repeat (with_reducible first | refine c_seq ?_ | refine c_block ?_ | refine c_skip ?_ | refine x_then ?_ | refine x_block ?_)
  refine c_reg ?_
  refine l_heavy rfl (s_box (new := encIt (x, .slice ca n cap))  rfl rfl hS ?_)
  intro b1 wz2 hS hBz2
  refine l_heavy rfl (s_alloc  vi_32 hS ?_)
  intro b3 wz4 hS hBz4
  refine l_nil ?_
  repeat (with_reducible first | refine c_seq ?_ | refine c_block ?_ | refine c_skip ?_ | refine x_then ?_ | refine x_block ?_)
  refine c_draw [(0, .pure), (1, .read), (3, .pure), (4, .read), (2, .grow), (5, .grow), (6, .grow), (7, .grow), (8, .free)] (by kernel_rfl) (by kernel_rfl) hS ?_
  intro wz5 hS hBz5
  refine w_pure rfl rfl (s_fld  rfl fo_50_0 ?_)
  refine w_read rfl rfl (s_ldo (k := 1)  rfl vi_32 hS rfl rfl rfl (.inl rfl) ?_)
  refine w_pure rfl rfl (s_fld  rfl fo_50_1 ?_)
  refine w_read rfl rfl (s_ldo (k := 1)  rfl vi_32 hS rfl rfl rfl (.inl rfl) ?_)
  refine w_grow rfl rfl (s_call Tryd.call55 rfl (positive_ok x.price _ (by omega)) ?_)
  rintro _ wc6 ⟨rfl, hBc6⟩
  replace hS := hS.grow hBc6
  refine ⟨hBc6, ?_⟩
  refine w_grow rfl rfl (s_call Tryd.call55 rfl (positive_ok x.costs _ (by omega)) ?_)
  rintro _ wc7 ⟨rfl, hBc7⟩
  replace hS := hS.grow hBc7
  refine ⟨hBc7, ?_⟩
  refine w_grow rfl rfl (s_call Tryd.call15 rfl (QSubtract_ok (ofQ (maxQ (toQ x.price) 0)) (ofQ (maxQ (toQ x.costs) 0)) _ (by rw [Lr_ofQ, Lr_ofQ]; omega)) ?_)
  rintro _ wc8 ⟨rfl, hBc8⟩
  replace hS := hS.grow hBc8
  refine ⟨hBc8, ?_⟩
  rw [toQ_ofQ, toQ_ofQ]
  refine w_grow rfl rfl (s_call Tryd.call55 rfl (positive_ok (ofQ (maxQ (toQ x.price) 0 - maxQ (toQ x.costs) 0)) _ (by rw [Lr_ofQ]; omega)) ?_)
  rintro _ wc9 ⟨rfl, hBc9⟩
  replace hS := hS.grow hBc9
  refine ⟨hBc9, ?_⟩
  refine w_free rfl rfl (s_sta (k := 0)  rfl rfl vi_32 hS rfl rfl rfl (Nat.le_of_ble_eq_true rfl) rfl ?_)
  intro wz10 hS
  refine w_end ?_
  repeat (with_reducible first | refine c_seq ?_ | refine c_block ?_ | refine c_skip ?_ | refine x_then ?_ | refine x_block ?_)
  refine c_ret ?_
  repeat (with_reducible first | refine x_then_ret ?_ | refine x_block_ret ?_)
  refine r_cell (k := 0) rfl rfl vi_32 hS rfl rfl ?_
  rw [toQ_ofQ]
  exact ⟨rfl, hS.below⟩

/-- Has a claim a charge on an item? -/
def secures (x : It) (c : Int) : Bool := x.charges.any fun k => decide (k.claim = c)
theorem secures_take (l : List Ch) (c : Int) {i : Nat} (hi : i < l.length) (h : (l.take i).any (fun k => decide (k.claim = c)) = false) :
    ((l.getD i zCh).claim ≠ c → (l.take (i + 1)).any (fun k => decide (k.claim = c)) = false) ∧ ((l.getD i zCh).claim = c → l.any (fun k => decide (k.claim = c)) = true) := by
  have ht := take_succ' l i zCh hi
  constructor
  · intro h1
    rw [ht, List.any_append, h]
    simpa using h1
  · intro h1
    rw [List.any_eq_true]
    exact ⟨_, getD_mem l i zCh hi, decide_eq_true h1⟩
end Go.Proofs.YtfocimgpahjkmaaDoor
namespace Go.Proofs.YtfocimgpahjkmaaDoor
open Go Go.RowKit Go.Sx

def sumIf (n : Nat) (p : Nat → Bool) (f : Nat → Rat) : Rat :=
  match n with
  | 0 => 0
  | n + 1 => sumIf n p f + (if p n = true then f n else 0)
theorem sumIf_congr {n : Nat} {p q : Nat → Bool} {f g : Nat → Rat} (h : ∀ i, i < n → p i = q i ∧ f i = g i) : sumIf n p f = sumIf n q g := by
  induction n with
  | zero => rfl
  | succ n ih =>
    rw [sumIf, sumIf, ih (fun i hi => h i (by omega)), (h n (by omega)).1, (h n (by omega)).2]
theorem sumIf_none (n : Nat) (f : Nat → Rat) : sumIf n (fun _ => false) f = 0 := by
  induction n with
  | zero => rfl
  | succ n ih => rw [sumIf, ih]; simp [Rat.add_zero]
theorem L_sumIf (n : Nat) (p : Nat → Bool) (f : Nat → Rat) (K : Nat) (h : ∀ i, i < n → L (f i) ≤ K) : L (sumIf n p f) ≤ n * (K + 1) + 1 := by
  induction n with
  | zero => rw [sumIf, L_zero]; omega
  | succ n ih =>
    have h1 := ih (fun i hi => h i (by omega))
    have h2 := h n (by omega)
    rw [sumIf, Nat.add_mul]
    split
    · have := L_add (sumIf n p f) (f n); omega
    · rw [Rat.add_zero]; omega
/-- One more member of the set. -/
theorem sumIf_add {n : Nat} {p q : Nat → Bool} {f : Nat → Rat} {j : Nat} (hj : j < n) (hp : p j = false) (hq : q j = true) (h : ∀ i, i < n → i ≠ j → p i = q i) : sumIf n q f = sumIf n p f + f j := by
  induction n with
  | zero => omega
  | succ n ih =>
    rw [sumIf, sumIf]
    by_cases hjn : j = n
    · subst hjn
      rw [sumIf_congr (p := q) (q := p) (g := f) (fun i hi => ⟨(h i (by omega) (by omega)).symm, rfl⟩), hp, hq]
      simp [Rat.add_zero]
    · rw [ih (by omega) (fun i hi hne => h i (by omega) hne), h n (by omega) (fun e => hjn e.symm)]
      grind
def mins (f : Nat → Rat) : Nat → Rat
  | 0 => f 0
  | k + 1 => minQ (mins f k) (f k)
theorem L_mins (f : Nat → Rat) (K N : Nat) (h : ∀ i, i < N ∨ i = 0 → L (f i) ≤ K) : L (mins f N) ≤ K := by
  induction N with
  | zero => exact h 0 (.inr rfl)
  | succ N ih =>
    have h1 := ih (fun i hi => h i (by omega))
    have h2 := h N (.inl (by omega))
    have := L_min (mins f N) (f N)
    rw [mins]; omega
theorem mins_one (f : Nat → Rat) : mins f 1 = f 0 := by unfold mins mins minQ; split <;> rfl
/-- Does a claim have a charge on an item outside of the cut? -/
def outs (X : List It) (cut c : Nat) : Bool := (List.range X.length).any fun i => !cut.testBit i && secures (X.getD i zIt) c
def prF (X : List It) (i : Nat) : Rat := procQ (X.getD i zIt)
def owF (owed : List RR) (c : Nat) : Rat := toQ (owed.getD c zRR)
def capF (X : List It) (owed : List RR) (set : Nat → Bool) (cut : Nat) : Rat :=
  sumIf X.length (fun i => cut.testBit i) (prF X) + sumIf owed.length (fun c => set c && outs X cut c) (owF owed)
def capQ (X : List It) (owed : List RR) (set : Nat → Bool) : Rat := mins (capF X owed set) (2 ^ X.length)
def preQ (X : List It) (owed : List RR) (k : Nat) : Rat := if k = 0 then 0 else capQ X owed (fun i => decide (i < k))
def totQ (X : List It) (owed : List RR) : List Rat := (List.range owed.length).map fun c => preQ X owed (c + 1) - preQ X owed c
theorem L_prF {X : List It} {K : Nat} (h : ItB K X) {i : Nat} (hi : i < X.length) : L (prF X i) ≤ 2 * K + 1 := by
  have h1 := h _ (getD_mem X i zIt hi)
  have h2 := L_proc (X.getD i zIt)
  unfold prF; omega
theorem L_owF {owed : List RR} {K : Nat} (h : RB K owed) {c : Nat} (hc : c < owed.length) : L (owF owed c) ≤ K :=
  Nat.le_trans (L_toQ _) (h _ (getD_mem owed c zRR hc))
theorem L_capF {X : List It} {owed : List RR} {K : Nat} (hX : ItB K X) (ho : RB K owed) (hx8 : X.length ≤ 8) (ho24 : owed.length ≤ 24) (set : Nat → Bool) (cut : Nat) : L (capF X owed set cut) ≤ 40 * K + 45 := by
  unfold capF
  have h1 := L_sumIf X.length (fun i => cut.testBit i) (prF X) (2 * K + 1) (fun i hi => L_prF hX hi)
  have h2 := L_sumIf owed.length (fun c => set c && outs X cut c) (owF owed) K (fun c hc => L_owF ho hc)
  have h3 := L_add (sumIf X.length (fun i => cut.testBit i) (prF X)) (sumIf owed.length (fun c => set c && outs X cut c) (owF owed))
  have h4 : X.length * (2 * K + 1 + 1) ≤ 8 * (2 * K + 1 + 1) := Nat.mul_le_mul_right _ hx8
  have h5 : owed.length * (K + 1) ≤ 24 * (K + 1) := Nat.mul_le_mul_right _ ho24
  omega
theorem L_capQ {X : List It} {owed : List RR} {K : Nat} (hX : ItB K X) (ho : RB K owed) (hx8 : X.length ≤ 8) (ho24 : owed.length ≤ 24) (set : Nat → Bool) : L (capQ X owed set) ≤ 40 * K + 45 :=
  L_mins _ _ _ (fun i _ => L_capF hX ho hx8 ho24 set i)
theorem L_preQ {X : List It} {owed : List RR} {K : Nat} (hX : ItB K X) (ho : RB K owed) (hx8 : X.length ≤ 8) (ho24 : owed.length ≤ 24) (k : Nat) : L (preQ X owed k) ≤ 40 * K + 45 := by
  unfold preQ
  split
  · rw [L_zero]; omega
  · exact L_capQ hX ho hx8 ho24 _

/-! ### Bits -/
/-- The lowest bit that is set. -/
def low (x : Nat) : Nat := ((List.range 8).find? fun i => x.testBit i).getD 0
theorem low_fin : ∀ x : Fin 256, x.val ≠ 0 → low x.val < 8 ∧ x.val.testBit (low x.val) = true ∧ (x.val &&& (x.val - 1)) < x.val ∧ ∀ i : Fin 8, (x.val &&& (x.val - 1)).testBit i.val = (x.val.testBit i.val && decide (i.val ≠ low x.val)) := by decide +kernel
theorem low_spec {x n : Nat} (hx : x ≠ 0) (hn : n ≤ 8) (h : x < 2 ^ n) : low x < n ∧ x.testBit (low x) = true ∧ (x &&& (x - 1)) < x ∧ (∀ i, i < n → (x &&& (x - 1)).testBit i = (x.testBit i && decide (i ≠ low x))) := by
  have h8 : x < 256 := Nat.lt_of_lt_of_le h (show 2 ^ n ≤ 2 ^ 8 from Nat.pow_le_pow_right (by decide) hn)
  obtain ⟨a, b, c, d⟩ := low_fin ⟨x, h8⟩ hx
  refine ⟨?_, b, c, fun i hi => d ⟨i, by omega⟩⟩
  rcases Nat.lt_or_ge (low x) n with g | g
  · exact g
  · exfalso
    have : x.testBit (low x) = false := Nat.testBit_lt_two_pow (Nat.lt_of_lt_of_le h (Nat.pow_le_pow_right (by decide) g))
    rw [this] at b; cases b
/-- What a cut pays: by its lowest item. -/
theorem cut_step (f : Nat → Rat) {n x : Nat} (hx : x ≠ 0) (hn : n ≤ 8) (h : x < 2 ^ n) : sumIf n (fun i => x.testBit i) f = sumIf n (fun i => (x &&& (x - 1)).testBit i) f + f (low x) := by
  obtain ⟨a, b, _, d⟩ := low_spec hx hn h
  refine sumIf_add a ?_ b (fun i hi hne => ?_)
  · rw [d _ a]; simp
  · rw [d i hi]; simp [hne]
end Go.Proofs.YtfocimgpahjkmaaDoor
namespace Go.Proofs.YtfocimgpahjkmaaDoor
open Go Go.RowKit Go.Sx

def tzTab : List Nat := [0, 1, 56, 2, 57, 49, 28, 3, 61, 58, 42, 50, 38, 29, 17, 4, 62, 47, 59, 36, 45, 43, 51, 22, 53, 39, 33, 30, 24, 18, 12, 5, 63, 55, 48, 27, 60, 41, 37, 16, 46, 35, 44, 21, 52, 32, 23, 11, 54, 26, 40, 15, 34, 20, 31, 10, 25, 14, 19, 9, 13, 8, 7, 6]
theorem tz_fin : ∀ x : Fin 256, x.val ≠ 0 → ((x.val &&& (18446744073709551616 - x.val)) * 285870213051353865) % 18446744073709551616 / 2 ^ 58 < 64 ∧
    tzTab.getD (((x.val &&& (18446744073709551616 - x.val)) * 285870213051353865) % 18446744073709551616 / 2 ^ 58) 0 = low x.val ∧ (x.val &&& (18446744073709551616 - x.val)) ≤ 128 := by decide +kernel
section
variable {P : Program} {N : Nat} {ρ : Nat → Value} {w : World}
  {d : Option Tmp} {ty : TypeId} {pos : String} {aft : Array Edge} {g : Option (Nat × Bool)} {x y : Operand} {t e : TypeId} {K : Value → Prop}
/-- A place in an array that is a variable of the program's. -/
theorem s_ixg {b n i sz : Nat} {zz : List Value} {kk : IntKind} {m : Int} (hx : ev N ρ x = .pointer (some ⟨b, 0, none⟩)) (hy : ev N ρ y = .int kk m) (hm : m = (i : Int)) (hi : i < n)
    (ht : P.underlying t = some (.array n e)) (he : vinfo P e = some (sz, false, zz)) (h : K (.pointer (some ⟨b, i * sz, none⟩))) :
    Pure1 P N ρ ⟨d, .indexAddr t x y, ty, pos, aft, g⟩ K := by
  obtain ⟨ii, dd, zv, hi1, hu, _, hsz, _⟩ := vinfo_parts he
  subst hm hsz
  refine ⟨_, fun w => ?_, h⟩
  simp [execOp, hx, hy, Instr.indexAt, asIntOf, run_underlying ht, hi, sizeOf, typeInfo, hi1, add_lit, Instr.sureAddr]
end
theorem TrailingZeros64_ok (x : Nat) (w : World) (h0 : x ≠ 0) (h8 : x < 256) (hT : At w ⟨2, 0, none⟩ (Kr .u8 tzTab)) :
    Ret Tryd.prog 66 #[.int .u64 x] w fun v w' => v = .int .i64 (low x) ∧ w' = w := by
  obtain ⟨a, b, c⟩ := tz_fin ⟨x, h8⟩ h0
  simp only at a b c
  obtain ⟨y, hy⟩ : ∃ y, y = x &&& (18446744073709551616 - x) := ⟨_, rfl⟩
  rw [← hy] at a b c
  obtain ⟨i, hi⟩ : ∃ i, i = y * 285870213051353865 % 18446744073709551616 / 2 ^ 58 := ⟨_, rfl⟩
  rw [← hi] at a b
  have hl : low x < 8 := (low_fin ⟨x, h8⟩ h0).1
  have hge : (Kr .u8 tzTab)[i]? = some (.int .u8 (low x : Nat)) := by rw [Kr_get _ _ (by show i < 64; exact a), b]
  have hcell := hT i _ hge
  rw [add_lit, Nat.zero_add] at hcell
  refine enter Tryd.func66 rfl Tryd.ntmps66 rfl ?_
  repeat (with_reducible first | refine c_seq ?_ | refine c_block ?_ | refine c_skip ?_ | refine x_then ?_ | refine x_block ?_)
  refine c_reg ?_
  refine l_pure rfl (s_asg  rfl ?_)
  refine l_nil ?_
  repeat (with_reducible first | refine c_seq ?_ | refine c_block ?_ | refine c_skip ?_ | refine x_then ?_ | refine x_block ?_)
  refine c_reg ?_
  refine l_pure rfl (s_move  rfl ?_)
  refine l_pure rfl (s_eql  rfl rfl ?_)
  refine l_nil ?_
  repeat (with_reducible first | refine c_seq ?_ | refine c_block ?_ | refine c_skip ?_ | refine x_then ?_ | refine x_block ?_)
  refine c_no rfl (decide_eq_false (by omega)) ?_
  repeat (with_reducible first | refine c_seq ?_ | refine c_block ?_ | refine c_skip ?_ | refine x_then ?_ | refine x_block ?_)
  refine c_reg ?_
  refine l_pure rfl (s_move  rfl ?_)
  refine l_pure rfl (s_move  rfl ?_)
  refine l_pure rfl (s_neg  rfl (r := ((18446744073709551616 - x : Nat) : Int)) (by rw [wrapm_u64]; omega) ?_)
  refine l_pure rfl (s_and  rfl rfl (r := ((y : Nat) : Int)) (by rw [hy]; exact and_nat rfl _ _ (by show x < 18446744073709551616; omega) (by show _ < 18446744073709551616; omega)) ?_)
  refine l_pure rfl (s_mul  rfl rfl (r := ((y * 285870213051353865 % 18446744073709551616 : Nat) : Int)) (by rw [wrapm_u64]; omega) ?_)
  refine l_pure rfl (s_shr  rfl rfl (by omega) (r := ((i : Nat) : Int)) (by rw [hi]; exact shr_v _ 58 (by decide)) ?_)
  refine l_pure rfl (s_ixg (n := 64) (i := i) rfl rfl rfl a Tryd.underlying112 vi_5 ?_)
  refine l_read rfl (s_ld (v := .int .u8 (low x : Nat))  rfl vi_5 (At.one (by rw [Nat.mul_one]; exact hcell)) rfl rfl (.inr rfl) ?_)
  refine l_pure rfl (s_conv  rfl Tryd.underlying3 ⟨_, Tryd.underlying5⟩ (r := ((low x : Nat) : Int)) (by exact wr_i64 _ ⟨rfl, by omega, by omega⟩) ?_)
  refine l_pure rfl (s_asg  rfl ?_)
  refine l_nil ?_
  repeat (with_reducible first | refine c_seq ?_ | refine c_block ?_ | refine c_skip ?_ | refine x_then ?_ | refine x_block ?_)
  refine c_ret ?_
  repeat (with_reducible first | refine x_then_ret ?_ | refine x_block_ret ?_)
  refine r_one rfl rfl ?_
  exact ⟨rfl, rfl⟩
theorem TrailingZeros_ok (x : Nat) (w : World) (h0 : x ≠ 0) (h8 : x < 256) (hT : At w ⟨2, 0, none⟩ (Kr .u8 tzTab)) :
    Ret Tryd.prog 50 #[.int .u64 x] w fun v w' => v = .int .i64 (low x) ∧ w' = w := by
  refine enter Tryd.func50 rfl Tryd.ntmps50 rfl ?_
  repeat (with_reducible first | refine c_seq ?_ | refine c_block ?_ | refine c_skip ?_ | refine x_then ?_ | refine x_block ?_)
  refine c_reg ?_
  refine l_pure rfl (s_asg  rfl ?_)
  refine l_nil ?_
  repeat (with_reducible first | refine c_seq ?_ | refine c_block ?_ | refine c_skip ?_ | refine x_then ?_ | refine x_block ?_)
  refine c_no rfl (rfl) ?_
  repeat (with_reducible first | refine c_seq ?_ | refine c_block ?_ | refine c_skip ?_ | refine x_then ?_ | refine x_block ?_)
  refine c_reg ?_
  refine l_pure rfl (s_move  rfl ?_)
  refine l_heavy rfl (s_call Tryd.call66 rfl (TrailingZeros64_ok x w h0 h8 hT) ?_)
  rintro v w' ⟨rfl, rfl⟩
  refine l_pure rfl (s_asg  rfl ?_)
  refine l_nil ?_
  repeat (with_reducible first | refine c_seq ?_ | refine c_block ?_ | refine c_skip ?_ | refine x_then ?_ | refine x_block ?_)
  refine c_ret ?_
  repeat (with_reducible first | refine x_then_ret ?_ | refine x_block_ret ?_)
  refine r_one rfl rfl ?_
  exact ⟨rfl, rfl⟩
end Go.Proofs.YtfocimgpahjkmaaDoor
namespace Go.Proofs.YtfocimgpahjkmaaDoor
open Go Go.RowKit Go.Sx

theorem encR_one (xs : List RR) : ∀ u ∈ xs.flatMap encR, u.oneCell' = true := by
  intro u hu
  obtain ⟨x, _, hx⟩ := List.mem_flatMap.1 hu
  simp only [encR, List.mem_cons, List.not_mem_nil, or_false] at hx
  rcases hx with rfl | rfl | rfl <;> rfl
theorem toQ_zRR : toQ zRR = 0 := by rw [← toQ_ofQ 0, ofQ_zero]; rfl
theorem Lr_zRR : Lr zRR = 1 := by decide
theorem built_Net (a : Option Addr) (n c : Nat) : Tryd.prog.built 56 [(2, .slice a n c)] = some #[.slice none 0 0, .slice none 0 0, .slice a n c] := by kernel_rfl

/-- What the claims' masks say, when the first i items are done, and of the next one its first k charges. -/
structure Masks (X : List It) (m i k : Nat) (R : List Nat) : Prop where
  len : R.length = m
  lt : ∀ c, c < m → R.getD c 0 < 256
  bit : ∀ c, c < m → ∀ j, (R.getD c 0).testBit j = ((decide (j < i) && secures (X.getD j zIt) c) || (decide (j = i) && ((X.getD i zIt).charges.take k).any (fun q => decide (q.claim = (c : Int)))))
theorem Masks.start (X : List It) (m : Nat) : Masks X m 0 0 (List.replicate m 0) := by
  have h : ∀ c, (List.replicate m 0).getD c 0 = 0 := by
    intro c
    rw [List.getD_eq_getElem?_getD, List.getElem?_replicate]
    split <;> rfl
  refine ⟨by simp, fun c _ => by rw [h]; decide, fun c _ j => ?_⟩
  rw [h]; simp
theorem Masks.next {X : List It} {m i : Nat} {R : List Nat} (h : Masks X m i (X.getD i zIt).charges.length R) : Masks X m (i + 1) 0 R := by
  refine ⟨h.len, h.lt, fun c hc j => ?_⟩
  rw [h.bit c hc j, List.take_length, List.take_zero, List.any_nil, Bool.and_false, Bool.or_false]
  by_cases h1 : j = i
  · subst h1; simp [secures]
  · by_cases h2 : j < i
    · have h3 : j < i + 1 := by omega
      simp [h1, h2, h3]
    · have h3 : ¬ j < i + 1 := by omega
      simp [h1, h2, h3]
theorem Masks.charge {X : List It} {m i k c0 : Nat} {R : List Nat} (h : Masks X m i k R) (hi : i < 8) (hk : k < (X.getD i zIt).charges.length) (hcl0 : ((X.getD i zIt).charges.getD k zCh).claim = (c0 : Int)) (hc0 : c0 < m) :
    Masks X m i (k + 1) (R.set c0 (R.getD c0 0 ||| 2 ^ i)) := by
  have ht := take_succ' (X.getD i zIt).charges k zCh hk
  have hg : ∀ c, c < m → (R.set c0 (R.getD c0 0 ||| 2 ^ i)).getD c 0 = if c = c0 then R.getD c0 0 ||| 2 ^ i else R.getD c 0 := by
    intro c hcm
    rw [List.getD_eq_getElem?_getD, List.getElem?_set]
    by_cases he : c = c0
    · subst he; rw [if_pos rfl, if_pos rfl, if_pos (by rw [h.len]; exact hcm)]; rfl
    · rw [if_neg (fun g => he g.symm), if_neg he, List.getD_eq_getElem?_getD]
  have hp : 2 ^ i < 256 := Nat.lt_of_lt_of_le (Nat.pow_lt_pow_right (by decide) hi) (by decide)
  refine ⟨by simp [h.len], fun c hcm => ?_, fun c hcm j => ?_⟩
  · rw [hg c hcm]
    split
    · exact Nat.or_lt_two_pow (n := 8) (h.lt c0 hc0) hp
    · exact h.lt c hcm
  · rw [hg c hcm, ht, List.any_append]
    simp only [List.any_cons, List.any_nil, Bool.or_false, hcl0]
    by_cases he : c = c0
    · subst he
      rw [if_pos rfl, Nat.testBit_or, h.bit c hcm j, Nat.testBit_two_pow]
      by_cases hj : j = i
      · subst hj; simp
      · have : ¬ i = j := fun e => hj e.symm
        simp [hj, this]
    · rw [if_neg he, h.bit c hcm j]
      have : ¬ ((c0 : Int) = (c : Int)) := by omega
      simp [this]

def procsR (X : List It) : List RR := X.map fun x => ofQ (procQ x)
def owedR (owed : List RR) : List RR := owed.map fx
theorem procs_take (X : List It) {i : Nat} (hi : i < X.length) : procsR (X.take (i + 1)) = procsR (X.take i) ++ [ofQ (procQ (X.getD i zIt))] := by
  unfold procsR; rw [take_succ' X i zIt hi, List.map_append]; rfl
theorem owed_take (l : List RR) {i : Nat} (hi : i < l.length) : owedR (l.take (i + 1)) = owedR (l.take i) ++ [fx (l.getD i zRR)] := by
  unfold owedR; rw [take_succ' l i zRR hi, List.map_append]; rfl

set_option maxHeartbeats 1000000 in
theorem build_ok (vi_ vo : Value) (X : List It) (cvs : List Value) (owed : List RR) (K : Nat) (w : World) (hX : Its w vi_ X cvs) (ho : Sl encR 3 w vo owed) (hXB : ItB K X) (hoB : RB K owed) (hK : 2 * K + 2 ≤ MX) (hX8 : X.length ≤ 8) (ho24 : owed.length ≤ 24)
    (hcl : ∀ x ∈ X, ∀ c ∈ x.charges, 0 ≤ c.claim ∧ c.claim < owed.length) :
    Ret Tryd.prog 20 #[vi_, vo] w fun v w' => ∃ sP sO LP LO bI R, v = .agg #[sP, sO, .slice (some ⟨bI, 0, none⟩) owed.length owed.length] ∧ Gl encR 32 3 sP (procsR X) LP ∧ Gl encR 32 3 sO (owedR owed) LO ∧ Masks X owed.length X.length 0 R ∧
      St w w' ([(bI, 59, Kr .u64 R)] ++ LO ++ LP) := by
  have hM : MX = 1099511627776 := rfl
  have hmo := ho.maxLen
  have hzl := hX.zlen
  obtain ⟨m, hm⟩ : ∃ m, m = owed.length := ⟨_, rfl⟩
  have hS := St.init w
  refine enter Tryd.func20 rfl Tryd.ntmps20 rfl ?_
  repeat (with_reducible first | refine c_seq ?_ | refine c_block ?_ | refine c_skip ?_ | refine x_then ?_ | refine x_block ?_)
  refine c_reg ?_
  refine l_heavy rfl (s_alloc  vi_56 hS ?_)
  intro b4 wz1 hS hBz1
  refine l_nil ?_
  repeat (with_reducible first | refine c_seq ?_ | refine c_block ?_ | refine c_skip ?_ | refine x_then ?_ | refine x_block ?_)
  refine c_reg ?_
  refine l_pure rfl (s_move  rfl ?_)
  refine l_pure rfl (s_lenr  rfl (ho.below hS.below) ⟨_, Tryd.underlying24⟩ ?_)
  refine l_heavy rfl (s_makek (n := owed.length)  rfl rfl si_54 (by omega) (by omega) (by omega) (by omega) hS ?_)
  intro bI wz2 hS hBz2
  refine l_pure rfl (s_build  rfl (built_Net _ _ _) ?_)
  refine l_heavy rfl (s_alloc  vi_56 hS ?_)
  intro bn wz3 hS hBz3
  refine l_heavy rfl (s_sta (k := 0)  rfl rfl vi_56 hS rfl rfl rfl (Nat.le_of_ble_eq_true rfl) rfl ?_)
  intro wz4 hS
  refine l_nil ?_
  repeat (with_reducible first | refine c_seq ?_ | refine c_block ?_ | refine c_skip ?_ | refine x_then ?_ | refine x_block ?_)
  rw [← hm]
  rw [← hm] at hS
  replace hS : St w _ ([(bn, 56, [.slice none 0 0, .slice none 0 0, .slice (some ⟨bI, 0, none⟩) m m]), (bI, 59, Kr .u64 (List.replicate m 0)), (b4, 56, [.slice none 0 0, .slice none 0 0, .slice none 0 0])] ++ []) := hS
  repeat (with_reducible first | refine c_seq ?_ | refine c_block ?_ | refine c_skip ?_ | refine x_then ?_ | refine x_block ?_)
  refine c_reg ?_
  refine l_pure rfl (s_move  rfl ?_)
  refine l_pure rfl (s_lenr  rfl (ho.below hS.below) ⟨_, Tryd.underlying24⟩ ?_)
  refine l_pure rfl (s_move  rfl ?_)
  refine l_nil ?_
  repeat (with_reducible first | refine c_seq ?_ | refine c_skip ?_ | refine x_then ?_ | refine x_block ?_)
  refine c_cut1 (fun ρ w' => ρ 0 = vi_ ∧ ρ 1 = vo ∧ ρ 4 = .pointer (some ⟨b4, 0, none⟩) ∧ ρ 5 = .pointer (some ⟨bn, 0, none⟩) ∧ ∃ sO LO, Gl encR 32 3 sO (owedR owed) LO ∧
      St w w' ([(bn, 56, [.slice none 0 0, sO, .slice (some ⟨bI, 0, none⟩) m m]), (bI, 59, Kr .u64 (List.replicate m 0)), (b4, 56, [.slice none 0 0, .slice none 0 0, .slice none 0 0])] ++ LO)) ?_ ?_
  · repeat (with_reducible first | refine c_seq ?_ | refine c_block ?_ | refine c_skip ?_ | refine x_then ?_ | refine x_block ?_)
    refine c_loop (σ := Nat) (fun i ρ w' => i ≤ owed.length ∧ ρ 0 = vi_ ∧ ρ 1 = vo ∧ ρ 4 = .pointer (some ⟨b4, 0, none⟩) ∧ ρ 5 = .pointer (some ⟨bn, 0, none⟩) ∧ ρ 16 = vo ∧ ρ 17 = .int .i64 owed.length ∧ ρ 18 = .int .i64 i ∧ ∃ sO LO, Gl encR 32 3 sO (owedR (owed.take i)) LO ∧
        St w w' ([(bn, 56, [.slice none 0 0, sO, .slice (some ⟨bI, 0, none⟩) m m]), (bI, 59, Kr .u64 (List.replicate m 0)), (b4, 56, [.slice none 0 0, .slice none 0 0, .slice none 0 0])] ++ LO)) (fun i => owed.length - i) 0
      ⟨Nat.zero_le _, rfl, rfl, rfl, rfl, rfl, rfl, rfl, ⟨_, [], Gl.nil _ _ _, hS⟩⟩ ?_
    clear hS
    rintro i ρ w2 ⟨hi, h0, h1, h4, h5, h16, h17, h18, sO, LO, hG, hS⟩
    obtain ⟨aO, cO, hsO⟩ := hG.len
    subst hsO
    repeat (with_reducible first | refine c_seq ?_ | refine c_block ?_ | refine c_skip ?_ | refine x_then ?_ | refine x_block ?_)
    refine c_reg ?_
    refine l_pure rfl (s_lss  h18 h17 ?_)
    refine l_nil ?_
    repeat (with_reducible first | refine c_seq ?_ | refine c_block ?_ | refine c_skip ?_ | refine x_then ?_ | refine x_block ?_)
    by_cases hlt : i < owed.length
    · refine c_yes rfl (decide_eq_true (by omega)) ?_
      repeat (with_reducible first | refine c_seq ?_ | refine c_block ?_ | refine c_skip ?_ | refine x_then ?_ | refine x_block ?_)
      have hr := hoB _ (getD_mem owed i zRR hlt)
      have hlen : (owedR (owed.take i)).length = i := by simp [owedR]; omega
      repeat (with_reducible first | refine c_seq ?_ | refine c_block ?_ | refine c_skip ?_ | refine x_then ?_ | refine x_block ?_)
      refine c_reg ?_
      refine l_pure rfl (s_ixr (i := i)  h16 h18 (ho.below hS.below) (by omega) (by first | omega | (simp; done) | (simp; omega)) si_24 ?_)
      refine l_read rfl (s_lde (i := i) zRR  rfl vi_32 (ho.below hS.below) (by first | omega | (simp; done) | (simp; omega)) rfl rfl (.inl rfl) ?_)
      refine l_heavy rfl (s_alloc  vi_32 hS ?_)
      intro b7 wz5 hS hBz5
      refine l_heavy rfl (s_sta (k := 0)  rfl rfl vi_32 hS rfl rfl rfl (Nat.le_of_ble_eq_true rfl) rfl ?_)
      intro wz6 hS
      refine l_nil ?_
      repeat (with_reducible first | refine c_seq ?_ | refine c_block ?_ | refine c_skip ?_ | refine x_then ?_ | refine x_block ?_)
      replace hS : St w _ ([(b7, 32, encR (owed.getD i zRR)), (bn, 56, [.slice none 0 0, .slice aO (owedR (owed.take i)).length cO, .slice (some ⟨bI, 0, none⟩) m m]), (bI, 59, Kr .u64 (List.replicate m 0)), (b4, 56, [.slice none 0 0, .slice none 0 0, .slice none 0 0])] ++ LO) := hS
      repeat (with_reducible first | refine c_seq ?_ | refine c_block ?_ | refine c_skip ?_ | refine x_then ?_ | refine x_block ?_)
      refine c_draw [(0, .pure), (1, .read), (2, .read), (3, .pure), (4, .grow), (5, .grow), (6, .free), (7, .pure), (8, .free)] (by kernel_rfl) (by kernel_rfl) hS ?_
      intro wz7 hS hBz7
      refine w_pure rfl rfl (s_fld  h5 fo_56_1 ?_)
      refine w_read rfl rfl (s_ldo (k := 1)  rfl vi_24 hS rfl rfl rfl (.inr rfl) ?_)
      refine w_read rfl rfl (s_ldo (k := 0)  rfl vi_32 hS rfl rfl rfl (.inl rfl) ?_)
      refine w_pure rfl rfl (s_build  rfl bz_32 ?_)
      refine w_grow rfl rfl (s_call Tryd.call10 rfl (QAdd_ok (owed.getD i zRR) zRR _ (by rw [Lr_zRR]; omega)) ?_)
      rintro r w3 ⟨rfl, hB3⟩
      refine ⟨hB3, ?_⟩
      rw [toQ_zRR, Rat.add_zero]
      replace hS := hS.grow hB3
      replace hS : St w _ ([(b7, 32, encR (owed.getD i zRR)), (bn, 56, [.slice none 0 0, .slice aO (owedR (owed.take i)).length cO, .slice (some ⟨bI, 0, none⟩) m m]), (bI, 59, Kr .u64 (List.replicate m 0)), (b4, 56, [.slice none 0 0, .slice none 0 0, .slice none 0 0])] ++ LO) := hS
      refine w_grow rfl rfl (s_bsl (vs := [aggR (ofQ (toQ (owed.getD i zRR)))])  rfl si_24 rfl (by decide) (by decide) (by decide) (by simp [Value.cells, aggR]) rfl hS ?_)
      intro b8 wz9 hS hBz9
      refine ⟨hBz9, ?_⟩
      refine w_free rfl rfl (s_appl [fx (owed.getD i zRR)]  rfl rfl si_24 (by decide) hG hS rfl rfl encR_len (encR_one [fx (owed.getD i zRR)]) (by first | omega | (simp only [List.length_cons, List.length_nil]; omega)) (by first | omega | (simp only [List.length_cons, List.length_nil]; omega)) ?_)
      intro va10 La10 wa10 hG hS hga10
      refine w_pure rfl rfl (s_fld  h5 fo_56_1 ?_)
      refine w_free rfl rfl (s_stc (k := 1)  rfl rfl vi_24 hS rfl (Nat.le_of_ble_eq_true rfl) (by obtain ⟨a, c, h⟩ := hG.len; rw [h]; rfl) ?_)
      intro wz11 hS
      refine w_end ?_
      repeat (with_reducible first | refine c_seq ?_ | refine c_block ?_ | refine c_skip ?_ | refine x_then ?_ | refine x_block ?_)
      replace hS : St w _ ((b7, 32, encR (owed.getD i zRR)) :: ([(bn, 56, [.slice none 0 0, _, .slice (some ⟨bI, 0, none⟩) m m]), (bI, 59, Kr .u64 (List.replicate m 0)), (b4, 56, [.slice none 0 0, .slice none 0 0, .slice none 0 0])] ++ _)) := hS
      repeat (with_reducible first | refine c_seq ?_ | refine c_block ?_ | refine c_skip ?_ | refine x_then ?_ | refine x_block ?_)
      refine c_reg ?_
      refine l_pure rfl (s_add  h18 rfl (IntWalk.i64_in _ (by omega)) ?_)
      refine l_pure rfl (s_move  rfl ?_)
      refine l_nil ?_
      repeat (with_reducible first | refine c_seq ?_ | refine c_block ?_ | refine c_skip ?_ | refine x_then ?_ | refine x_block ?_)
      refine ⟨i + 1, _, rfl, ⟨hlt, h0, h1, h4, h5, h16, h17, vi rfl (by omega), ⟨_, _, ?_, hS.drop (List.sublist_cons_self _ _)⟩⟩, by omega⟩
      rw [owed_take owed hlt]; exact hG
    · refine c_no rfl (decide_eq_false (by omega)) ?_
      repeat (with_reducible first | refine c_seq ?_ | refine c_block ?_ | refine c_skip ?_ | refine x_then ?_ | refine x_block ?_)
      refine c_exit ?_
      repeat (with_reducible first | refine x_then_exit ?_ | refine x_block_exit ?_ | refine x_block_pass rfl ?_)
      repeat (with_reducible first | refine c_seq ?_ | refine c_block ?_ | refine c_skip ?_ | refine x_then ?_ | refine x_block ?_)
      obtain rfl : i = owed.length := by omega
      rw [List.take_length] at hG hS
      exact ⟨_, rfl, h0, h1, h4, h5, ⟨_, _, hG, hS⟩⟩
  clear hS
  rintro ρ w2 ⟨h0, h1, h4, h5, sO, LO, hGO, hS⟩
  obtain ⟨aO, cO, hsO⟩ := hGO.len
  rw [hsO] at hS
  repeat (with_reducible first | refine c_seq ?_ | refine c_block ?_ | refine c_skip ?_ | refine x_then ?_ | refine x_block ?_)
  refine c_reg ?_
  refine l_pure rfl (s_move  h0 ?_)
  refine l_pure rfl (s_lenr  rfl (hX.sl.below hS.below) ⟨_, Tryd.underlying26⟩ ?_)
  refine l_pure rfl (s_move  rfl ?_)
  refine l_nil ?_
  repeat (with_reducible first | refine c_seq ?_ | refine c_block ?_ | refine c_skip ?_ | refine x_then ?_ | refine x_block ?_)
  rw [hzl]
  refine c_loop (σ := Nat) (fun i ρ w' => i ≤ X.length ∧ ρ 4 = .pointer (some ⟨b4, 0, none⟩) ∧ ρ 5 = .pointer (some ⟨bn, 0, none⟩) ∧ ρ 31 = vi_ ∧ ρ 32 = .int .i64 X.length ∧ ρ 33 = .int .i64 i ∧ ∃ sP LP R, Gl encR 32 3 sP (procsR (X.take i)) LP ∧ Masks X m i 0 R ∧
      St w w' ([(bn, 56, [sP, .slice aO (owedR owed).length cO, .slice (some ⟨bI, 0, none⟩) m m]), (bI, 59, Kr .u64 R), (b4, 56, [.slice none 0 0, .slice none 0 0, .slice none 0 0])] ++ LO ++ LP)) (fun i => X.length - i) 0
    ⟨Nat.zero_le _, h4, h5, rfl, rfl, rfl, ⟨_, [], _, Gl.nil _ _ _, Masks.start X m, by rw [List.append_nil]; exact hS⟩⟩ ?_
  clear hS h0 h1 h4 h5
  rintro i ρ w3 ⟨hi, h4, h5, h31, h32, h33, sP, LP, R, hG, hR, hS⟩
  obtain ⟨aP, cP, hsP⟩ := hG.len
  subst hsP
  repeat (with_reducible first | refine c_seq ?_ | refine c_block ?_ | refine c_skip ?_ | refine x_then ?_ | refine x_block ?_)
  refine c_reg ?_
  refine l_pure rfl (s_lss  h33 h32 ?_)
  refine l_nil ?_
  repeat (with_reducible first | refine c_seq ?_ | refine c_block ?_ | refine c_skip ?_ | refine x_then ?_ | refine x_block ?_)
  by_cases hlt : i < X.length
  · refine c_yes rfl (decide_eq_true (by omega)) ?_
    repeat (with_reducible first | refine c_seq ?_ | refine c_block ?_ | refine c_skip ?_ | refine x_then ?_ | refine x_block ?_)
    obtain ⟨x, hx⟩ : ∃ x, x = X.getD i zIt := ⟨_, rfl⟩
    obtain ⟨cv, hcv⟩ : ∃ cv, cv = cvs.getD i undef := ⟨_, rfl⟩
    have hmem : x ∈ X := by rw [hx]; exact getD_mem X i zIt hlt
    have hxB := hXB x hmem
    have hch := hX.ch i hlt
    rw [← hx, ← hcv] at hch
    have hmc := hch.maxLen
    obtain ⟨ca, ccap, hcve, _⟩ := hch.form
    subst hcve
    have hzg := hX.zget hlt
    rw [← hx, ← hcv] at hzg
    have hlen : (procsR (X.take i)).length = i := by simp [procsR]; omega
    repeat (with_reducible first | refine c_seq ?_ | refine c_block ?_ | refine c_skip ?_ | refine x_then ?_ | refine x_block ?_)
    refine c_reg ?_
    refine l_pure rfl (s_move  h33 ?_)
    refine l_pure rfl (s_ixr (i := i)  h31 h33 (hX.sl.below hS.below) (by omega) (by first | omega | (simp; done) | (simp; omega)) si_26 ?_)
    refine l_read rfl (s_lde (v := aggIt x (.slice ca x.charges.length ccap)) (i := i) (zIt, undef)  rfl vi_50 (hX.sl.below hS.below) (by omega) rfl (by rw [hzg]; rfl) (.inl rfl) ?_)
    refine l_heavy rfl (s_alloc  vi_50 hS ?_)
    intro b9 wz12 hS hBz12
    refine l_pure rfl (s_asg  rfl ?_)
    refine l_heavy rfl (s_sta (k := 0)  rfl rfl vi_50 hS rfl rfl rfl (Nat.le_of_ble_eq_true rfl) rfl ?_)
    intro wz13 hS
    refine l_nil ?_
    repeat (with_reducible first | refine c_seq ?_ | refine c_block ?_ | refine c_skip ?_ | refine x_then ?_ | refine x_block ?_)
    replace hS : St w _ ([(b9, 50, encIt (x, .slice ca x.charges.length ccap)), (bn, 56, [.slice aP (procsR (X.take i)).length cP, .slice aO (owedR owed).length cO, .slice (some ⟨bI, 0, none⟩) m m]), (bI, 59, Kr .u64 R), (b4, 56, [.slice none 0 0, .slice none 0 0, .slice none 0 0])] ++ LO ++ LP) := hS
    repeat (with_reducible first | refine c_seq ?_ | refine c_block ?_ | refine c_skip ?_ | refine x_then ?_ | refine x_block ?_)
    refine c_draw [(0, .pure), (1, .read), (2, .read), (3, .grow), (4, .grow), (5, .free), (6, .pure), (7, .free)] (by kernel_rfl) (by kernel_rfl) hS ?_
    intro wz14 hS hBz14
    refine w_pure rfl rfl (s_fld  h5 fo_56_0 ?_)
    refine w_read rfl rfl (s_ldo (k := 1)  rfl vi_24 hS rfl rfl rfl (.inr rfl) ?_)
    refine w_read rfl rfl (s_ldo (k := 0)  rfl vi_50 hS rfl rfl rfl (.inl rfl) ?_)
    refine w_grow rfl rfl (s_call Tryd.call39 rfl (Proceeds_ok x ca x.charges.length ccap _ (by have := hxB.1; have := hxB.2.1; omega)) ?_)
    rintro r w4 ⟨rfl, hB4⟩
    refine ⟨hB4, ?_⟩
    replace hS := hS.grow hB4
    replace hS : St w _ ([(b9, 50, encIt (x, .slice ca x.charges.length ccap)), (bn, 56, [.slice aP (procsR (X.take i)).length cP, .slice aO (owedR owed).length cO, .slice (some ⟨bI, 0, none⟩) m m]), (bI, 59, Kr .u64 R), (b4, 56, [.slice none 0 0, .slice none 0 0, .slice none 0 0])] ++ LO ++ LP) := hS
    refine w_grow rfl rfl (s_bsl (vs := [aggR (ofQ (procQ x))])  rfl si_24 rfl (by decide) (by decide) (by decide) (by simp [Value.cells, aggR]) rfl hS ?_)
    intro b15 wz16 hS hBz16
    refine ⟨hBz16, ?_⟩
    refine w_free rfl rfl (s_appl [ofQ (procQ x)]  rfl rfl si_24 (by decide) hG hS rfl rfl encR_len (encR_one [ofQ (procQ x)]) (by first | omega | (simp only [List.length_cons, List.length_nil]; omega)) (by first | omega | (simp only [List.length_cons, List.length_nil]; omega)) ?_)
    intro va17 La17 wa17 hG hS hga17
    refine w_pure rfl rfl (s_fld  h5 fo_56_0 ?_)
    refine w_free rfl rfl (s_stc (k := 1)  rfl rfl vi_24 hS rfl (Nat.le_of_ble_eq_true rfl) (by obtain ⟨a, c, h⟩ := hG.len; rw [h]; rfl) ?_)
    intro wz18 hS
    refine w_end ?_
    repeat (with_reducible first | refine c_seq ?_ | refine c_block ?_ | refine c_skip ?_ | refine x_then ?_ | refine x_block ?_)
    rw [hx, ← procs_take X hlt] at hG
    obtain ⟨aP2, cP2, hsP2⟩ := hG.len
    subst hsP2
    replace hS : St w _ ([(b9, 50, encIt (x, .slice ca x.charges.length ccap)), (bn, 56, [.slice aP2 (procsR (X.take (i + 1))).length cP2, .slice aO (owedR owed).length cO, .slice (some ⟨bI, 0, none⟩) m m]), (bI, 59, Kr .u64 R), (b4, 56, [.slice none 0 0, .slice none 0 0, .slice none 0 0])] ++ LO ++ _) := hS
    repeat (with_reducible first | refine c_seq ?_ | refine c_block ?_ | refine c_skip ?_ | refine x_then ?_ | refine x_block ?_)
    refine c_reg ?_
    refine l_pure rfl (s_fld  rfl fo_50_2 ?_)
    refine l_read rfl (s_ldo (k := 0)  rfl vi_48 hS rfl rfl rfl (.inr rfl) ?_)
    refine l_pure rfl (s_lenr  rfl (hch.below hS.below) ⟨_, Tryd.underlying48⟩ ?_)
    refine l_pure rfl (s_move  rfl ?_)
    refine l_nil ?_
    repeat (with_reducible first | refine c_seq ?_ | refine c_skip ?_ | refine x_then ?_ | refine x_block ?_)
    refine c_cut1 (fun ρ w' => ρ 4 = .pointer (some ⟨b4, 0, none⟩) ∧ ρ 5 = .pointer (some ⟨bn, 0, none⟩) ∧ ρ 31 = vi_ ∧ ρ 32 = .int .i64 X.length ∧ ρ 33 = .int .i64 i ∧ ∃ R, Masks X m i x.charges.length R ∧
      St w w' ([(bn, 56, [.slice aP2 (procsR (X.take (i + 1))).length cP2, .slice aO (owedR owed).length cO, .slice (some ⟨bI, 0, none⟩) m m]), (bI, 59, Kr .u64 R), (b4, 56, [.slice none 0 0, .slice none 0 0, .slice none 0 0])] ++ LO ++ La17)) ?_ ?_
    · repeat (with_reducible first | refine c_seq ?_ | refine c_block ?_ | refine c_skip ?_ | refine x_then ?_ | refine x_block ?_)
      refine c_loop (σ := Nat) (fun k ρ w' => k ≤ x.charges.length ∧ ρ 4 = .pointer (some ⟨b4, 0, none⟩) ∧ ρ 5 = .pointer (some ⟨bn, 0, none⟩) ∧ ρ 31 = vi_ ∧ ρ 32 = .int .i64 X.length ∧ ρ 33 = .int .i64 i ∧ ρ 8 = .int .i64 i ∧ ρ 46 = .slice ca x.charges.length ccap ∧ ρ 47 = .int .i64 x.charges.length ∧ ρ 48 = .int .i64 k ∧ ∃ R, Masks X m i k R ∧
          St w w' ([(bn, 56, [.slice aP2 (procsR (X.take (i + 1))).length cP2, .slice aO (owedR owed).length cO, .slice (some ⟨bI, 0, none⟩) m m]), (bI, 59, Kr .u64 R), (b4, 56, [.slice none 0 0, .slice none 0 0, .slice none 0 0])] ++ LO ++ La17)) (fun k => x.charges.length - k) 0
        ⟨Nat.zero_le _, h4, h5, h31, h32, h33, rfl, rfl, rfl, rfl, ⟨R, hR, hS.drop (List.sublist_cons_self _ _)⟩⟩ ?_
      clear hS
      rintro k ρ w5 ⟨hk, h4, h5, h31, h32, h33, h8, h46, h47, h48, R, hR, hS⟩
      repeat (with_reducible first | refine c_seq ?_ | refine c_block ?_ | refine c_skip ?_ | refine x_then ?_ | refine x_block ?_)
      refine c_reg ?_
      refine l_pure rfl (s_lss  h48 h47 ?_)
      refine l_nil ?_
      repeat (with_reducible first | refine c_seq ?_ | refine c_block ?_ | refine c_skip ?_ | refine x_then ?_ | refine x_block ?_)
      by_cases hlk : k < x.charges.length
      · refine c_yes rfl (decide_eq_true (by omega)) ?_
        repeat (with_reducible first | refine c_seq ?_ | refine c_block ?_ | refine c_skip ?_ | refine x_then ?_ | refine x_block ?_)
        have hcm := hcl x hmem _ (getD_mem x.charges k zCh hlk)
        obtain ⟨c0, hc0⟩ : ∃ c0 : Nat, (x.charges.getD k zCh).claim = (c0 : Int) := ⟨_, (Int.toNat_of_nonneg hcm.1).symm⟩
        have hc0m : c0 < m := by omega
        have hRl := hR.len
        have hRlt := hR.lt c0 hc0m
        have hp : 2 ^ i < 256 := Nat.lt_of_lt_of_le (Nat.pow_lt_pow_right (by decide) (show i < 8 by omega)) (by decide)
        have hnew := hR.charge (by omega) (by rw [← hx]; exact hlk) (by rw [← hx]; exact hc0) hc0m
        obtain ⟨nv, hnv⟩ : ∃ nv, nv = R.getD c0 0 ||| 2 ^ i := ⟨_, rfl⟩
        have hnv8 : nv < 256 := by rw [hnv]; exact Nat.or_lt_two_pow (n := 8) hRlt hp
        rw [← hnv] at hnew
        obtain ⟨cc, hcc⟩ : ∃ cc, cc = x.charges.getD k zCh := ⟨_, rfl⟩
        rw [← hcc] at hc0
        obtain ⟨cl, pr, lm, li⟩ := cc
        have hc1 : cl = (c0 : Int) := hc0
        subst hc1
        repeat (with_reducible first | refine c_seq ?_ | refine c_block ?_ | refine c_skip ?_ | refine x_then ?_ | refine x_block ?_)
        refine c_reg ?_
        refine l_pure rfl (s_ixr (i := k)  h46 h48 (hch.below hS.below) (by omega) (by first | omega | (simp; done) | (simp; omega)) si_48 ?_)
        refine l_read rfl (s_lde (i := k) zCh  rfl vi_52 (hch.below hS.below) (by first | omega | (simp; done) | (simp; omega)) rfl rfl (.inl rfl) ?_)
        refine l_heavy rfl (s_alloc  vi_52 hS ?_)
        intro b11 wz19 hS hBz19
        refine l_heavy rfl (s_sta (k := 0)  rfl rfl vi_52 hS rfl rfl rfl (Nat.le_of_ble_eq_true rfl) rfl ?_)
        intro wz20 hS
        refine l_nil ?_
        repeat (with_reducible first | refine c_seq ?_ | refine c_block ?_ | refine c_skip ?_ | refine x_then ?_ | refine x_block ?_)
        replace hS : St w _ ([(b11, 52, encCh (x.charges.getD k zCh)), (bn, 56, [.slice aP2 (procsR (X.take (i + 1))).length cP2, .slice aO (owedR owed).length cO, .slice (some ⟨bI, 0, none⟩) m m]), (bI, 59, Kr .u64 R), (b4, 56, [.slice none 0 0, .slice none 0 0, .slice none 0 0])] ++ LO ++ La17) := hS
        rw [← hcc] at hS
        repeat (with_reducible first | refine c_seq ?_ | refine c_block ?_ | refine c_skip ?_ | refine x_then ?_ | refine x_block ?_)
        refine c_draw [(0, .pure), (1, .read), (2, .pure), (3, .read), (4, .pure), (5, .read), (6, .pure), (7, .pure), (8, .pure), (9, .pure), (10, .free)] (by kernel_rfl) (by kernel_rfl) hS ?_
        intro wz21 hS hBz21
        refine w_pure rfl rfl (s_fld  h5 fo_56_2 ?_)
        refine w_read rfl rfl (s_ldo (k := 1)  rfl vi_54 hS rfl rfl rfl (.inr rfl) ?_)
        refine w_pure rfl rfl (s_fld  rfl fo_52_0 ?_)
        refine w_read rfl rfl (s_ldo (k := 0)  rfl vi_3 hS rfl rfl rfl (.inr rfl) ?_)
        refine w_pure rfl rfl (s_ixo (i := c0)  rfl rfl (by omega) (by first | omega | (simp; done) | (simp; omega)) si_54 ?_)
        refine w_read rfl rfl (s_ldk (k := 2) (i := c0)  rfl vi_59 hS rfl (by omega) (by first | omega | (simp; done) | (simp; omega)) ?_)
        refine w_pure rfl rfl (s_move  h8 ?_)
        refine w_pure rfl rfl (s_shl  rfl rfl (by omega) (shl_v 1 i ((2 ^ i : Nat) : Int) (by show i ≤ 64; omega) (wr_u64 _ ⟨by rw [Nat.one_mul], Int.natCast_nonneg _, by omega⟩)) ?_)
        refine w_pure rfl rfl (s_or  rfl rfl (r := ((nv : Nat) : Int)) (by rw [hnv]; exact or_nat rfl _ _ (by show _ < 18446744073709551616; omega) (by show _ < 18446744073709551616; omega)) ?_)
        refine w_pure rfl rfl (s_ixo (i := c0)  rfl rfl (by omega) (by first | omega | (simp; done) | (simp; omega)) si_54 ?_)
        refine w_free rfl rfl (s_stk (k := 2) (i := c0) (a := nv)  rfl rfl (by omega) vi_59 hS rfl (by omega) (by first | omega | (simp; done) | (simp; omega)) ?_)
        intro wz22 hS
        refine w_end ?_
        repeat (with_reducible first | refine c_seq ?_ | refine c_block ?_ | refine c_skip ?_ | refine x_then ?_ | refine x_block ?_)
        refine c_reg ?_
        refine l_pure rfl (s_add  h48 rfl (IntWalk.i64_in _ (by omega)) ?_)
        refine l_pure rfl (s_move  rfl ?_)
        refine l_nil ?_
        repeat (with_reducible first | refine c_seq ?_ | refine c_block ?_ | refine c_skip ?_ | refine x_then ?_ | refine x_block ?_)
        exact ⟨k + 1, _, rfl, ⟨hlk, h4, h5, h31, h32, h33, h8, h46, h47, vi rfl (by omega), ⟨_, hnew, hS.drop (List.sublist_cons_self _ _)⟩⟩, by omega⟩
      · refine c_no rfl (decide_eq_false (by omega)) ?_
        repeat (with_reducible first | refine c_seq ?_ | refine c_block ?_ | refine c_skip ?_ | refine x_then ?_ | refine x_block ?_)
        refine c_exit ?_
        repeat (with_reducible first | refine x_then_exit ?_ | refine x_block_exit ?_ | refine x_block_pass rfl ?_)
        repeat (with_reducible first | refine c_seq ?_ | refine c_block ?_ | refine c_skip ?_ | refine x_then ?_ | refine x_block ?_)
        obtain rfl : k = x.charges.length := by omega
        exact ⟨_, rfl, h4, h5, h31, h32, h33, ⟨_, hR, hS⟩⟩
    clear hS
    rintro ρ w5 ⟨h4, h5, h31, h32, h33, R, hR, hS⟩
    repeat (with_reducible first | refine c_seq ?_ | refine c_block ?_ | refine c_skip ?_ | refine x_then ?_ | refine x_block ?_)
    refine c_reg ?_
    refine l_pure rfl (s_add  h33 rfl (IntWalk.i64_in _ (by omega)) ?_)
    refine l_pure rfl (s_move  rfl ?_)
    refine l_nil ?_
    repeat (with_reducible first | refine c_seq ?_ | refine c_block ?_ | refine c_skip ?_ | refine x_then ?_ | refine x_block ?_)
    rw [hx] at hR
    exact ⟨i + 1, _, rfl, ⟨hlt, h4, h5, h31, h32, vi rfl (by omega), ⟨_, _, R, hG, hR.next, hS⟩⟩, by omega⟩
  · refine c_no rfl (decide_eq_false (by omega)) ?_
    repeat (with_reducible first | refine c_seq ?_ | refine c_block ?_ | refine c_skip ?_ | refine x_then ?_ | refine x_block ?_)
    refine c_exit ?_
    repeat (with_reducible first | refine x_then_exit ?_ | refine x_block_exit ?_ | refine x_block_pass rfl ?_)
    repeat (with_reducible first | refine c_seq ?_ | refine c_block ?_ | refine c_skip ?_ | refine x_then ?_ | refine x_block ?_)
    obtain rfl : i = X.length := by omega
    rw [List.take_length] at hG hS
    repeat (with_reducible first | refine c_seq ?_ | refine c_block ?_ | refine c_skip ?_ | refine x_then ?_ | refine x_block ?_)
    refine c_reg ?_
    refine l_read rfl (s_ldo (k := 0)  h5 vi_56 hS rfl rfl rfl (.inl rfl) ?_)
    refine l_heavy rfl (s_sta (k := 2)  h4 rfl vi_56 hS rfl rfl rfl (Nat.le_of_ble_eq_true rfl) rfl ?_)
    intro wz23 hS
    refine l_nil ?_
    repeat (with_reducible first | refine c_seq ?_ | refine c_block ?_ | refine c_skip ?_ | refine x_then ?_ | refine x_block ?_)
    refine c_ret ?_
    repeat (with_reducible first | refine x_then_ret ?_ | refine x_block_ret ?_)
    refine r_cell (k := 2) rfl h4 vi_56 hS rfl rfl ?_
    subst hm
    rw [hsO] at hGO
    refine ⟨_, _, _, _, bI, R, rfl, hG, hGO, hR, ?_⟩
    exact hS.drop (H' := [(bI, 59, Kr .u64 R)] ++ LO ++ LP) (.cons _ (.cons_cons _ (.cons _ (List.Sublist.refl _))))
end Go.Proofs.YtfocimgpahjkmaaDoor
namespace Go.Sx
open Go Go.RowKit Go.Proofs.YtfocimgpahjkmaaDoor

def tab {α : Type} (n : Nat) (f : Nat → α) : List α := (List.range n).map f
theorem tab_len {α : Type} (n : Nat) (f : Nat → α) : (tab n f).length = n := by simp [tab]
theorem tab_get {α : Type} {n : Nat} (f : Nat → α) (d : α) {i : Nat} (h : i < n) : (tab n f).getD i d = f i := by
  simp [tab, List.getD_eq_getElem?_getD, h]
theorem tab_congr {α : Type} {n : Nat} {f g : Nat → α} (h : ∀ i, i < n → f i = g i) : tab n f = tab n g := by
  unfold tab; exact List.map_congr_left fun i hi => h i (List.mem_range.1 hi)
theorem tab_rep {α : Type} (n : Nat) (d : α) : List.replicate n d = tab n fun _ => d := by
  refine List.ext_getElem (by simp [tab]) fun i h1 h2 => ?_
  simp [tab]
theorem tab_set {α : Type} {n : Nat} (f : Nat → α) (i : Nat) (v : α) : (tab n f).set i v = tab n fun j => if j = i then v else f j := by
  refine List.ext_getElem (by simp [tab]) fun j h1 h2 => ?_
  rw [List.getElem_set]
  simp only [tab, List.getElem_map, List.getElem_range]
  by_cases h : i = j
  · subst h; simp
  · rw [if_neg h, if_neg (fun e => h e.symm)]
theorem tab_of {α : Type} (l : List α) (d : α) : l = tab l.length fun i => l.getD i d := by
  refine List.ext_getElem (by simp [tab]) fun i h1 h2 => ?_
  simp [tab, List.getD_eq_getElem?_getD, h1]
theorem tab_mem {α : Type} {n : Nat} {f : Nat → α} {x : α} (h : x ∈ tab n f) : ∃ i, i < n ∧ f i = x := by
  obtain ⟨i, hi, e⟩ := List.mem_map.1 h
  exact ⟨i, List.mem_range.1 hi, e⟩
theorem tab_succ {α : Type} (n : Nat) (f : Nat → α) : tab (n + 1) f = tab n f ++ [f n] := by
  simp [tab, List.range_succ]

theorem and_i64 (m n : Nat) (hm : m < 2 ^ 63) (hn : n < 2 ^ 63) : bitres .and .i64 m n = ((m &&& n : Nat) : Int) := by
  have hlt : m &&& n < 2 ^ 63 := Nat.lt_of_le_of_lt Nat.and_le_left hm
  show IntKind.wrap .i64 (((BitVec.ofInt 64 (m : Int) &&& BitVec.ofInt 64 (n : Int)).toNat : Nat) : Int) = _
  rw [BitVec.ofInt_natCast, BitVec.ofInt_natCast, BitVec.toNat_and, BitVec.toNat_ofNat, BitVec.toNat_ofNat, Nat.mod_eq_of_lt (by omega), Nat.mod_eq_of_lt (by omega)]
  exact wr_i64 _ ⟨rfl, by omega, by omega⟩
/-- The bits of m that n has not. -/
def andn (m n : Nat) : Nat := (BitVec.ofNat 64 m &&& ~~~ BitVec.ofNat 64 n).toNat
theorem andn_bit (m n i : Nat) (hi : i < 64) : (andn m n).testBit i = (m.testBit i && !n.testBit i) := by
  unfold andn
  rw [BitVec.testBit_toNat, BitVec.getLsbD_and, BitVec.getLsbD_not, BitVec.getLsbD_ofNat, BitVec.getLsbD_ofNat]
  simp [hi]
theorem andn_lt (m n : Nat) : andn m n < 2 ^ 64 := (BitVec.ofNat 64 m &&& ~~~ BitVec.ofNat 64 n).isLt
theorem andn_nat (m n : Nat) : bitres .andNot .u64 m n = ((andn m n : Nat) : Int) := by
  show IntKind.wrap .u64 (((BitVec.ofInt 64 (m : Int) &&& ~~~ BitVec.ofInt 64 (n : Int)).toNat : Nat) : Int) = _
  rw [BitVec.ofInt_natCast, BitVec.ofInt_natCast]
  have h := andn_lt m n
  unfold andn at h ⊢
  exact wr_u64 _ ⟨rfl, by omega, by omega⟩
theorem andn_ne {m n : Nat} : andn m n ≠ 0 ↔ ∃ i, i < 64 ∧ m.testBit i = true ∧ n.testBit i = false := by
  constructor
  · intro h
    refine Classical.byContradiction fun hn => h (Nat.eq_of_testBit_eq fun i => ?_)
    rw [Nat.zero_testBit]
    by_cases hi : i < 64
    · rw [andn_bit m n i hi]
      cases h1 : m.testBit i with
      | false => rfl
      | true =>
        cases h2 : n.testBit i with
        | true => rfl
        | false => exact absurd ⟨i, hi, h1, h2⟩ hn
    · exact Nat.testBit_lt_two_pow (Nat.lt_of_lt_of_le (andn_lt m n) (Nat.pow_le_pow_right (by decide) (by omega)))
  · rintro ⟨i, hi, h1, h2⟩ h0
    have := andn_bit m n i hi
    rw [h0, h1, h2] at this
    simp at this
end Go.Sx
namespace Go.Proofs.YtfocimgpahjkmaaDoor
open Go Go.RowKit Go.Sx

/-- What the cut's items pay. -/
def payF (X : List It) (cut : Nat) : Rat := sumIf X.length (fun i => cut.testBit i) (prF X)
def cutT (X : List It) (J : Nat) (j : Nat) : RR := if j < J then ofQ (payF X j) else zRR
theorem payF_zero (X : List It) : payF X 0 = 0 := by
  unfold payF
  rw [sumIf_congr (q := fun _ => false) (g := prF X) (fun i _ => ⟨Nat.zero_testBit i, rfl⟩), sumIf_none]
theorem L_payF {X : List It} {K : Nat} (hX : ItB K X) (hx8 : X.length ≤ 8) (cut : Nat) : L (payF X cut) ≤ 16 * K + 17 := by
  have h1 := L_sumIf X.length (fun i => cut.testBit i) (prF X) (2 * K + 1) (fun i hi => L_prF hX hi)
  have h4 : X.length * (2 * K + 1 + 1) ≤ 8 * (2 * K + 1 + 1) := Nat.mul_le_mul_right _ hx8
  unfold payF
  omega
theorem procs_len (X : List It) : (procsR X).length = X.length := by simp [procsR]
theorem procs_get (X : List It) {i : Nat} (h : i < X.length) : (procsR X).getD i zRR = ofQ (prF X i) := by
  unfold procsR prF
  simp [List.getD_eq_getElem?_getD, h]
theorem owed_len (l : List RR) : (owedR l).length = l.length := by simp [owedR]
theorem owed_get (l : List RR) {c : Nat} (h : c < l.length) : (owedR l).getD c zRR = ofQ (owF l c) := by
  unfold owedR owF
  simp [List.getD_eq_getElem?_getD, h, fx]

set_option maxHeartbeats 1000000 in
theorem cuts_ok (sP sO sM : Value) (X : List It) (K : Nat) (w : World) (hP : Sl encR 3 w sP (procsR X)) (hXB : ItB K X) (hK : 18 * K + 18 ≤ MX) (hX8 : X.length ≤ 8)
    (hT : At w ⟨2, 0, none⟩ (Kr .u8 tzTab)) :
    Ret Tryd.prog 30 #[.agg #[sP, sO, sM]] w fun v w' => ∃ b, v = .slice (some ⟨b, 0, none⟩) (2 ^ X.length) (2 ^ X.length) ∧ St w w' [(b, 32, (tab (2 ^ X.length) fun j => ofQ (payF X j)).flatMap encR)] := by
  have hM : MX = 1099511627776 := rfl
  have hpl := procs_len X
  obtain ⟨n, hn⟩ : ∃ n, n = 2 ^ X.length := ⟨_, rfl⟩
  have hn1 : 1 ≤ n := by rw [hn]; exact Nat.one_le_two_pow
  have hn256 : n ≤ 256 := by rw [hn]; exact Nat.pow_le_pow_right (n := 2) (by decide) hX8
  have hzero : (List.replicate n zRR) = tab n (cutT X 1) := by
    rw [tab_rep]
    refine tab_congr fun i _ => ?_
    unfold cutT
    split
    · obtain rfl : i = 0 := by omega
      rw [payF_zero, ofQ_zero]; rfl
    · rfl
  have hS := St.init w
  refine enter Tryd.func30 rfl Tryd.ntmps30 rfl ?_
  repeat (with_reducible first | refine c_seq ?_ | refine c_block ?_ | refine c_skip ?_ | refine x_then ?_ | refine x_block ?_)
  refine c_reg ?_
  refine l_heavy rfl (s_box (new := [sP, sO, sM])  rfl rfl hS ?_)
  intro b1 wz1 hS hBz1
  refine l_pure rfl (s_asg  rfl ?_)
  refine l_nil ?_
  repeat (with_reducible first | refine c_seq ?_ | refine c_block ?_ | refine c_skip ?_ | refine x_then ?_ | refine x_block ?_)
  refine c_reg ?_
  refine l_pure rfl (s_fld  rfl fo_56_0 ?_)
  refine l_read rfl (s_ldo (k := 0)  rfl vi_24 hS rfl rfl rfl (.inr rfl) ?_)
  refine l_pure rfl (s_lenr  rfl (hP.below hS.below) ⟨_, Tryd.underlying24⟩ ?_)
  refine l_pure rfl (s_shl  rfl rfl (by omega) (shl_v 1 (procsR X).length ((n : Nat) : Int) (by show _ ≤ 64; omega) (wr_i64 _ ⟨by rw [Nat.one_mul, hpl, hn], by omega, by omega⟩)) ?_)
  refine l_heavy rfl (s_makeE (enc := encR) (n := n) zRR  rfl rfl si_24 rfl (by omega) (by omega) (by omega) (by omega) hS ?_)
  intro bc wz2 hS hBz2
  refine l_pure rfl (s_asg  rfl ?_)
  refine l_nil ?_
  repeat (with_reducible first | refine c_seq ?_ | refine c_block ?_ | refine c_skip ?_ | refine x_then ?_ | refine x_block ?_)
  refine c_reg ?_
  refine l_pure rfl (s_asg  rfl ?_)
  refine l_nil ?_
  repeat (with_reducible first | refine c_seq ?_ | refine c_block ?_ | refine c_skip ?_ | refine x_then ?_ | refine x_block ?_)
  rw [hzero] at hS
  refine c_loop (σ := Nat) (fun j ρ w' => 1 ≤ j ∧ j ≤ n ∧ ρ 1 = .pointer (some ⟨b1, 0, none⟩) ∧ ρ 3 = .slice (some ⟨bc, 0, none⟩) n n ∧ ρ 4 = .int .i64 j ∧
      St w w' [(bc, 32, (tab n (cutT X j)).flatMap encR), (b1, 56, [sP, sO, sM])]) (fun j => n - j) 1
    ⟨Nat.le_refl _, hn1, rfl, rfl, rfl, hS⟩ ?_
  clear hS
  rintro j ρ w2 ⟨hj1, hj, h1, h3, h4, hS⟩
  have htl := tab_len n (cutT X j)
  repeat (with_reducible first | refine c_seq ?_ | refine c_block ?_ | refine c_skip ?_ | refine x_then ?_ | refine x_block ?_)
  refine c_reg ?_
  refine l_pure rfl (s_move  h4 ?_)
  refine l_pure rfl (s_move  h3 ?_)
  refine l_pure rfl (s_leno  rfl ⟨_, Tryd.underlying24⟩ ?_)
  refine l_pure rfl (s_lss  rfl rfl ?_)
  refine l_nil ?_
  repeat (with_reducible first | refine c_seq ?_ | refine c_block ?_ | refine c_skip ?_ | refine x_then ?_ | refine x_block ?_)
  by_cases hlt : j < n
  · refine c_yes rfl (decide_eq_true (by omega)) ?_
    repeat (with_reducible first | refine c_seq ?_ | refine c_block ?_ | refine c_skip ?_ | refine x_then ?_ | refine x_block ?_)
    have hj2 : j < 2 ^ X.length := by rw [← hn]; exact hlt
    obtain ⟨hl1, hl2, hl3, hl4⟩ := low_spec (show j ≠ 0 by omega) hX8 hj2
    have hcut := cut_step (prF X) (show j ≠ 0 by omega) hX8 hj2
    have hval : toQ ((tab n (cutT X j)).getD (j &&& (j - 1)) zRR) + toQ ((procsR X).getD (low j) zRR) = payF X j := by
      rw [tab_get _ _ (by omega), procs_get X hl1, toQ_ofQ]
      unfold cutT
      rw [if_pos hl3, toQ_ofQ]
      unfold payF
      rw [← hcut]
    have hLp := L_payF hXB hX8 (j &&& (j - 1))
    have hLq := L_prF hXB hl1
    have hL1 : Lr ((tab n (cutT X j)).getD (j &&& (j - 1)) zRR) ≤ 16 * K + 17 := by
      rw [tab_get _ _ (by omega)]
      unfold cutT
      rw [if_pos hl3, Lr_ofQ]; exact hLp
    have hL2 : Lr ((procsR X).getD (low j) zRR) ≤ 2 * K + 1 := by rw [procs_get X hl1, Lr_ofQ]; exact hLq
    repeat (with_reducible first | refine c_seq ?_ | refine c_block ?_ | refine c_skip ?_ | refine x_then ?_ | refine x_block ?_)
    refine c_draw [(0, .pure), (1, .pure), (2, .pure), (3, .pure), (4, .pure), (5, .pure), (6, .pure), (7, .pure), (8, .read), (9, .pure), (10, .read), (11, .pure), (12, .pure), (13, .grow), (14, .pure), (15, .read), (16, .grow), (17, .pure), (18, .free)] (by kernel_rfl) (by kernel_rfl) hS ?_
    intro wz3 hS hBz3
    refine w_pure rfl rfl (s_move  h3 ?_)
    refine w_pure rfl rfl (s_move  h4 ?_)
    refine w_pure rfl rfl (s_move  h3 ?_)
    refine w_pure rfl rfl (s_move  h4 ?_)
    refine w_pure rfl rfl (s_move  h4 ?_)
    refine w_pure rfl rfl (s_sub  rfl rfl (r := ((j - 1 : Nat) : Int)) (by exact wr_i64 _ ⟨by omega, by omega, by omega⟩) ?_)
    refine w_pure rfl rfl (s_and  rfl rfl (r := ((j &&& (j - 1) : Nat) : Int)) (by exact and_i64 _ _ (by omega) (by omega)) ?_)
    refine w_pure rfl rfl (s_ixo (i := (j &&& (j - 1)))  rfl rfl (by omega) (by first | omega | (simp; done) | (simp; omega)) si_24 ?_)
    refine w_read rfl rfl (s_ldE (k := 0) (i := (j &&& (j - 1))) (enc := encR) zRR (fun _ => rfl)  rfl vi_32 hS rfl (by first | omega | simp) (by first | omega | (simp; done) | (simp; omega)) rfl (.inl rfl) ?_)
    refine w_pure rfl rfl (s_fld  h1 fo_56_0 ?_)
    refine w_read rfl rfl (s_ldo (k := 1)  rfl vi_24 hS rfl rfl rfl (.inr rfl) ?_)
    refine w_pure rfl rfl (s_move  h4 ?_)
    refine w_pure rfl rfl (s_conv  rfl Tryd.underlying59 ⟨_, Tryd.underlying3⟩ (IntWalk.u64_in _ (by omega)) ?_)
    refine w_grow rfl rfl (s_call Tryd.call50 rfl (TrailingZeros_ok j _ (by omega) (by omega) (hT.below hS.below)) ?_)
    rintro r w3 ⟨rfl, rfl⟩
    refine ⟨(Below.refl _ _), ?_⟩
    refine w_pure rfl rfl (s_ixr (i := low j)  rfl rfl (hP.below hS.below) (by omega) (by first | omega | (simp; done) | (simp; omega)) si_24 ?_)
    refine w_read rfl rfl (s_lde (i := low j) zRR  rfl vi_32 (hP.below hS.below) (by first | omega | (simp; done) | (simp; omega)) rfl rfl (.inl rfl) ?_)
    refine w_grow rfl rfl (s_call Tryd.call10 rfl (QAdd_ok ((tab n (cutT X j)).getD (j &&& (j - 1)) zRR) ((procsR X).getD (low j) zRR) _ (by omega)) ?_)
    rintro r w3 ⟨rfl, hB3⟩
    refine ⟨hB3, ?_⟩
    rw [hval]
    replace hS := hS.grow hB3
    refine w_pure rfl rfl (s_ixo (i := j)  rfl rfl (by omega) (by first | omega | (simp; done) | (simp; omega)) si_24 ?_)
    refine w_free rfl rfl (s_stE (k := 0) (i := j) (enc := encR) (ofQ (payF X j)) (fun _ => rfl)  rfl rfl vi_32 hS rfl (by first | omega | simp) (by first | omega | (simp; done) | (simp; omega)) rfl rfl ?_)
    intro wz4 hS
    refine w_end ?_
    repeat (with_reducible first | refine c_seq ?_ | refine c_block ?_ | refine c_skip ?_ | refine x_then ?_ | refine x_block ?_)
    refine c_reg ?_
    refine l_pure rfl (s_move  h4 ?_)
    refine l_pure rfl (s_add  rfl rfl (IntWalk.i64_in _ (by omega)) ?_)
    refine l_pure rfl (s_asg  rfl ?_)
    refine l_nil ?_
    repeat (with_reducible first | refine c_seq ?_ | refine c_block ?_ | refine c_skip ?_ | refine x_then ?_ | refine x_block ?_)
    refine ⟨j + 1, _, rfl, ⟨by omega, by omega, h1, h3, vi rfl (by omega), hS.cast ?_⟩, by omega⟩
    show [_, _] = _
    rw [tab_set, tab_congr (f := fun i => if i = j then ofQ (payF X j) else cutT X j i) (g := cutT X (j + 1)) fun i hi => ?_]
    unfold cutT
    by_cases e : i = j
    · subst e; rw [if_pos rfl, if_pos (by omega)]
    · rw [if_neg e]
      by_cases e2 : i < j
      · rw [if_pos e2, if_pos (by omega)]
      · rw [if_neg e2, if_neg (by omega)]
  · refine c_no rfl (decide_eq_false (by omega)) ?_
    repeat (with_reducible first | refine c_seq ?_ | refine c_block ?_ | refine c_skip ?_ | refine x_then ?_ | refine x_block ?_)
    refine c_exit ?_
    repeat (with_reducible first | refine x_then_exit ?_ | refine x_block_exit ?_ | refine x_block_pass rfl ?_)
    repeat (with_reducible first | refine c_seq ?_ | refine c_block ?_ | refine c_skip ?_ | refine x_then ?_ | refine x_block ?_)
    obtain rfl : j = n := by omega
    repeat (with_reducible first | refine c_seq ?_ | refine c_block ?_ | refine c_skip ?_ | refine x_then ?_ | refine x_block ?_)
    refine c_reg ?_
    refine l_pure rfl (s_move  h3 ?_)
    refine l_pure rfl (s_asg  rfl ?_)
    refine l_nil ?_
    repeat (with_reducible first | refine c_seq ?_ | refine c_block ?_ | refine c_skip ?_ | refine x_then ?_ | refine x_block ?_)
    refine c_ret ?_
    repeat (with_reducible first | refine x_then_ret ?_ | refine x_block_ret ?_)
    refine r_one rfl rfl ?_
    subst hn
    refine ⟨bc, rfl, ?_⟩
    refine (hS.drop (H' := [_]) (List.sublist_append_left [_] _)).cast ?_
    rw [tab_congr (f := cutT X (2 ^ X.length)) (g := fun j => ofQ (payF X j)) fun i hi => by unfold cutT; rw [if_pos hi]]
end Go.Proofs.YtfocimgpahjkmaaDoor
namespace Go.Proofs.YtfocimgpahjkmaaDoor
open Go Go.RowKit Go.Sx

theorem outs_andn {X : List It} {m c : Nat} {R : List Nat} (hR : Masks X m X.length 0 R) (hX8 : X.length ≤ 8) (hc : c < m) (j : Nat) : andn (R.getD c 0) j ≠ 0 ↔ outs X j c = true := by
  have hlt := hR.lt c hc
  have hbit := hR.bit c hc
  rw [andn_ne, outs, List.any_eq_true]
  constructor
  · rintro ⟨i, _, h1, h2⟩
    rw [hbit] at h1
    simp only [List.take_zero, List.any_nil, Bool.and_false, Bool.or_false, Bool.and_eq_true, decide_eq_true_eq] at h1
    exact ⟨i, List.mem_range.2 h1.1, by rw [h1.2, h2]; rfl⟩
  · rintro ⟨i, hi, h⟩
    have hi := List.mem_range.1 hi
    simp only [Bool.and_eq_true, Bool.not_eq_true'] at h
    refine ⟨i, by omega, ?_, h.1⟩
    rw [hbit, decide_eq_true hi, h.2]; rfl

def dlt (X : List It) (owed : List RR) (c j : Nat) : Rat := if outs X j c = true then owF owed c else 0
def rowT (q : Nat → Rat) (d : Nat → Rat) (J j : Nat) : RR := ofQ (if j < J then q j + d j else q j)
theorem rowT_set {q d : Nat → Rat} {n j : Nat} (hj : j < n) : (tab n (rowT q d j)).set j (ofQ (q j + d j)) = tab n (rowT q d (j + 1)) := by
  rw [tab_set]
  refine tab_congr fun i hi => ?_
  unfold rowT
  by_cases e : i = j
  · subst e; rw [if_pos rfl, if_pos (by omega)]
  · rw [if_neg e]
    by_cases e2 : i < j
    · rw [if_pos e2, if_pos (by omega)]
    · rw [if_neg e2, if_neg (by omega)]

set_option maxHeartbeats 1000000 in
theorem nadd_ok (sP sO sM : Value) (b N c K KL : Nat) (q : Nat → Rat) (X : List It) (owed : List RR) (R : List Nat) (w0 w : World) (H : List Blk) (hS : St w0 w ((b, 32, (tab N fun j => ofQ (q j)).flatMap encR) :: H))
    (hO : ∀ w' C, St w0 w' ((b, 32, C) :: H) → Sl encR 3 w' sO (owedR owed)) (hMr : ∀ w' C, St w0 w' ((b, 32, C) :: H) → Sl (uk .u64) 1 w' sM R)
    (hN : N ≤ 256) (hX8 : X.length ≤ 8) (hc : c < owed.length) (hR : Masks X owed.length X.length 0 R) (hq : ∀ j, j < N → L (q j) ≤ K) (hoB : RB KL owed) (hK : K + KL ≤ MX) :
    Ret Tryd.prog 31 #[.agg #[sP, sO, sM], .slice (some ⟨b, 0, none⟩) N N, .int .i64 c] w fun v w' => v = .tuple #[] ∧ St w0 w' ((b, 32, (tab N fun j => ofQ (q j + dlt X owed c j)).flatMap encR) :: H) := by
  have hM : MX = 1099511627776 := rfl
  have hRl := hR.len
  have hcR : c < R.length := by omega
  have hol := owed_len owed
  have hmx := (hO _ _ hS).maxLen
  have hRlt := hR.lt c hc
  have h00 : (tab N fun j => ofQ (q j)) = tab N (rowT q (dlt X owed c) 0) := tab_congr fun i _ => by unfold rowT; rw [if_neg (Nat.not_lt_zero _)]
  rw [h00] at hS
  refine enter Tryd.func31 rfl Tryd.ntmps31 rfl ?_
  repeat (with_reducible first | refine c_seq ?_ | refine c_block ?_ | refine c_skip ?_ | refine x_then ?_ | refine x_block ?_)
  refine c_reg ?_
  refine l_heavy rfl (s_box (new := [sP, sO, sM])  rfl rfl hS ?_)
  intro b3 wz1 hS hBz1
  refine l_nil ?_
  repeat (with_reducible first | refine c_seq ?_ | refine c_block ?_ | refine c_skip ?_ | refine x_then ?_ | refine x_block ?_)
  refine c_reg ?_
  refine l_pure rfl (s_move  rfl ?_)
  refine l_pure rfl (s_leno  rfl ⟨_, Tryd.underlying24⟩ ?_)
  refine l_pure rfl (s_move  rfl ?_)
  refine l_nil ?_
  repeat (with_reducible first | refine c_seq ?_ | refine c_block ?_ | refine c_skip ?_ | refine x_then ?_ | refine x_block ?_)
  refine c_loop (σ := Nat) (fun j ρ w' => j ≤ N ∧ ρ 1 = .slice (some ⟨b, 0, none⟩) N N ∧ ρ 2 = .int .i64 c ∧ ρ 3 = .pointer (some ⟨b3, 0, none⟩) ∧ ρ 8 = .int .i64 N ∧ ρ 9 = .int .i64 j ∧
      St w0 w' ((b3, 56, [sP, sO, sM]) :: (b, 32, (tab N (rowT q (dlt X owed c) j)).flatMap encR) :: H)) (fun j => N - j) 0
    ⟨Nat.zero_le _, rfl, rfl, rfl, rfl, rfl, hS⟩ ?_
  clear hS
  rintro j ρ w2 ⟨hj, h1, h2, h3, h8, h9, hS⟩
  have htl := tab_len N (rowT q (dlt X owed c) j)
  repeat (with_reducible first | refine c_seq ?_ | refine c_block ?_ | refine c_skip ?_ | refine x_then ?_ | refine x_block ?_)
  refine c_reg ?_
  refine l_pure rfl (s_lss  h9 h8 ?_)
  refine l_nil ?_
  repeat (with_reducible first | refine c_seq ?_ | refine c_block ?_ | refine c_skip ?_ | refine x_then ?_ | refine x_block ?_)
  by_cases hlt : j < N
  · refine c_yes rfl (decide_eq_true (by omega)) ?_
    repeat (with_reducible first | refine c_seq ?_ | refine c_block ?_ | refine c_skip ?_ | refine x_then ?_ | refine x_block ?_)
    refine c_reg ?_
    refine l_pure rfl (s_move  h9 ?_)
    refine l_pure rfl (s_asg  rfl ?_)
    refine l_nil ?_
    repeat (with_reducible first | refine c_seq ?_ | refine c_block ?_ | refine c_skip ?_ | refine x_then ?_ | refine x_block ?_)
    refine c_reg ?_
    refine l_pure rfl (s_fld  h3 fo_56_2 ?_)
    refine l_read rfl (s_ldo (k := 0)  rfl vi_54 hS rfl rfl rfl (.inr rfl) ?_)
    refine l_pure rfl (s_move  h2 ?_)
    refine l_pure rfl (s_ixr (i := c)  rfl rfl (hMr _ _ (hS.drop (List.sublist_cons_self _ _))) (by omega) (by first | omega | (simp; done) | (simp; omega)) si_54 ?_)
    refine l_read rfl (s_lde (i := c) 0  rfl vi_59 (hMr _ _ (hS.drop (List.sublist_cons_self _ _))) (by first | omega | (simp; done) | (simp; omega)) rfl rfl (.inr rfl) ?_)
    refine l_pure rfl (s_move  rfl ?_)
    refine l_pure rfl (s_conv  rfl Tryd.underlying59 ⟨_, Tryd.underlying3⟩ (IntWalk.u64_in _ (by omega)) ?_)
    refine l_pure rfl (s_andn  rfl rfl (r := ((andn (R.getD c 0) j : Nat) : Int)) (by exact andn_nat _ _) ?_)
    refine l_pure rfl (s_neq  rfl rfl ?_)
    refine l_nil ?_
    repeat (with_reducible first | refine c_seq ?_ | refine c_skip ?_ | refine x_then ?_ | refine x_block ?_)
    refine c_cut1 (fun ρ w' => ρ 1 = .slice (some ⟨b, 0, none⟩) N N ∧ ρ 2 = .int .i64 c ∧ ρ 3 = .pointer (some ⟨b3, 0, none⟩) ∧ ρ 8 = .int .i64 N ∧ ρ 9 = .int .i64 j ∧
      St w0 w' ((b3, 56, [sP, sO, sM]) :: (b, 32, (tab N (rowT q (dlt X owed c) (j + 1))).flatMap encR) :: H)) ?_ ?_
    · have han := outs_andn hR hX8 hc j
      repeat (with_reducible first | refine c_seq ?_ | refine c_block ?_ | refine c_skip ?_ | refine x_then ?_ | refine x_block ?_)
      by_cases ho : outs X j c = true
      · have hne := han.2 ho
        refine c_yes rfl (decide_eq_true (by omega)) ?_
        repeat (with_reducible first | refine c_seq ?_ | refine c_block ?_ | refine c_skip ?_ | refine x_then ?_ | refine x_block ?_)
        have hval : toQ ((tab N (rowT q (dlt X owed c) j)).getD j zRR) + toQ ((owedR owed).getD c zRR) = q j + dlt X owed c j := by
          rw [tab_get _ _ hlt, owed_get owed hc, toQ_ofQ]
          unfold rowT dlt
          rw [if_neg (Nat.lt_irrefl _), toQ_ofQ, if_pos ho]
        have hL1 : Lr ((tab N (rowT q (dlt X owed c) j)).getD j zRR) ≤ K := by
          rw [tab_get _ _ hlt]
          unfold rowT
          rw [if_neg (Nat.lt_irrefl _), Lr_ofQ]; exact hq j hlt
        have hL2 : Lr ((owedR owed).getD c zRR) ≤ KL := by rw [owed_get owed hc, Lr_ofQ]; exact L_owF hoB hc
        repeat (with_reducible first | refine c_seq ?_ | refine c_block ?_ | refine c_skip ?_ | refine x_then ?_ | refine x_block ?_)
        refine c_draw [(0, .pure), (1, .pure), (2, .pure), (3, .pure), (4, .pure), (5, .read), (6, .pure), (7, .read), (8, .pure), (9, .pure), (10, .read), (11, .grow), (12, .pure), (13, .free)] (by kernel_rfl) (by kernel_rfl) hS ?_
        intro wz2 hS hBz2
        refine w_pure rfl rfl (s_move  h1 ?_)
        refine w_pure rfl rfl (s_move  rfl ?_)
        refine w_pure rfl rfl (s_move  h1 ?_)
        refine w_pure rfl rfl (s_move  rfl ?_)
        refine w_pure rfl rfl (s_ixo (i := j)  rfl rfl (by omega) (by first | omega | (simp; done) | (simp; omega)) si_24 ?_)
        refine w_read rfl rfl (s_ldE (k := 1) (i := j) (enc := encR) zRR (fun _ => rfl)  rfl vi_32 hS rfl (by first | omega | simp) (by first | omega | (simp; done) | (simp; omega)) rfl (.inl rfl) ?_)
        refine w_pure rfl rfl (s_fld  h3 fo_56_1 ?_)
        refine w_read rfl rfl (s_ldo (k := 0)  rfl vi_24 hS rfl rfl rfl (.inr rfl) ?_)
        refine w_pure rfl rfl (s_move  h2 ?_)
        refine w_pure rfl rfl (s_ixr (i := c)  rfl rfl (hO _ _ (hS.drop (List.sublist_cons_self _ _))) (by omega) (by first | omega | (simp; done) | (simp; omega)) si_24 ?_)
        refine w_read rfl rfl (s_lde (i := c) zRR  rfl vi_32 (hO _ _ (hS.drop (List.sublist_cons_self _ _))) (by first | omega | (simp; done) | (simp; omega)) rfl rfl (.inl rfl) ?_)
        refine w_grow rfl rfl (s_call Tryd.call10 rfl (QAdd_ok ((tab N (rowT q (dlt X owed c) j)).getD j zRR) ((owedR owed).getD c zRR) _ (by omega)) ?_)
        rintro r w3 ⟨rfl, hB3⟩
        refine ⟨hB3, ?_⟩
        rw [hval]
        replace hS := hS.grow hB3
        refine w_pure rfl rfl (s_ixo (i := j)  rfl rfl (by omega) (by first | omega | (simp; done) | (simp; omega)) si_24 ?_)
        refine w_free rfl rfl (s_stE (k := 1) (i := j) (enc := encR) (ofQ (q j + dlt X owed c j)) (fun _ => rfl)  rfl rfl vi_32 hS rfl (by first | omega | simp) (by first | omega | (simp; done) | (simp; omega)) rfl rfl ?_)
        intro wz3 hS
        refine w_end ?_
        repeat (with_reducible first | refine c_seq ?_ | refine c_block ?_ | refine c_skip ?_ | refine x_then ?_ | refine x_block ?_)
        refine ⟨_, rfl, h1, h2, h3, h8, h9, hS.cast ?_⟩
        show _ :: _ :: _ = _
        rw [rowT_set hlt]
      · have hne : andn (R.getD c 0) j = 0 := Decidable.not_not.1 (fun h => ho (han.1 h))
        refine c_no rfl (decide_eq_false (by omega)) ?_
        repeat (with_reducible first | refine c_seq ?_ | refine c_block ?_ | refine c_skip ?_ | refine x_then ?_ | refine x_block ?_)
        refine ⟨_, rfl, h1, h2, h3, h8, h9, hS.cast ?_⟩
        have : tab N (rowT q (dlt X owed c) j) = tab N (rowT q (dlt X owed c) (j + 1)) := tab_congr fun i hi => by
          unfold rowT
          by_cases e : i = j
          · subst e; rw [if_neg (Nat.lt_irrefl _), if_pos (Nat.lt_succ_self _)]; unfold dlt; rw [if_neg ho, Rat.add_zero]
          · by_cases e2 : i < j
            · rw [if_pos e2, if_pos (by omega)]
            · rw [if_neg e2, if_neg (by omega)]
        rw [this]
    clear hS
    rintro ρ w3 ⟨h1, h2, h3, h8, h9, hS⟩
    repeat (with_reducible first | refine c_seq ?_ | refine c_block ?_ | refine c_skip ?_ | refine x_then ?_ | refine x_block ?_)
    refine c_reg ?_
    refine l_pure rfl (s_add  h9 rfl (IntWalk.i64_in _ (by omega)) ?_)
    refine l_pure rfl (s_move  rfl ?_)
    refine l_nil ?_
    repeat (with_reducible first | refine c_seq ?_ | refine c_block ?_ | refine c_skip ?_ | refine x_then ?_ | refine x_block ?_)
    exact ⟨j + 1, _, rfl, ⟨hlt, h1, h2, h3, h8, vi rfl (by omega), hS⟩, by omega⟩
  · refine c_no rfl (decide_eq_false (by omega)) ?_
    repeat (with_reducible first | refine c_seq ?_ | refine c_block ?_ | refine c_skip ?_ | refine x_then ?_ | refine x_block ?_)
    refine c_exit ?_
    repeat (with_reducible first | refine x_then_exit ?_ | refine x_block_exit ?_ | refine x_block_pass rfl ?_)
    repeat (with_reducible first | refine c_seq ?_ | refine c_block ?_ | refine c_skip ?_ | refine x_then ?_ | refine x_block ?_)
    obtain rfl : j = N := by omega
    refine r_none rfl ⟨rfl, (hS.drop (List.sublist_cons_self _ _)).cast ?_⟩
    rw [tab_congr (f := rowT q (dlt X owed c) j) (g := fun j => ofQ (q j + dlt X owed c j)) fun i hi => by unfold rowT; rw [if_pos hi]]

theorem least_ok (v : Value) (q : Nat → Rat) (N K : Nat) (w : World) (hv : Sl encR 3 w v (tab N fun j => ofQ (q j))) (hN : 0 < N) (hq : ∀ j, j < N → L (q j) ≤ K) (hK : 2 * K ≤ MX) :
    Ret Tryd.prog 32 #[v] w fun r w' => r = aggR (ofQ (mins q N)) ∧ Below w.heap.size w w' := by
  have hM : MX = 1099511627776 := rfl
  have hmx := hv.maxLen
  have htl := tab_len N fun j => ofQ (q j)
  have hg : ∀ i, i < N → (tab N fun j => ofQ (q j)).getD i zRR = ofQ (q i) := fun i hi => tab_get _ _ hi
  rw [htl] at hmx
  have hS := St.init w
  refine enter Tryd.func32 rfl Tryd.ntmps32 rfl ?_
  repeat (with_reducible first | refine c_seq ?_ | refine c_block ?_ | refine c_skip ?_ | refine x_then ?_ | refine x_block ?_)
  refine c_reg ?_
  refine l_heavy rfl (s_alloc  vi_32 hS ?_)
  intro b2 wz1 hS hBz1
  refine l_nil ?_
  repeat (with_reducible first | refine c_seq ?_ | refine c_block ?_ | refine c_skip ?_ | refine x_then ?_ | refine x_block ?_)
  refine c_reg ?_
  refine l_pure rfl (s_move  rfl ?_)
  refine l_pure rfl (s_ixr (i := 0)  rfl rfl (hv.below hS.below) (by omega) (by first | omega | (simp; done) | (simp; omega)) si_24 ?_)
  refine l_read rfl (s_lde (i := 0) zRR  rfl vi_32 (hv.below hS.below) (by first | omega | (simp; done) | (simp; omega)) rfl rfl (.inl rfl) ?_)
  refine l_heavy rfl (s_alloc  vi_32 hS ?_)
  intro b3 wz2 hS hBz2
  refine l_heavy rfl (s_sta (k := 0)  rfl rfl vi_32 hS rfl rfl rfl (Nat.le_of_ble_eq_true rfl) rfl ?_)
  intro wz3 hS
  refine l_nil ?_
  repeat (with_reducible first | refine c_seq ?_ | refine c_block ?_ | refine c_skip ?_ | refine x_then ?_ | refine x_block ?_)
  refine c_reg ?_
  refine l_pure rfl (s_move  rfl ?_)
  refine l_pure rfl (s_lenr  rfl (hv.below hS.below) ⟨_, Tryd.underlying24⟩ ?_)
  refine l_pure rfl (s_move  rfl ?_)
  refine l_nil ?_
  repeat (with_reducible first | refine c_seq ?_ | refine c_block ?_ | refine c_skip ?_ | refine x_then ?_ | refine x_block ?_)
  rw [htl]
  have hg0 := hg 0 hN
  replace hS : St w _ [(b3, 32, encR ((tab N fun j => ofQ (q j)).getD 0 zRR)), (b2, 32, encR zRR)] := hS
  rw [hg0] at hS
  refine c_loop (σ := Nat) (fun i ρ w' => i ≤ N ∧ ρ 0 = v ∧ ρ 2 = .pointer (some ⟨b2, 0, none⟩) ∧ ρ 3 = .pointer (some ⟨b3, 0, none⟩) ∧ ρ 9 = v ∧ ρ 10 = .int .i64 N ∧ ρ 11 = .int .i64 i ∧
      St w w' [(b3, 32, encR (ofQ (mins q i))), (b2, 32, encR zRR)]) (fun i => N - i) 0
    ⟨Nat.zero_le _, rfl, rfl, rfl, rfl, rfl, rfl, hS⟩ ?_
  clear hS
  rintro i ρ w2 ⟨hi, h0, h2, h3, h9, h10, h11, hS⟩
  repeat (with_reducible first | refine c_seq ?_ | refine c_block ?_ | refine c_skip ?_ | refine x_then ?_ | refine x_block ?_)
  refine c_reg ?_
  refine l_pure rfl (s_lss  h11 h10 ?_)
  refine l_nil ?_
  repeat (with_reducible first | refine c_seq ?_ | refine c_block ?_ | refine c_skip ?_ | refine x_then ?_ | refine x_block ?_)
  by_cases hlt : i < N
  · refine c_yes rfl (decide_eq_true (by omega)) ?_
    repeat (with_reducible first | refine c_seq ?_ | refine c_block ?_ | refine c_skip ?_ | refine x_then ?_ | refine x_block ?_)
    have hgi := hg i hlt
    have hLi := hq i hlt
    have hLm : L (mins q i) ≤ K := L_mins q K i (fun k hk => hq k (by omega))
    repeat (with_reducible first | refine c_seq ?_ | refine c_block ?_ | refine c_skip ?_ | refine x_then ?_ | refine x_block ?_)
    refine c_reg ?_
    refine l_pure rfl (s_ixr (i := i)  h9 h11 (hv.below hS.below) (by omega) (by first | omega | (simp; done) | (simp; omega)) si_24 ?_)
    refine l_read rfl (s_lde (i := i) zRR  rfl vi_32 (hv.below hS.below) (by first | omega | (simp; done) | (simp; omega)) rfl rfl (.inl rfl) ?_)
    refine l_heavy rfl (s_alloc  vi_32 hS ?_)
    intro b5 wz4 hS hBz4
    refine l_heavy rfl (s_sta (k := 0)  rfl rfl vi_32 hS rfl rfl rfl (Nat.le_of_ble_eq_true rfl) rfl ?_)
    intro wz5 hS
    refine l_nil ?_
    repeat (with_reducible first | refine c_seq ?_ | refine c_block ?_ | refine c_skip ?_ | refine x_then ?_ | refine x_block ?_)
    replace hS : St w _ [(b5, 32, encR ((tab N fun j => ofQ (q j)).getD i zRR)), (b3, 32, encR (ofQ (mins q i))), (b2, 32, encR zRR)] := hS
    rw [hgi] at hS
    repeat (with_reducible first | refine c_seq ?_ | refine c_block ?_ | refine c_skip ?_ | refine x_then ?_ | refine x_block ?_)
    refine c_reg ?_
    refine l_read rfl (s_ldo (k := 1)  h3 vi_32 hS rfl rfl rfl (.inl rfl) ?_)
    refine l_read rfl (s_ldo (k := 0)  rfl vi_32 hS rfl rfl rfl (.inl rfl) ?_)
    refine l_heavy rfl (s_call Tryd.call22 rfl (QMin_ok (ofQ (mins q i)) (ofQ (q i)) _ (by rw [Lr_ofQ, Lr_ofQ]; omega)) ?_)
    rintro r w3 ⟨rfl, hB3⟩
    rw [toQ_ofQ, toQ_ofQ]
    replace hS := hS.grow hB3
    refine l_heavy rfl (s_sta (k := 1)  h3 rfl vi_32 hS rfl rfl rfl (Nat.le_of_ble_eq_true rfl) rfl ?_)
    intro wz6 hS
    refine l_nil ?_
    repeat (with_reducible first | refine c_seq ?_ | refine c_block ?_ | refine c_skip ?_ | refine x_then ?_ | refine x_block ?_)
    refine c_reg ?_
    refine l_pure rfl (s_add  h11 rfl (IntWalk.i64_in _ (by omega)) ?_)
    refine l_pure rfl (s_move  rfl ?_)
    refine l_nil ?_
    repeat (with_reducible first | refine c_seq ?_ | refine c_block ?_ | refine c_skip ?_ | refine x_then ?_ | refine x_block ?_)
    exact ⟨i + 1, _, rfl, ⟨hlt, h0, h2, h3, h9, h10, vi rfl (by omega), hS.drop (List.sublist_cons_self _ _)⟩, by omega⟩
  · refine c_no rfl (decide_eq_false (by omega)) ?_
    repeat (with_reducible first | refine c_seq ?_ | refine c_block ?_ | refine c_skip ?_ | refine x_then ?_ | refine x_block ?_)
    refine c_exit ?_
    repeat (with_reducible first | refine x_then_exit ?_ | refine x_block_exit ?_ | refine x_block_pass rfl ?_)
    repeat (with_reducible first | refine c_seq ?_ | refine c_block ?_ | refine c_skip ?_ | refine x_then ?_ | refine x_block ?_)
    obtain rfl : i = N := by omega
    repeat (with_reducible first | refine c_seq ?_ | refine c_block ?_ | refine c_skip ?_ | refine x_then ?_ | refine x_block ?_)
    refine c_reg ?_
    refine l_read rfl (s_ldo (k := 0)  h3 vi_32 hS rfl rfl rfl (.inl rfl) ?_)
    refine l_heavy rfl (s_sta (k := 1)  h2 rfl vi_32 hS rfl rfl rfl (Nat.le_of_ble_eq_true rfl) rfl ?_)
    intro wz7 hS
    refine l_nil ?_
    repeat (with_reducible first | refine c_seq ?_ | refine c_block ?_ | refine c_skip ?_ | refine x_then ?_ | refine x_block ?_)
    refine c_ret ?_
    repeat (with_reducible first | refine x_then_ret ?_ | refine x_block_ret ?_)
    refine r_cell (k := 1) rfl h2 vi_32 hS rfl rfl ?_
    exact ⟨rfl, hS.below⟩
end Go.Proofs.YtfocimgpahjkmaaDoor
namespace Go.Proofs.YtfocimgpahjkmaaDoor
open Go Go.RowKit Go.Sx

theorem capF_eq (X : List It) (owed : List RR) (set : Nat → Bool) (j : Nat) : capF X owed set j = payF X j + sumIf owed.length (fun c => set c && outs X j c) (owF owed) := rfl
theorem capF_none (X : List It) (owed : List RR) (j : Nat) : capF X owed (fun _ => false) j = payF X j := by
  rw [capF_eq, sumIf_congr (q := fun _ => false) (g := owF owed) (fun i _ => ⟨Bool.false_and _, rfl⟩), sumIf_none, Rat.add_zero]
theorem capF_congr (X : List It) (owed : List RR) {s t : Nat → Bool} (h : ∀ c, c < owed.length → s c = t c) (j : Nat) : capF X owed s j = capF X owed t j := by
  rw [capF_eq, capF_eq, sumIf_congr (q := fun c => t c && outs X j c) (g := owF owed) (fun i hi => ⟨by rw [h i hi], rfl⟩)]
theorem capF_step (X : List It) (owed : List RR) {s t : Nat → Bool} {c : Nat} (hc : c < owed.length) (hs : s c = false) (ht : t c = true) (h : ∀ i, i < owed.length → i ≠ c → s i = t i) (j : Nat) : capF X owed s j + dlt X owed c j = capF X owed t j := by
  rw [capF_eq, capF_eq]
  unfold dlt
  by_cases ho : outs X j c = true
  · rw [if_pos ho, sumIf_add (p := fun c => s c && outs X j c) (q := fun c => t c && outs X j c) hc (by simp [hs]) (by simp [ht, ho]) (fun i hi hne => by simp [h i hi hne])]
    grind
  · rw [if_neg ho, Rat.add_zero]
    refine congrArg (payF X j + ·) (sumIf_congr fun i hi => ⟨?_, rfl⟩)
    by_cases e : i = c
    · subst e; simp [ho]
    · rw [h i hi e]
def totT (X : List It) (owed : List RR) (J c : Nat) : RR := if c < J then ofQ (preQ X owed (c + 1) - preQ X owed c) else zRR
theorem preQ_succ (X : List It) (owed : List RR) (c : Nat) : preQ X owed (c + 1) = mins (capF X owed fun i => decide (i < c + 1)) (2 ^ X.length) := by
  unfold preQ capQ
  rw [if_neg (Nat.succ_ne_zero _)]

set_option maxHeartbeats 1000000 in
theorem totals_ok (sP sO sM : Value) (X : List It) (owed : List RR) (R : List Nat) (K : Nat) (w : World) (hP : Sl encR 3 w sP (procsR X)) (hO : Sl encR 3 w sO (owedR owed)) (hMr : Sl (uk .u64) 1 w sM R) (hR : Masks X owed.length X.length 0 R)
    (hXB : ItB K X) (hoB : RB K owed) (hK : 80 * K + 90 ≤ MX) (hX8 : X.length ≤ 8) (ho24 : owed.length ≤ 24)
    (hT : At w ⟨2, 0, none⟩ (Kr .u8 tzTab)) :
    Ret Tryd.prog 21 #[.agg #[sP, sO, sM]] w fun v w' => ∃ b, v = .slice (some ⟨b, 0, none⟩) owed.length owed.length ∧ St w w' [(b, 32, (tab owed.length fun c => ofQ (preQ X owed (c + 1) - preQ X owed c)).flatMap encR)] := by
  have hM : MX = 1099511627776 := rfl
  have hol := owed_len owed
  obtain ⟨N, hN⟩ : ∃ N, N = 2 ^ X.length := ⟨_, rfl⟩
  have hN256 : N ≤ 256 := by rw [hN]; exact Nat.pow_le_pow_right (n := 2) (by decide) hX8
  have hN1 : 1 ≤ N := by rw [hN]; exact Nat.one_le_two_pow
  obtain ⟨m, hm⟩ : ∃ m, m = owed.length := ⟨_, rfl⟩
  have hzero : (List.replicate m zRR) = tab m (totT X owed 0) := by
    rw [tab_rep]; exact tab_congr fun i _ => by unfold totT; rw [if_neg (Nat.not_lt_zero _)]
  have hS := St.init w
  refine enter Tryd.func21 rfl Tryd.ntmps21 rfl ?_
  repeat (with_reducible first | refine c_seq ?_ | refine c_block ?_ | refine c_skip ?_ | refine x_then ?_ | refine x_block ?_)
  refine c_reg ?_
  refine l_heavy rfl (s_box (new := [sP, sO, sM])  rfl rfl hS ?_)
  intro b1 wz1 hS hBz1
  refine l_pure rfl (s_asg  rfl ?_)
  refine l_nil ?_
  repeat (with_reducible first | refine c_seq ?_ | refine c_block ?_ | refine c_skip ?_ | refine x_then ?_ | refine x_block ?_)
  refine c_reg ?_
  refine l_pure rfl (s_fld  rfl fo_56_1 ?_)
  refine l_read rfl (s_ldo (k := 0)  rfl vi_24 hS rfl rfl rfl (.inr rfl) ?_)
  refine l_pure rfl (s_lenr  rfl (hO.below hS.below) ⟨_, Tryd.underlying24⟩ ?_)
  refine l_heavy rfl (s_makeE (enc := encR) (n := m) zRR  rfl rfl si_24 rfl (by omega) (by omega) (by omega) (by omega) hS ?_)
  intro bo wz2 hS hBz2
  refine l_pure rfl (s_asg  rfl ?_)
  refine l_nil ?_
  repeat (with_reducible first | refine c_seq ?_ | refine c_block ?_ | refine c_skip ?_ | refine x_then ?_ | refine x_block ?_)
  rw [hol, ← hm]
  rw [hzero] at hS
  repeat (with_reducible first | refine c_seq ?_ | refine c_block ?_ | refine c_skip ?_ | refine x_then ?_ | refine x_block ?_)
  refine c_reg ?_
  refine l_read rfl (s_ldo (k := 1)  rfl vi_56 hS rfl rfl rfl (.inl rfl) ?_)
  refine l_heavy rfl (s_call Tryd.call30 rfl (cuts_ok sP sO sM X K _ (hP.below hS.below) hXB (by omega) hX8 (hT.below hS.below)) ?_)
  rintro r w3 ⟨bc, rfl, hS3⟩
  rw [← hN] at hS3 ⊢
  replace hS := hS.join hS3
  refine l_pure rfl (s_asg  rfl ?_)
  refine l_nil ?_
  repeat (with_reducible first | refine c_seq ?_ | refine c_block ?_ | refine c_skip ?_ | refine x_then ?_ | refine x_block ?_)
  refine c_reg ?_
  refine l_pure rfl (s_build  rfl bz_32 ?_)
  refine l_heavy rfl (s_alloc  vi_32 hS ?_)
  intro b5 wz3 hS hBz3
  refine l_heavy rfl (s_sta (k := 0)  rfl rfl vi_32 hS rfl rfl rfl (Nat.le_of_ble_eq_true rfl) rfl ?_)
  intro wz4 hS
  refine l_nil ?_
  repeat (with_reducible first | refine c_seq ?_ | refine c_block ?_ | refine c_skip ?_ | refine x_then ?_ | refine x_block ?_)
  replace hS : St w _ [(b5, 32, encR zRR), (bc, 32, (tab N fun j => ofQ (payF X j)).flatMap encR), (bo, 32, (tab m (totT X owed 0)).flatMap encR), (b1, 56, [sP, sO, sM])] := hS
  replace hS := hS.perm (List.Perm.swap _ _ _)
  have hz : encR zRR = encR (ofQ (preQ X owed 0)) := by unfold preQ; rw [if_pos rfl, ofQ_zero]; rfl
  have hc0 : (tab N fun j => ofQ (payF X j)) = tab N fun j => ofQ (capF X owed (fun i => decide (i < 0)) j) := tab_congr fun j _ => by
    rw [capF_congr X owed (t := fun _ => false) (fun c _ => by simp), capF_none]
  rw [hz, hc0] at hS
  repeat (with_reducible first | refine c_seq ?_ | refine c_block ?_ | refine c_skip ?_ | refine x_then ?_ | refine x_block ?_)
  refine c_reg ?_
  refine l_pure rfl (s_move  rfl ?_)
  refine l_pure rfl (s_leno  rfl ⟨_, Tryd.underlying24⟩ ?_)
  refine l_pure rfl (s_move  rfl ?_)
  refine l_nil ?_
  repeat (with_reducible first | refine c_seq ?_ | refine c_block ?_ | refine c_skip ?_ | refine x_then ?_ | refine x_block ?_)
  refine c_loop (σ := Nat) (fun c ρ w' => c ≤ m ∧ ρ 1 = .pointer (some ⟨b1, 0, none⟩) ∧ ρ 3 = .slice (some ⟨bo, 0, none⟩) m m ∧ ρ 4 = .slice (some ⟨bc, 0, none⟩) N N ∧ ρ 5 = .pointer (some ⟨b5, 0, none⟩) ∧ ρ 16 = .int .i64 m ∧ ρ 17 = .int .i64 c ∧
      St w w' [(bc, 32, (tab N fun j => ofQ (capF X owed (fun i => decide (i < c)) j)).flatMap encR), (b5, 32, encR (ofQ (preQ X owed c))), (bo, 32, (tab m (totT X owed c)).flatMap encR), (b1, 56, [sP, sO, sM])]) (fun c => m - c) 0
    ⟨Nat.zero_le _, rfl, rfl, rfl, rfl, rfl, rfl, hS⟩ ?_
  clear hS
  rintro c ρ w4 ⟨hc, h1, h3, h4, h5, h16, h17, hS⟩
  have htl := tab_len m (totT X owed c)
  repeat (with_reducible first | refine c_seq ?_ | refine c_block ?_ | refine c_skip ?_ | refine x_then ?_ | refine x_block ?_)
  refine c_reg ?_
  refine l_pure rfl (s_lss  h17 h16 ?_)
  refine l_nil ?_
  repeat (with_reducible first | refine c_seq ?_ | refine c_block ?_ | refine c_skip ?_ | refine x_then ?_ | refine x_block ?_)
  by_cases hlt : c < m
  · refine c_yes rfl (decide_eq_true (by omega)) ?_
    repeat (with_reducible first | refine c_seq ?_ | refine c_block ?_ | refine c_skip ?_ | refine x_then ?_ | refine x_block ?_)
    have hcl : c < owed.length := by omega
    repeat (with_reducible first | refine c_seq ?_ | refine c_block ?_ | refine c_skip ?_ | refine x_then ?_ | refine x_block ?_)
    refine c_reg ?_
    refine l_pure rfl (s_move  h17 ?_)
    refine l_pure rfl (s_asg  rfl ?_)
    refine l_nil ?_
    repeat (with_reducible first | refine c_seq ?_ | refine c_block ?_ | refine c_skip ?_ | refine x_then ?_ | refine x_block ?_)
    refine c_reg ?_
    refine l_read rfl (s_ldo (k := 3)  h1 vi_56 hS rfl rfl rfl (.inl rfl) ?_)
    refine l_pure rfl (s_move  h4 ?_)
    refine l_pure rfl (s_move  rfl ?_)
    refine l_heavy rfl (s_call Tryd.call31 rfl (nadd_ok sP sO sM bc N c (40 * K + 45) K (capF X owed (fun i => decide (i < c))) X owed R w _ _ hS (fun _ _ h => hO.below h.below) (fun _ _ h => hMr.below h.below) hN256 hX8 hcl hR (fun j _ => L_capF hXB hoB hX8 ho24 _ j) hoB (by omega)) ?_)
    rintro r w5 ⟨rfl, hS⟩
    rw [tab_congr (g := fun j => ofQ (capF X owed (fun i => decide (i < c + 1)) j)) fun j _ => by
      rw [capF_step X owed (t := fun i => decide (i < c + 1)) hcl (by simp) (by simp) (fun i _ hne => decide_eq_decide.2 (by omega))]] at hS
    refine l_nil ?_
    repeat (with_reducible first | refine c_seq ?_ | refine c_block ?_ | refine c_skip ?_ | refine x_then ?_ | refine x_block ?_)
    refine c_reg ?_
    refine l_pure rfl (s_move  h4 ?_)
    have hsl : Sl encR 3 _ (.slice (some ⟨bc, 0, none⟩) N N) _ := hS.sle (k := 0) (enc := encR) (n := N) (cap := N) rfl encR_len (by rw [tab_len]; exact Nat.le_refl _) (Nat.le_refl _) (by omega)
    rw [List.take_of_length_le (by rw [tab_len]; exact Nat.le_refl _)] at hsl
    refine l_heavy rfl (s_call Tryd.call32 rfl (least_ok _ (capF X owed (fun i => decide (i < c + 1))) N (40 * K + 45) _ hsl (by omega) (fun j _ => L_capF hXB hoB hX8 ho24 _ j) (by omega)) ?_)
    rintro r w6 ⟨rfl, hB6⟩
    rw [hN, ← preQ_succ, ← hN]
    replace hS := hS.grow hB6
    refine l_heavy rfl (s_alloc  vi_32 hS ?_)
    intro b7 wz5 hS hBz5
    refine l_heavy rfl (s_sta (k := 0)  rfl rfl vi_32 hS rfl rfl rfl (Nat.le_of_ble_eq_true rfl) rfl ?_)
    intro wz6 hS
    refine l_nil ?_
    repeat (with_reducible first | refine c_seq ?_ | refine c_block ?_ | refine c_skip ?_ | refine x_then ?_ | refine x_block ?_)
    have hL1 := L_preQ hXB hoB hX8 ho24 (c + 1)
    have hL2 := L_preQ hXB hoB hX8 ho24 c
    repeat (with_reducible first | refine c_seq ?_ | refine c_block ?_ | refine c_skip ?_ | refine x_then ?_ | refine x_block ?_)
    refine c_reg ?_
    refine l_pure rfl (s_move  h3 ?_)
    refine l_pure rfl (s_move  rfl ?_)
    refine l_read rfl (s_ldo (k := 0)  rfl vi_32 hS rfl rfl rfl (.inl rfl) ?_)
    refine l_read rfl (s_ldo (k := 2)  h5 vi_32 hS rfl rfl rfl (.inl rfl) ?_)
    refine l_heavy rfl (s_call Tryd.call15 rfl (QSubtract_ok (ofQ (preQ X owed (c + 1))) (ofQ (preQ X owed c)) _ (by rw [Lr_ofQ, Lr_ofQ]; omega)) ?_)
    rintro r w7 ⟨rfl, hB7⟩
    rw [toQ_ofQ, toQ_ofQ]
    replace hS := hS.grow hB7
    refine l_pure rfl (s_ixo (i := c)  rfl rfl (by omega) (by first | omega | (simp; done) | (simp; omega)) si_24 ?_)
    refine l_heavy rfl (s_stE (k := 3) (i := c) (enc := encR) (ofQ (preQ X owed (c + 1) - preQ X owed c)) (fun _ => rfl)  rfl rfl vi_32 hS rfl (by first | omega | simp) (by first | omega | (simp; done) | (simp; omega)) rfl rfl ?_)
    intro wz7 hS
    refine l_nil ?_
    repeat (with_reducible first | refine c_seq ?_ | refine c_block ?_ | refine c_skip ?_ | refine x_then ?_ | refine x_block ?_)
    refine c_reg ?_
    refine l_read rfl (s_ldo (k := 0)  rfl vi_32 hS rfl rfl rfl (.inl rfl) ?_)
    refine l_heavy rfl (s_sta (k := 2)  h5 rfl vi_32 hS rfl rfl rfl (Nat.le_of_ble_eq_true rfl) rfl ?_)
    intro wz8 hS
    refine l_nil ?_
    repeat (with_reducible first | refine c_seq ?_ | refine c_block ?_ | refine c_skip ?_ | refine x_then ?_ | refine x_block ?_)
    have hset : (tab m (totT X owed c)).set c (ofQ (preQ X owed (c + 1) - preQ X owed c)) = tab m (totT X owed (c + 1)) := by
      rw [tab_set]
      refine tab_congr fun i hi => ?_
      unfold totT
      by_cases e : i = c
      · subst e; rw [if_pos rfl, if_pos (by omega)]
      · rw [if_neg e]
        by_cases e2 : i < c
        · rw [if_pos e2, if_pos (by omega)]
        · rw [if_neg e2, if_neg (by omega)]
    replace hS : St w _ [(b7, 32, encR (ofQ (preQ X owed (c + 1)))), (bc, 32, (tab N fun j => ofQ (capF X owed (fun i => decide (i < c + 1)) j)).flatMap encR), (b5, 32, encR (ofQ (preQ X owed (c + 1)))), (bo, 32, ((tab m (totT X owed c)).set c (ofQ (preQ X owed (c + 1) - preQ X owed c))).flatMap encR), (b1, 56, [sP, sO, sM])] := hS
    rw [hset] at hS
    repeat (with_reducible first | refine c_seq ?_ | refine c_block ?_ | refine c_skip ?_ | refine x_then ?_ | refine x_block ?_)
    refine c_reg ?_
    refine l_pure rfl (s_add  h17 rfl (IntWalk.i64_in _ (by omega)) ?_)
    refine l_pure rfl (s_move  rfl ?_)
    refine l_nil ?_
    repeat (with_reducible first | refine c_seq ?_ | refine c_block ?_ | refine c_skip ?_ | refine x_then ?_ | refine x_block ?_)
    exact ⟨c + 1, _, rfl, ⟨hlt, h1, h3, h4, h5, h16, vi rfl (by omega), hS.drop (List.sublist_cons_self _ _)⟩, by omega⟩
  · refine c_no rfl (decide_eq_false (by omega)) ?_
    repeat (with_reducible first | refine c_seq ?_ | refine c_block ?_ | refine c_skip ?_ | refine x_then ?_ | refine x_block ?_)
    refine c_exit ?_
    repeat (with_reducible first | refine x_then_exit ?_ | refine x_block_exit ?_ | refine x_block_pass rfl ?_)
    repeat (with_reducible first | refine c_seq ?_ | refine c_block ?_ | refine c_skip ?_ | refine x_then ?_ | refine x_block ?_)
    obtain rfl : c = m := by omega
    repeat (with_reducible first | refine c_seq ?_ | refine c_block ?_ | refine c_skip ?_ | refine x_then ?_ | refine x_block ?_)
    refine c_reg ?_
    refine l_pure rfl (s_move  h3 ?_)
    refine l_pure rfl (s_asg  rfl ?_)
    refine l_nil ?_
    repeat (with_reducible first | refine c_seq ?_ | refine c_block ?_ | refine c_skip ?_ | refine x_then ?_ | refine x_block ?_)
    refine c_ret ?_
    repeat (with_reducible first | refine x_then_ret ?_ | refine x_block_ret ?_)
    refine r_one rfl rfl ?_
    subst hm
    refine ⟨bo, rfl, (hS.drop (H' := [_]) (.cons _ (.cons _ (.cons_cons _ (.cons _ .slnil))))).cast ?_⟩
    rw [tab_congr (f := totT X owed owed.length) (g := fun c => ofQ (preQ X owed (c + 1) - preQ X owed c)) fun i hi => by unfold totT; rw [if_pos hi]]
end Go.Proofs.YtfocimgpahjkmaaDoor
namespace Go.Sx
open Go Go.RowKit
section
variable {P : Program} {N : Nat} {ρ : Nat → Value} {w w0 : World} {H : List Blk}
  {d : Option Tmp} {ty : TypeId} {pos : String} {aft : Array Edge} {g : Option (Nat × Bool)} {x y : Operand} {t e : TypeId} {v vs : Value} {K2 : Value → World → Prop}
theorem s_stG {α : Type} {enc : α → List Value} {size : Nat} {X : List α} {L : List Blk} {i : Nat} {zz : List Value} {agg : Bool} (u : α) (hu : ∀ x, (enc x).length = size) (hx : ev N ρ x = .pointer (some ((sbase vs).add (i * size)))) (hy : ev N ρ y = v) (ht : vinfo P t = some (size, agg, zz)) (hG : Gl enc e size vs X L) (hS : St w0 w (H ++ L))
    (hi : i < X.length) (hv : v.cells.toList = enc u) (h1 : (enc u).all (·.oneCell') = true)
    (h : ∀ w', (∃ L', Gl enc e size vs (X.set i u) L' ∧ St w0 w' (H ++ L')) → K2 undef w') : Hup1 P N ρ w ⟨d, .store t x y, ty, pos, aft, g⟩ K2 := by
  obtain ⟨hX, ⟨rfl, h0, _⟩ | ⟨b, cap, spare, rfl, rfl, h2, h3, h4⟩⟩ := hG
  · omega
  have hx' : ev N ρ x = .pointer (some ⟨b, i * size, none⟩) := by
    rw [hx]
    show Value.pointer (some ((⟨b, 0, none⟩ : Addr).add (i * size))) = _
    rw [add_lit, Nat.zero_add]
  have hk : (H ++ [(b, e, X.flatMap enc ++ spare)])[H.length]? = some (b, e, X.flatMap enc ++ spare) := by simp
  have hfit : i * size + size ≤ (X.flatMap enc).length := by
    rw [hX]
    have : (i + 1) * size ≤ X.length * size := Nat.mul_le_mul_right _ hi
    rw [Nat.add_mul] at this; omega
  refine s_sta hx' hy ht hS hk hv (hu u) (by rw [List.length_append]; omega) h1 (fun w' hS' => ?_)
  have hsp : splice (X.flatMap enc ++ spare) (i * size) (enc u) = (X.set i u).flatMap enc ++ spare := by
    rw [← flat_set hu X u hi]
    unfold splice
    rw [List.take_append_of_le_length (by omega), List.drop_append_of_le_length (by rw [hu]; exact hfit)]
    simp only [List.append_assoc]
  rw [hsp] at hS'
  refine h w' ⟨[(b, e, (X.set i u).flatMap enc ++ spare)], ⟨?_, .inr ⟨b, cap, spare, by rw [List.length_set], rfl, by rw [List.length_set]; exact h2, h3, ?_⟩⟩, hS'.cast (by simp)⟩
  · rw [List.length_set, ← hX, ← flat_set hu X u hi]
    unfold splice
    simp only [List.length_append, List.length_take, List.length_drop, hu]
    omega
  · rw [← h4, List.length_append, List.length_append, ← flat_set hu X u hi]
    unfold splice
    simp only [List.length_append, List.length_take, List.length_drop, hu]
    omega
end
end Go.Sx
namespace Go.Proofs.YtfocimgpahjkmaaDoor
open Go Go.RowKit Go.Sx

theorem firstE_zero {α : Type} {f : α → Int} {l : List α} (h : firstE f l = 0) : ∀ x ∈ l, f x = 0 := by
  induction l with
  | nil => intro x hx; cases hx
  | cons y l ih =>
    intro x hx
    rw [firstE] at h
    by_cases hy : f y = 0
    · rw [if_pos hy] at h
      rcases List.mem_cons.1 hx with rfl | hx
      · exact hy
      · exact ih h x hx
    · rw [if_neg hy] at h; exact absurd h hy
theorem chErr_zero {m : Nat} {c : Ch} (h : chErr m c = 0) : 0 ≤ c.claim ∧ c.claim < m := by
  unfold chErr at h
  by_cases g : c.claim < 0 ∨ (m : Int) ≤ c.claim
  · rw [if_pos g] at h; cases h
  · omega
theorem itErr_zero {m : Nat} {x : It} (h : itErr m x = 0) : x.charges.length ≤ 8 ∧ 0 ≤ toQ x.price ∧ 0 ≤ toQ x.costs ∧ ∀ c ∈ x.charges, chErr m c = 0 := by
  unfold itErr at h
  by_cases g : 8 < x.charges.length
  · rw [if_pos g] at h; cases h
  · rw [if_neg g] at h
    by_cases g2 : toQ x.price < 0 ∨ toQ x.costs < 0
    · rw [if_pos g2] at h; cases h
    · rw [if_neg g2] at h
      refine ⟨by omega, ?_, ?_, firstE_zero h⟩
      · exact Rat.not_lt.1 fun q => g2 (.inl q)
      · exact Rat.not_lt.1 fun q => g2 (.inr q)
theorem checkE_zero {X : List It} {owed : List RR} (h : checkE X owed = 0) : X.length ≤ 8 ∧ owed.length ≤ 24 ∧ negs owed = false ∧ (∀ x ∈ X, itErr owed.length x = 0) ∧ ∀ x ∈ X, ∀ c ∈ x.charges, 0 ≤ c.claim ∧ c.claim < owed.length := by
  unfold checkE at h
  by_cases g : 8 < X.length ∨ 24 < owed.length
  · rw [if_pos g] at h; cases h
  · rw [if_neg g] at h
    by_cases g2 : negs owed = true
    · rw [if_pos g2] at h; cases h
    · rw [if_neg g2] at h
      have h3 := firstE_zero h
      exact ⟨by omega, by omega, by simpa using g2, h3, fun x hx c hc => chErr_zero ((itErr_zero (h3 x hx)).2.2.2 c hc)⟩
theorem ItB_mono {k l : Nat} {X : List It} (h : ItB k X) (hkl : k ≤ l) : ItB l X := fun x hx => by
  obtain ⟨a, b, c⟩ := h x hx
  exact ⟨by omega, by omega, fun y hy => Nat.le_trans (c y hy) hkl⟩
theorem RB_mono {k l : Nat} {X : List RR} (h : RB k X) (hkl : k ≤ l) : RB l X := fun x hx => Nat.le_trans (h x hx) hkl
def totL (X : List It) (owed : List RR) : List RR := if checkE X owed = 0 then tab owed.length fun c => ofQ (preQ X owed (c + 1) - preQ X owed c) else []
def capE (X : List It) (owed : List RR) (claims : List Int) : Int := if checkE X owed = 0 then (if claims.any (fun c => decide (c < 0 ∨ (owed.length : Int) ≤ c)) = true then 1 else 0) else checkE X owed
def capS (claims : List Int) (c : Nat) : Bool := claims.any fun k => decide (k = (c : Int))
def capR (X : List It) (owed : List RR) (claims : List Int) : RR := if capE X owed claims = 0 then ofQ (capQ X owed (capS claims)) else zRR
/-- What of a network stays: its rows, read. -/
structure NetOf (X : List It) (owed : List RR) (w : World) (sP sO sM : Value) (R : List Nat) : Prop where
  P : Sl encR 3 w sP (procsR X)
  O : Sl encR 3 w sO (owedR owed)
  M : Sl (uk .u64) 1 w sM R
  R : Masks X owed.length X.length 0 R

theorem netOf {X : List It} {owed : List RR} {w0 w : World} {H : List Blk} {sP sO : Value} {LP LO : List Blk} {bI : Nat} {R : List Nat} {tu : TypeId} {tR : TypeId} (hP : Gl encR tR 3 sP (procsR X) LP) (hO : Gl encR tR 3 sO (owedR owed) LO) (hR : Masks X owed.length X.length 0 R)
    (hm : owed.length ≤ 24) (hS : St w0 w (H ++ ([(bI, tu, Kr .u64 R)] ++ LO ++ LP))) : NetOf X owed w sP sO (.slice (some ⟨bI, 0, none⟩) owed.length owed.length) R := by
  have h1 : St w0 w ([(bI, tu, Kr .u64 R)] ++ LO ++ LP) := hS.drop (List.sublist_append_right _ _)
  refine ⟨hP.sl h1 encR_len, hO.sl (h1.drop (List.sublist_append_left _ _)) encR_len, ?_, hR⟩
  have h2 : St w0 w ((bI, tu, Kr .u64 R) :: (LO ++ LP)) := h1
  have h3 := h2.slk (k := 0) rfl (n := owed.length) (cap := owed.length) (by rw [hR.len]; exact Nat.le_refl _) (Nat.le_refl _) (by omega)
  rwa [List.take_of_length_le (by rw [hR.len]; exact Nat.le_refl _)] at h3

theorem Totals_ok (vi_ vo : Value) (X : List It) (cvs : List Value) (owed : List RR) (K : Nat) (w : World) (hX : Its w vi_ X cvs) (ho : Sl encR 3 w vo owed) (hXB : ItB K X) (hoB : RB K owed) (hK : 80 * K + 90 ≤ MX)
    (hT : At w ⟨2, 0, none⟩ (Kr .u8 tzTab)) :
    Ret Tryd.prog 8 #[vi_, vo] w fun v w' => (∃ vt, v = .tuple #[vt, .int .i64 (checkE X owed)] ∧ Sl encR 3 w' vt (totL X owed)) ∧ Below w.heap.size w w' := by
  have hM : MX = 1099511627776 := rfl
  have hS := St.init w
  refine enter Tryd.func8 rfl Tryd.ntmps8 rfl ?_
  repeat (with_reducible first | refine c_seq ?_ | refine c_block ?_ | refine c_skip ?_ | refine x_then ?_ | refine x_block ?_)
  refine c_reg ?_
  refine l_pure rfl (s_asg  rfl ?_)
  refine l_pure rfl (s_asg  rfl ?_)
  refine l_nil ?_
  repeat (with_reducible first | refine c_seq ?_ | refine c_block ?_ | refine c_skip ?_ | refine x_then ?_ | refine x_block ?_)
  refine c_reg ?_
  refine l_pure rfl (s_move  rfl ?_)
  refine l_pure rfl (s_move  rfl ?_)
  refine l_heavy rfl (s_call Tryd.call19 rfl (Check_ok vi_ vo X cvs owed _ (hX.below hS.below) (ho.below hS.below) (ItB_mono hXB (by omega)) (RB_mono hoB (by omega))) ?_)
  rintro _ wc1 ⟨rfl, hBc1⟩
  replace hS := hS.grow hBc1
  refine l_pure rfl (s_asg  rfl ?_)
  refine l_nil ?_
  repeat (with_reducible first | refine c_seq ?_ | refine c_block ?_ | refine c_skip ?_ | refine x_then ?_ | refine x_block ?_)
  obtain ⟨e, he⟩ : ∃ e, e = checkE X owed := ⟨_, rfl⟩
  rw [← he]
  repeat (with_reducible first | refine c_seq ?_ | refine c_block ?_ | refine c_skip ?_ | refine x_then ?_ | refine x_block ?_)
  refine c_reg ?_
  refine l_pure rfl (s_move  rfl ?_)
  refine l_pure rfl (s_neq  rfl rfl ?_)
  refine l_nil ?_
  repeat (with_reducible first | refine c_seq ?_ | refine c_block ?_ | refine c_skip ?_ | refine x_then ?_ | refine x_block ?_)
  by_cases h0 : e = 0
  · refine c_no rfl (decide_eq_false (by omega)) ?_
    repeat (with_reducible first | refine c_seq ?_ | refine c_block ?_ | refine c_skip ?_ | refine x_then ?_ | refine x_block ?_)
    obtain ⟨hX8, ho24, hng, hit, hcl⟩ := checkE_zero (he.symm.trans h0)
    repeat (with_reducible first | refine c_seq ?_ | refine c_block ?_ | refine c_skip ?_ | refine x_then ?_ | refine x_block ?_)
    refine c_reg ?_
    refine l_pure rfl (s_move  rfl ?_)
    refine l_pure rfl (s_move  rfl ?_)
    refine l_heavy rfl (s_call Tryd.call20 rfl (build_ok vi_ vo X cvs owed K _ (hX.below hS.below) (ho.below hS.below) hXB hoB (by omega) hX8 ho24 hcl) ?_)
    rintro r w3 ⟨sP, sO, LP, LO, bI, R, rfl, hP, hO, hR, hS3⟩
    have hN := netOf (H := []) hP hO hR ho24 hS3
    have hB3 := hS3.below
    replace hS := hS.grow hB3
    refine l_heavy rfl (s_call Tryd.call21 rfl (totals_ok _ _ _ X owed R K _ hN.P hN.O hN.M hN.R hXB hoB hK hX8 ho24 (hT.below hS.below)) ?_)
    rintro r w4 ⟨b, rfl, hS4⟩
    replace hS := hS.grow hS4.below
    have hsl := hS4.sle (k := 0) (enc := encR) (n := owed.length) (cap := owed.length) rfl encR_len (by rw [tab_len]; exact Nat.le_refl _) (Nat.le_refl _) (by omega)
    rw [List.take_of_length_le (by rw [tab_len]; exact Nat.le_refl _)] at hsl
    refine l_pure rfl (s_asg  rfl ?_)
    refine l_pure rfl (s_asg  rfl ?_)
    refine l_nil ?_
    repeat (with_reducible first | refine c_seq ?_ | refine c_block ?_ | refine c_skip ?_ | refine x_then ?_ | refine x_block ?_)
    refine c_ret ?_
    repeat (with_reducible first | refine x_then_ret ?_ | refine x_block_ret ?_)
    refine r_two rfl rfl rfl ?_
    refine ⟨⟨_, by rw [h0]; rfl, ?_⟩, hS.below⟩
    have ht : totL X owed = tab owed.length fun c => ofQ (preQ X owed (c + 1) - preQ X owed c) := if_pos (he.symm.trans h0)
    rw [ht]
    exact hsl
  · refine c_yes rfl (decide_eq_true (by omega)) ?_
    repeat (with_reducible first | refine c_seq ?_ | refine c_block ?_ | refine c_skip ?_ | refine x_then ?_ | refine x_block ?_)
    refine c_reg ?_
    refine l_pure rfl (s_move  rfl ?_)
    refine l_pure rfl (s_asg  rfl ?_)
    refine l_pure rfl (s_asg  rfl ?_)
    refine l_nil ?_
    repeat (with_reducible first | refine c_seq ?_ | refine c_block ?_ | refine c_skip ?_ | refine x_then ?_ | refine x_block ?_)
    refine c_ret ?_
    repeat (with_reducible first | refine x_then_ret ?_ | refine x_block_ret ?_)
    refine r_two rfl rfl rfl ?_
    refine ⟨⟨_, rfl, ?_⟩, hS.below⟩
    have ht : totL X owed = [] := if_neg fun g => h0 (he.trans g)
    rw [ht]
    exact Sl.nil _ _ _
end Go.Proofs.YtfocimgpahjkmaaDoor
namespace Go.Proofs.YtfocimgpahjkmaaDoor
open Go Go.RowKit Go.Sx

def enI (c : Int) : List Value := [.int .i64 c]
def enB (b : Bool) : List Value := [.bool b]
theorem enB_len : ∀ b, (enB b).length = 1 := fun _ => rfl
theorem build_net (vi_ vo : Value) (X : List It) (cvs : List Value) (owed : List RR) (K : Nat) (w : World) (hX : Its w vi_ X cvs) (ho : Sl encR 3 w vo owed) (hXB : ItB K X) (hoB : RB K owed) (hK : 2 * K + 2 ≤ MX) (hc : checkE X owed = 0) :
    Ret Tryd.prog 20 #[vi_, vo] w fun v w' => ∃ sP sO sM R NET, v = .agg #[sP, sO, sM] ∧ St w w' NET ∧ ∀ w0 w' H, St w0 w' (H ++ NET) → NetOf X owed w' sP sO sM R := by
  obtain ⟨hX8, ho24, hng, hit, hcl⟩ := checkE_zero hc
  refine (build_ok vi_ vo X cvs owed K w hX ho hXB hoB hK hX8 ho24 hcl).mono ?_
  rintro v w' ⟨sP, sO, LP, LO, bI, R, rfl, hP, hO, hR, hS3⟩
  exact ⟨_, _, _, R, _, rfl, hS3, fun w0 w' H h => netOf hP hO hR ho24 h⟩
def inT (L : List Int) (k c : Nat) : Bool := capS (L.take k) c
theorem inT_step {L : List Int} {k m c0 : Nat} (hk : k < L.length) (hc : L.getD k 0 = (c0 : Int)) : (tab m (inT L k)).set c0 true = tab m (inT L (k + 1)) := by
  rw [tab_set]
  refine tab_congr fun i hi => ?_
  unfold inT capS
  rw [take_succ' L k 0 hk, List.any_append, hc]
  by_cases e : i = c0
  · subst e; simp
  · have : ¬ ((c0 : Int) = (i : Int)) := by omega
    simp [e, this]
theorem any_take_step {α : Type} (p : α → Bool) (L : List α) (d : α) {k : Nat} (hk : k < L.length) (h : (L.take k).any p = false) : (p (L.getD k d) = false → (L.take (k + 1)).any p = false) ∧ (p (L.getD k d) = true → L.any p = true) := by
  constructor
  · intro h1
    rw [take_succ' L k d hk, List.any_append, h]
    simpa using h1
  · intro h1
    rw [List.any_eq_true]
    exact ⟨_, getD_mem L k d hk, h1⟩

set_option maxHeartbeats 1000000 in
theorem Capacity_ok (vi_ vo vc : Value) (X : List It) (cvs : List Value) (owed : List RR) (L : List Int) (K : Nat) (w : World) (hX : Its w vi_ X cvs) (ho : Sl encR 3 w vo owed) (hL : Sl enI 1 w vc L) (hXB : ItB K X) (hoB : RB K owed) (hK : 80 * K + 90 ≤ MX)
    (hT : At w ⟨2, 0, none⟩ (Kr .u8 tzTab)) :
    Ret Tryd.prog 13 #[vi_, vo, vc] w fun v w' => v = .tuple #[aggR (capR X owed L), .int .i64 (capE X owed L)] ∧ Below w.heap.size w w' := by
  have hM : MX = 1099511627776 := rfl
  have hLm := hL.maxLen
  have hom := ho.maxLen
  obtain ⟨m, hm⟩ : ∃ m, m = owed.length := ⟨_, rfl⟩
  have hzero : (List.replicate m false) = tab m (inT L 0) := by rw [tab_rep]; exact tab_congr fun i _ => rfl
  have hS := St.init w
  refine enter Tryd.func13 rfl Tryd.ntmps13 rfl ?_
  repeat (with_reducible first | refine c_seq ?_ | refine c_block ?_ | refine c_skip ?_ | refine x_then ?_ | refine x_block ?_)
  refine c_reg ?_
  refine l_heavy rfl (s_alloc  vi_32 hS ?_)
  intro b6 wz1 hS hBz1
  refine l_pure rfl (s_asg  rfl ?_)
  refine l_nil ?_
  repeat (with_reducible first | refine c_seq ?_ | refine c_block ?_ | refine c_skip ?_ | refine x_then ?_ | refine x_block ?_)
  refine c_reg ?_
  refine l_pure rfl (s_move  rfl ?_)
  refine l_pure rfl (s_move  rfl ?_)
  refine l_heavy rfl (s_call Tryd.call19 rfl (Check_ok vi_ vo X cvs owed _ (hX.below hS.below) (ho.below hS.below) (ItB_mono hXB (by omega)) (RB_mono hoB (by omega))) ?_)
  rintro _ wc2 ⟨rfl, hBc2⟩
  replace hS := hS.grow hBc2
  refine l_pure rfl (s_asg  rfl ?_)
  refine l_nil ?_
  repeat (with_reducible first | refine c_seq ?_ | refine c_block ?_ | refine c_skip ?_ | refine x_then ?_ | refine x_block ?_)
  obtain ⟨e, he⟩ : ∃ e, e = checkE X owed := ⟨_, rfl⟩
  rw [← he]
  repeat (with_reducible first | refine c_seq ?_ | refine c_block ?_ | refine c_skip ?_ | refine x_then ?_ | refine x_block ?_)
  refine c_reg ?_
  refine l_pure rfl (s_move  rfl ?_)
  refine l_pure rfl (s_neq  rfl rfl ?_)
  refine l_nil ?_
  repeat (with_reducible first | refine c_seq ?_ | refine c_block ?_ | refine c_skip ?_ | refine x_then ?_ | refine x_block ?_)
  by_cases h0 : e = 0
  · refine c_no rfl (decide_eq_false (by omega)) ?_
    repeat (with_reducible first | refine c_seq ?_ | refine c_block ?_ | refine c_skip ?_ | refine x_then ?_ | refine x_block ?_)
    have hck := he.symm.trans h0
    obtain ⟨hX8, ho24, hng, hit, hcl⟩ := checkE_zero hck
    repeat (with_reducible first | refine c_seq ?_ | refine c_block ?_ | refine c_skip ?_ | refine x_then ?_ | refine x_block ?_)
    refine c_reg ?_
    refine l_pure rfl (s_move  rfl ?_)
    refine l_pure rfl (s_lenr  rfl (ho.below hS.below) ⟨_, Tryd.underlying24⟩ ?_)
    refine l_heavy rfl (s_makeE (enc := enB) (n := m) false  rfl rfl si_66 rfl (by omega) (by omega) (by omega) (by omega) hS ?_)
    intro b9 wz3 hS hBz3
    refine l_pure rfl (s_asg  rfl ?_)
    refine l_nil ?_
    repeat (with_reducible first | refine c_seq ?_ | refine c_block ?_ | refine c_skip ?_ | refine x_then ?_ | refine x_block ?_)
    rw [← hm]
    rw [hzero] at hS
    replace hS : St w _ [(b9, 4, (tab m (inT L 0)).flatMap enB), (b6, 32, encR zRR)] := hS
    repeat (with_reducible first | refine c_seq ?_ | refine c_block ?_ | refine c_skip ?_ | refine x_then ?_ | refine x_block ?_)
    refine c_reg ?_
    refine l_pure rfl (s_move  rfl ?_)
    refine l_pure rfl (s_lenr  rfl (hL.below hS.below) ⟨_, Tryd.underlying39⟩ ?_)
    refine l_pure rfl (s_move  rfl ?_)
    refine l_nil ?_
    repeat (with_reducible first | refine c_seq ?_ | refine c_skip ?_ | refine x_then ?_ | refine x_block ?_)
    refine c_cut1 (fun ρ w' => capE X owed L = 0 ∧ ρ 0 = vi_ ∧ ρ 1 = vo ∧ ρ 6 = .pointer (some ⟨b6, 0, none⟩) ∧ ρ 9 = .slice (some ⟨b9, 0, none⟩) m m ∧ St w w' [(b9, 4, (tab m (capS L)).flatMap enB), (b6, 32, encR zRR)]) ?_ ?_
    · repeat (with_reducible first | refine c_seq ?_ | refine c_block ?_ | refine c_skip ?_ | refine x_then ?_ | refine x_block ?_)
      refine c_loop (σ := Nat) (fun k ρ w' => k ≤ L.length ∧ (L.take k).any (fun c => decide (c < 0 ∨ (m : Int) ≤ c)) = false ∧ ρ 0 = vi_ ∧ ρ 1 = vo ∧ ρ 6 = .pointer (some ⟨b6, 0, none⟩) ∧ ρ 9 = .slice (some ⟨b9, 0, none⟩) m m ∧ ρ 26 = vc ∧ ρ 27 = .int .i64 L.length ∧ ρ 28 = .int .i64 k ∧
          St w w' [(b9, 4, (tab m (inT L k)).flatMap enB), (b6, 32, encR zRR)]) (fun k => L.length - k) 0
        ⟨Nat.zero_le _, rfl, rfl, rfl, rfl, rfl, rfl, rfl, rfl, hS⟩ ?_
      clear hS
      rintro k ρ w4 ⟨hk1, hok, h0, h1, h6, h9, h26, h27, h28, hS⟩
      have htl := tab_len m (inT L k)
      repeat (with_reducible first | refine c_seq ?_ | refine c_block ?_ | refine c_skip ?_ | refine x_then ?_ | refine x_block ?_)
      refine c_reg ?_
      refine l_pure rfl (s_lss  h28 h27 ?_)
      refine l_nil ?_
      repeat (with_reducible first | refine c_seq ?_ | refine c_block ?_ | refine c_skip ?_ | refine x_then ?_ | refine x_block ?_)
      by_cases hk : k < L.length
      · refine c_yes rfl (decide_eq_true (by omega)) ?_
        repeat (with_reducible first | refine c_seq ?_ | refine c_block ?_ | refine c_skip ?_ | refine x_then ?_ | refine x_block ?_)
        obtain ⟨c, hc⟩ : ∃ c, c = L.getD k 0 := ⟨_, rfl⟩
        obtain ⟨e1, e2⟩ := any_take_step (fun c => decide (c < 0 ∨ (m : Int) ≤ c)) L 0 hk hok
        rw [← hc] at e1 e2
        repeat (with_reducible first | refine c_seq ?_ | refine c_block ?_ | refine c_skip ?_ | refine x_then ?_ | refine x_block ?_)
        refine c_reg ?_
        refine l_pure rfl (s_ixr (i := k)  h26 h28 (hL.below hS.below) (by omega) (by first | omega | (simp; done) | (simp; omega)) si_39 ?_)
        refine l_read rfl (s_lde (v := .int .i64 c) (i := k) 0  rfl vi_3 (hL.below hS.below) (by omega) rfl (by rw [← hc]; rfl) (.inr rfl) ?_)
        refine l_pure rfl (s_asg  rfl ?_)
        refine l_nil ?_
        repeat (with_reducible first | refine c_seq ?_ | refine c_block ?_ | refine c_skip ?_ | refine x_then ?_ | refine x_block ?_)
        refine c_cut1 (fun ρ w' => ρ 0 = vi_ ∧ ρ 1 = vo ∧ ρ 6 = .pointer (some ⟨b6, 0, none⟩) ∧ ρ 9 = .slice (some ⟨b9, 0, none⟩) m m ∧ ρ 26 = vc ∧ ρ 27 = .int .i64 L.length ∧ ρ 28 = .int .i64 k ∧ ρ 11 = .int .i64 c ∧ ρ 39 = .bool (decide (c < 0 ∨ (m : Int) ≤ c)) ∧
          St w w' [(b9, 4, (tab m (inT L k)).flatMap enB), (b6, 32, encR zRR)]) ?_ ?_
        · repeat (with_reducible first | refine c_seq ?_ | refine c_block ?_ | refine c_skip ?_ | refine x_then ?_ | refine x_block ?_)
          by_cases hp : c < 0
          · repeat (with_reducible first | refine c_seq ?_ | refine c_block ?_ | refine c_skip ?_ | refine x_then ?_ | refine x_block ?_)
            refine c_reg ?_
            refine l_pure rfl (s_move  rfl ?_)
            refine l_pure rfl (s_lss  rfl rfl ?_)
            refine l_pure rfl (s_move  rfl ?_)
            refine l_no (gno_yes 34 (by kernel_rfl) rfl (decide_eq_true hp)) ?_
            refine l_no (gno_yes 34 (by kernel_rfl) rfl (decide_eq_true hp)) ?_
            refine l_no (gno_yes 34 (by kernel_rfl) rfl (decide_eq_true hp)) ?_
            refine l_no (gno_yes 34 (by kernel_rfl) rfl (decide_eq_true hp)) ?_
            refine l_pure rfl (s_pick (vb rfl (decide_eq_true hp)) rfl ?_)
            refine l_nil ?_
            repeat (with_reducible first | refine c_seq ?_ | refine c_block ?_ | refine c_skip ?_ | refine x_then ?_ | refine x_block ?_)
            exact ⟨_, rfl, h0, h1, h6, h9, h26, h27, h28, rfl, vb rfl (decide_eq_true (.inl hp)).symm, hS⟩
          · repeat (with_reducible first | refine c_seq ?_ | refine c_block ?_ | refine c_skip ?_ | refine x_then ?_ | refine x_block ?_)
            refine c_reg ?_
            refine l_pure rfl (s_move  rfl ?_)
            refine l_pure rfl (s_lss  rfl rfl ?_)
            refine l_pure rfl (s_move  rfl ?_)
            refine l_pure (gd_yes 34 (by kernel_rfl) rfl (decide_eq_false hp)) (s_move  rfl ?_)
            refine l_pure (gd_yes 34 (by kernel_rfl) rfl (decide_eq_false hp)) (s_move  h1 ?_)
            refine l_pure (gd_yes 34 (by kernel_rfl) rfl (decide_eq_false hp)) (s_lenr  rfl (ho.below hS.below) ⟨_, Tryd.underlying24⟩ ?_)
            refine l_pure (gd_yes 34 (by kernel_rfl) rfl (decide_eq_false hp)) (s_geq  rfl rfl ?_)
            refine l_pure rfl (s_pick (vb rfl (decide_eq_false hp)) rfl ?_)
            refine l_nil ?_
            repeat (with_reducible first | refine c_seq ?_ | refine c_block ?_ | refine c_skip ?_ | refine x_then ?_ | refine x_block ?_)
            exact ⟨_, rfl, h0, h1, h6, h9, h26, h27, h28, rfl, vb rfl (by rw [decide_eq_decide, ← hm]; omega), hS⟩
        clear hS h0 h1 h6 h9 h26 h27 h28
        rintro ρ w5 ⟨h0, h1, h6, h9, h26, h27, h28, h11, h39, hS⟩
        repeat (with_reducible first | refine c_seq ?_ | refine c_block ?_ | refine c_skip ?_ | refine x_then ?_ | refine x_block ?_)
        by_cases hb : c < 0 ∨ (m : Int) ≤ c
        · refine c_yes h39 (decide_eq_true hb) ?_
          repeat (with_reducible first | refine c_seq ?_ | refine c_block ?_ | refine c_skip ?_ | refine x_then ?_ | refine x_block ?_)
          have hE : capE X owed L = 1 := by unfold capE; rw [if_pos hck, ← hm, if_pos (e2 (decide_eq_true hb))]
          have hR : capR X owed L = zRR := by unfold capR; rw [hE]; rfl
          rw [hE, hR]
          repeat (with_reducible first | refine c_seq ?_ | refine c_block ?_ | refine c_skip ?_ | refine x_then ?_ | refine x_block ?_)
          refine c_reg ?_
          refine l_pure rfl (s_build  rfl bz_32 ?_)
          refine l_heavy rfl (s_sta (k := 1)  h6 rfl vi_32 hS rfl rfl rfl (Nat.le_of_ble_eq_true rfl) rfl ?_)
          intro wz4 hS
          refine l_pure rfl (s_asg  rfl ?_)
          refine l_nil ?_
          repeat (with_reducible first | refine c_seq ?_ | refine c_block ?_ | refine c_skip ?_ | refine x_then ?_ | refine x_block ?_)
          refine c_ret ?_
          repeat (with_reducible first | refine x_then_ret ?_ | refine x_block_ret ?_)
          refine r_cell_tmp (k := 1) rfl h6 rfl vi_32 hS rfl rfl ?_
          exact ⟨rfl, hS.below⟩
        refine c_no h39 (decide_eq_false hb) ?_
        repeat (with_reducible first | refine c_seq ?_ | refine c_block ?_ | refine c_skip ?_ | refine x_then ?_ | refine x_block ?_)
        obtain ⟨c0, hc0⟩ : ∃ c0 : Nat, c = (c0 : Int) := ⟨_, (Int.toNat_of_nonneg (by omega)).symm⟩
        have hst := inT_step (m := m) hk (hc.symm.trans hc0)
        repeat (with_reducible first | refine c_seq ?_ | refine c_block ?_ | refine c_skip ?_ | refine x_then ?_ | refine x_block ?_)
        refine c_reg ?_
        refine l_pure rfl (s_move  h9 ?_)
        refine l_pure rfl (s_move  h11 ?_)
        refine l_pure rfl (s_ixo (i := c0)  rfl rfl (by omega) (by first | omega | (simp; done) | (simp; omega)) si_66 ?_)
        refine l_heavy rfl (s_stE (k := 0) (i := c0) (enc := enB) true (fun _ => rfl)  rfl rfl vi_4 hS rfl (by first | omega | simp) (by first | omega | (simp; done) | (simp; omega)) rfl rfl ?_)
        intro wz5 hS
        refine l_nil ?_
        repeat (with_reducible first | refine c_seq ?_ | refine c_block ?_ | refine c_skip ?_ | refine x_then ?_ | refine x_block ?_)
        refine c_reg ?_
        refine l_pure rfl (s_add  h28 rfl (IntWalk.i64_in _ (by omega)) ?_)
        refine l_pure rfl (s_move  rfl ?_)
        refine l_nil ?_
        repeat (with_reducible first | refine c_seq ?_ | refine c_block ?_ | refine c_skip ?_ | refine x_then ?_ | refine x_block ?_)
        exact ⟨k + 1, _, rfl, ⟨hk, e1 (decide_eq_false hb), h0, h1, h6, h9, h26, h27, vi rfl (by omega), hS.cast (by show [_, _] = _; rw [hst])⟩, by omega⟩
      · refine c_no rfl (decide_eq_false (by omega)) ?_
        repeat (with_reducible first | refine c_seq ?_ | refine c_block ?_ | refine c_skip ?_ | refine x_then ?_ | refine x_block ?_)
        refine c_exit ?_
        repeat (with_reducible first | refine x_then_exit ?_ | refine x_block_exit ?_ | refine x_block_pass rfl ?_)
        repeat (with_reducible first | refine c_seq ?_ | refine c_block ?_ | refine c_skip ?_ | refine x_then ?_ | refine x_block ?_)
        obtain rfl : k = L.length := by omega
        rw [List.take_length] at hok
        refine ⟨_, rfl, ?_, h0, h1, h6, h9, hS.cast (by unfold inT; rw [List.take_length])⟩
        unfold capE
        rw [if_pos hck, ← hm, hok]; rfl
    clear hS
    rintro ρ w5 ⟨hE, h0, h1, h6, h9, hS⟩
    have hRes : capR X owed L = ofQ (capQ X owed (capS L)) := by unfold capR; rw [if_pos hE]
    rw [hE, hRes]
    repeat (with_reducible first | refine c_seq ?_ | refine c_block ?_ | refine c_skip ?_ | refine x_then ?_ | refine x_block ?_)
    refine c_reg ?_
    refine l_pure rfl (s_move  h0 ?_)
    refine l_pure rfl (s_move  h1 ?_)
    refine l_heavy rfl (s_call Tryd.call20 rfl (build_net vi_ vo X cvs owed K _ (hX.below hS.below) (ho.below hS.below) hXB hoB (by omega) hck) ?_)
    rintro r w6 ⟨sP, sO, sM, R, NET, rfl, hS6, hNet⟩
    replace hS := (hS.join hS6).perm List.perm_append_comm
    have hN0 := hNet _ _ _ hS
    obtain ⟨aP, cP, hsP, _⟩ := hN0.P.form
    obtain ⟨aO, cO, hsO, _⟩ := hN0.O.form
    obtain ⟨aM, cM, hsM, _⟩ := hN0.M.form
    subst hsP hsO hsM
    refine l_heavy rfl (s_alloc  vi_56 hS ?_)
    intro b12 wz6 hS hBz6
    refine l_heavy rfl (s_sta (k := 0)  rfl rfl vi_56 hS rfl rfl rfl (Nat.le_of_ble_eq_true rfl) rfl ?_)
    intro wz7 hS
    refine l_nil ?_
    repeat (with_reducible first | refine c_seq ?_ | refine c_block ?_ | refine c_skip ?_ | refine x_then ?_ | refine x_block ?_)
    refine c_reg ?_
    refine l_read rfl (s_ldo (k := 0)  rfl vi_56 hS rfl rfl rfl (.inl rfl) ?_)
    replace hS : St w _ ([(b12, 56, [.slice aP (procsR X).length cP, .slice aO (owedR owed).length cO, .slice aM R.length cM]), (b9, 4, (tab m (capS L)).flatMap enB), (b6, 32, encR zRR)] ++ NET) := hS
    have hN := hNet _ _ _ hS
    refine l_heavy rfl (s_call Tryd.call30 rfl (cuts_ok _ _ _ X K _ hN.P hXB (by omega) hX8 (hT.below hS.below)) ?_)
    rintro r w7 ⟨bc, rfl, hS7⟩
    replace hS := hS.join hS7
    obtain ⟨N, hN2⟩ : ∃ N, N = 2 ^ X.length := ⟨_, rfl⟩
    have hN256 : N ≤ 256 := by rw [hN2]; exact Nat.pow_le_pow_right (n := 2) (by decide) hX8
    have hN1 : 1 ≤ N := by rw [hN2]; exact Nat.one_le_two_pow
    have hc0 : (tab N fun j => ofQ (payF X j)) = tab N fun j => ofQ (capF X owed (fun i => decide (i < 0) && capS L i) j) := tab_congr fun j _ => by
      rw [capF_congr X owed (t := fun _ => false) (fun c _ => by simp), capF_none]
    rw [← hN2, hc0] at hS
    rw [← hN2]
    refine l_pure rfl (s_asg  rfl ?_)
    refine l_nil ?_
    repeat (with_reducible first | refine c_seq ?_ | refine c_block ?_ | refine c_skip ?_ | refine x_then ?_ | refine x_block ?_)
    refine c_reg ?_
    refine l_pure rfl (s_move  h9 ?_)
    refine l_pure rfl (s_leno  rfl ⟨_, Tryd.underlying66⟩ ?_)
    refine l_pure rfl (s_move  rfl ?_)
    refine l_nil ?_
    repeat (with_reducible first | refine c_seq ?_ | refine c_skip ?_ | refine x_then ?_ | refine x_block ?_)
    refine c_cut1 (fun ρ w' => ρ 6 = .pointer (some ⟨b6, 0, none⟩) ∧ ρ 13 = .slice (some ⟨bc, 0, none⟩) N N ∧
      St w w' ((bc, 32, (tab N fun j => ofQ (capF X owed (capS L) j)).flatMap encR) :: ([(b12, 56, [.slice aP (procsR X).length cP, .slice aO (owedR owed).length cO, .slice aM R.length cM]), (b9, 4, (tab m (capS L)).flatMap enB), (b6, 32, encR zRR)] ++ NET))) ?_ ?_
    · repeat (with_reducible first | refine c_seq ?_ | refine c_block ?_ | refine c_skip ?_ | refine x_then ?_ | refine x_block ?_)
      refine c_loop (σ := Nat) (fun c ρ w' => c ≤ m ∧ ρ 6 = .pointer (some ⟨b6, 0, none⟩) ∧ ρ 12 = .pointer (some ⟨b12, 0, none⟩) ∧ ρ 13 = .slice (some ⟨bc, 0, none⟩) N N ∧ ρ 50 = .slice (some ⟨b9, 0, none⟩) m m ∧ ρ 51 = .int .i64 m ∧ ρ 52 = .int .i64 c ∧
          St w w' ((bc, 32, (tab N fun j => ofQ (capF X owed (fun i => decide (i < c) && capS L i) j)).flatMap encR) :: ([(b12, 56, [.slice aP (procsR X).length cP, .slice aO (owedR owed).length cO, .slice aM R.length cM]), (b9, 4, (tab m (capS L)).flatMap enB), (b6, 32, encR zRR)] ++ NET))) (fun c => m - c) 0
        ⟨Nat.zero_le _, h6, rfl, rfl, rfl, rfl, rfl, hS⟩ ?_
      clear hS h0 h1 h6 h9
      rintro c ρ w8 ⟨hc, h6, h12, h13, h50, h51, h52, hS⟩
      have htl := tab_len m (capS L)
      repeat (with_reducible first | refine c_seq ?_ | refine c_block ?_ | refine c_skip ?_ | refine x_then ?_ | refine x_block ?_)
      refine c_reg ?_
      refine l_pure rfl (s_lss  h52 h51 ?_)
      refine l_nil ?_
      repeat (with_reducible first | refine c_seq ?_ | refine c_block ?_ | refine c_skip ?_ | refine x_then ?_ | refine x_block ?_)
      by_cases hlt : c < m
      · refine c_yes rfl (decide_eq_true (by omega)) ?_
        repeat (with_reducible first | refine c_seq ?_ | refine c_block ?_ | refine c_skip ?_ | refine x_then ?_ | refine x_block ?_)
        have hcl2 : c < owed.length := by omega
        obtain ⟨b, hb⟩ : ∃ b, b = capS L c := ⟨_, rfl⟩
        have hbv : (tab m (capS L)).getD c false = b := by rw [tab_get _ _ hlt, hb]
        repeat (with_reducible first | refine c_seq ?_ | refine c_block ?_ | refine c_skip ?_ | refine x_then ?_ | refine x_block ?_)
        refine c_reg ?_
        refine l_pure rfl (s_move  h52 ?_)
        refine l_pure rfl (s_ixo (i := c)  h50 h52 (by omega) (by first | omega | (simp; done) | (simp; omega)) si_66 ?_)
        refine l_read rfl (s_ldE (k := 2) (i := c) (v := .bool b) (enc := enB) false enB_len  rfl vi_4 hS rfl (Nat.zero_add _) (by omega) (by rw [hbv]; rfl) (.inr rfl) ?_)
        refine l_pure rfl (s_asg  rfl ?_)
        refine l_pure rfl (s_asg  rfl ?_)
        refine l_nil ?_
        repeat (with_reducible first | refine c_seq ?_ | refine c_block ?_ | refine c_skip ?_ | refine x_then ?_ | refine x_block ?_)
        refine c_reg ?_
        refine l_pure rfl (s_move  rfl ?_)
        refine l_nil ?_
        repeat (with_reducible first | refine c_seq ?_ | refine c_skip ?_ | refine x_then ?_ | refine x_block ?_)
        refine c_cut1 (fun ρ w' => ρ 6 = .pointer (some ⟨b6, 0, none⟩) ∧ ρ 12 = .pointer (some ⟨b12, 0, none⟩) ∧ ρ 13 = .slice (some ⟨bc, 0, none⟩) N N ∧ ρ 50 = .slice (some ⟨b9, 0, none⟩) m m ∧ ρ 51 = .int .i64 m ∧ ρ 52 = .int .i64 c ∧
          St w w' ((bc, 32, (tab N fun j => ofQ (capF X owed (fun i => decide (i < c + 1) && capS L i) j)).flatMap encR) :: ([(b12, 56, [.slice aP (procsR X).length cP, .slice aO (owedR owed).length cO, .slice aM R.length cM]), (b9, 4, (tab m (capS L)).flatMap enB), (b6, 32, encR zRR)] ++ NET))) ?_ ?_
        · repeat (with_reducible first | refine c_seq ?_ | refine c_block ?_ | refine c_skip ?_ | refine x_then ?_ | refine x_block ?_)
          by_cases hbt : b = true
          · refine c_yes rfl (hbt) ?_
            repeat (with_reducible first | refine c_seq ?_ | refine c_block ?_ | refine c_skip ?_ | refine x_then ?_ | refine x_block ?_)
            have hst : capS L c = true := hb.symm.trans hbt
            repeat (with_reducible first | refine c_seq ?_ | refine c_block ?_ | refine c_skip ?_ | refine x_then ?_ | refine x_block ?_)
            refine c_reg ?_
            refine l_read rfl (s_ldo (k := 1)  h12 vi_56 hS rfl rfl rfl (.inl rfl) ?_)
            refine l_pure rfl (s_move  h13 ?_)
            refine l_pure rfl (s_move  rfl ?_)
            refine l_heavy rfl (s_call Tryd.call31 rfl (nadd_ok _ _ _ bc N c (40 * K + 45) K (capF X owed (fun i => decide (i < c) && capS L i)) X owed R w _ _ hS (fun _ _ h => (hNet _ _ _ (h.drop (H' := [] ++ NET) (.cons _ (.cons _ (.cons _ (.cons _ (List.Sublist.refl _))))))).O) (fun _ _ h => (hNet _ _ _ (h.drop (H' := [] ++ NET) (.cons _ (.cons _ (.cons _ (.cons _ (List.Sublist.refl _))))))).M) hN256 hX8 hcl2 hN0.R (fun j _ => L_capF hXB hoB hX8 ho24 _ j) hoB (by omega)) ?_)
            rintro r w9 ⟨rfl, hS⟩
            rw [tab_congr (g := fun j => ofQ (capF X owed (fun i => decide (i < c + 1) && capS L i) j)) fun j _ => by
              rw [capF_step X owed (t := fun i => decide (i < c + 1) && capS L i) hcl2 (by simp) (by simp [hst]) (fun i _ hne => by rw [decide_eq_decide.2 (show i < c ↔ i < c + 1 by omega)])]] at hS
            refine l_nil ?_
            repeat (with_reducible first | refine c_seq ?_ | refine c_block ?_ | refine c_skip ?_ | refine x_then ?_ | refine x_block ?_)
            exact ⟨_, rfl, h6, h12, h13, h50, h51, h52, hS⟩
          · refine c_no rfl ((Bool.eq_false_iff.2 hbt)) ?_
            repeat (with_reducible first | refine c_seq ?_ | refine c_block ?_ | refine c_skip ?_ | refine x_then ?_ | refine x_block ?_)
            have hst : capS L c = false := hb.symm.trans (Bool.eq_false_iff.2 hbt)
            refine ⟨_, rfl, h6, h12, h13, h50, h51, h52, hS.cast ?_⟩
            rw [tab_congr (f := fun j => ofQ (capF X owed (fun i => decide (i < c) && capS L i) j)) (g := fun j => ofQ (capF X owed (fun i => decide (i < c + 1) && capS L i) j)) fun j _ => by
              rw [capF_congr X owed (t := fun i => decide (i < c + 1) && capS L i) (fun i _ => by
                by_cases e : i = c
                · subst e; simp [hst]
                · rw [decide_eq_decide.2 (show i < c ↔ i < c + 1 by omega)])]]
        clear hS h6 h12 h13 h50 h51 h52
        rintro ρ w9 ⟨h6, h12, h13, h50, h51, h52, hS⟩
        repeat (with_reducible first | refine c_seq ?_ | refine c_block ?_ | refine c_skip ?_ | refine x_then ?_ | refine x_block ?_)
        refine c_reg ?_
        refine l_pure rfl (s_add  h52 rfl (IntWalk.i64_in _ (by omega)) ?_)
        refine l_pure rfl (s_move  rfl ?_)
        refine l_nil ?_
        repeat (with_reducible first | refine c_seq ?_ | refine c_block ?_ | refine c_skip ?_ | refine x_then ?_ | refine x_block ?_)
        exact ⟨c + 1, _, rfl, ⟨hlt, h6, h12, h13, h50, h51, vi rfl (by omega), hS⟩, by omega⟩
      · refine c_no rfl (decide_eq_false (by omega)) ?_
        repeat (with_reducible first | refine c_seq ?_ | refine c_block ?_ | refine c_skip ?_ | refine x_then ?_ | refine x_block ?_)
        refine c_exit ?_
        repeat (with_reducible first | refine x_then_exit ?_ | refine x_block_exit ?_ | refine x_block_pass rfl ?_)
        repeat (with_reducible first | refine c_seq ?_ | refine c_block ?_ | refine c_skip ?_ | refine x_then ?_ | refine x_block ?_)
        obtain rfl : c = m := by omega
        refine ⟨_, rfl, h6, h13, hS.cast ?_⟩
        rw [tab_congr (f := fun j => ofQ (capF X owed (fun i => decide (i < c) && capS L i) j)) (g := fun j => ofQ (capF X owed (capS L) j)) fun j _ => by
          rw [capF_congr X owed (t := capS L) (fun i hi => by simp [show i < c by omega])]]
    clear hS
    rintro ρ w9 ⟨h6, h13, hS⟩
    repeat (with_reducible first | refine c_seq ?_ | refine c_block ?_ | refine c_skip ?_ | refine x_then ?_ | refine x_block ?_)
    refine c_reg ?_
    refine l_pure rfl (s_move  h13 ?_)
    have hsl : Sl encR 3 _ (.slice (some ⟨bc, 0, none⟩) N N) _ := hS.sle (k := 0) (enc := encR) (n := N) (cap := N) rfl encR_len (by rw [tab_len]; exact Nat.le_refl _) (Nat.le_refl _) (by omega)
    rw [List.take_of_length_le (by rw [tab_len]; exact Nat.le_refl _)] at hsl
    refine l_heavy rfl (s_call Tryd.call32 rfl (least_ok _ (capF X owed (capS L)) N (40 * K + 45) _ hsl (by omega) (fun j _ => L_capF hXB hoB hX8 ho24 _ j) (by omega)) ?_)
    rintro r w6 ⟨rfl, hB6⟩
    have hcq : mins (capF X owed (capS L)) N = capQ X owed (capS L) := by rw [hN2]; rfl
    rw [hcq]
    replace hS := hS.grow hB6
    refine l_heavy rfl (s_sta (k := 3)  h6 rfl vi_32 hS rfl rfl rfl (Nat.le_of_ble_eq_true rfl) rfl ?_)
    intro wz8 hS
    refine l_pure rfl (s_asg  rfl ?_)
    refine l_nil ?_
    repeat (with_reducible first | refine c_seq ?_ | refine c_block ?_ | refine c_skip ?_ | refine x_then ?_ | refine x_block ?_)
    refine c_ret ?_
    repeat (with_reducible first | refine x_then_ret ?_ | refine x_block_ret ?_)
    refine r_cell_tmp (k := 3) rfl h6 rfl vi_32 hS rfl rfl ?_
    exact ⟨rfl, hS.below⟩
  · refine c_yes rfl (decide_eq_true (by omega)) ?_
    repeat (with_reducible first | refine c_seq ?_ | refine c_block ?_ | refine c_skip ?_ | refine x_then ?_ | refine x_block ?_)
    have hne : ¬ checkE X owed = 0 := fun g => h0 (he.trans g)
    have hE : capE X owed L = e := by unfold capE; rw [if_neg hne, he]
    have hR : capR X owed L = zRR := by unfold capR; rw [if_neg (by rw [hE]; exact h0)]
    rw [hE, hR]
    repeat (with_reducible first | refine c_seq ?_ | refine c_block ?_ | refine c_skip ?_ | refine x_then ?_ | refine x_block ?_)
    refine c_reg ?_
    refine l_pure rfl (s_build  rfl bz_32 ?_)
    refine l_pure rfl (s_move  rfl ?_)
    refine l_heavy rfl (s_sta (k := 0)  rfl rfl vi_32 hS rfl rfl rfl (Nat.le_of_ble_eq_true rfl) rfl ?_)
    intro wz9 hS
    refine l_pure rfl (s_asg  rfl ?_)
    refine l_nil ?_
    repeat (with_reducible first | refine c_seq ?_ | refine c_block ?_ | refine c_skip ?_ | refine x_then ?_ | refine x_block ?_)
    refine c_ret ?_
    repeat (with_reducible first | refine x_then_ret ?_ | refine x_block_ret ?_)
    refine r_cell_tmp (k := 0) rfl rfl rfl vi_32 hS rfl rfl ?_
    exact ⟨rfl, hS.below⟩
end Go.Proofs.YtfocimgpahjkmaaDoor
