/-
  The framework: two results that lie in memory; the lesser and the greater one of two integers.
-/
import Derived.Test.YtblfipdfklpmmabDoorLawFl
import Derived.Lib.MinMax
namespace Go.Sx
open Go Go.RowKit

section
variable {P : Program} {N : Nat} {ρ : Nat → Value} {w0 w : World} {H : List Blk} {k k' b b' : Nat} {t t' : TypeId} {cs cs' : List Value}
theorem results_cell_cell {fn : Func} {p q : Tmp} {ty ty' : TypeId} (h : fn.results = #[.cell p ty, .cell q ty']) (tmps : Array Value) (P : Program) (w : World) :
    (results fn tmps).run P w =
      ((asAddr (tmps.getD p undef)).run P w).andThen fun a w₁ => ((loadVar ty a).run P w₁).andThen fun v w₂ => ((asAddr (tmps.getD q undef)).run P w₂).andThen fun a' w₃ => ((loadVar ty' a').run P w₃).andThen fun v' w₄ => .ok (.tuple #[v, v']) w₄ := by
  simp only [results, h]
  simp [Sem.run_bind, Result.andThen]
theorem r_cell_cell {fn : Func} {p q n n' : Nat} {ty ty' : TypeId} {zz zz' : List Value} {R : Value → World → Prop} (hr : fn.results = #[.cell p ty, .cell q ty']) (hp : ev N ρ (.tmp p) = .pointer (some ⟨b, 0, none⟩)) (hq : ev N ρ (.tmp q) = .pointer (some ⟨b', 0, none⟩)) (ht : vinfo P ty = some (n, true, zz)) (ht' : vinfo P ty' = some (n', true, zz'))
    (hS : St w0 w H) (hk : H[k]? = some (b, t, cs)) (hk' : H[k']? = some (b', t', cs')) (hn : cs.length = n) (hn' : cs'.length = n') (h : R (.tuple #[.agg cs.toArray, .agg cs'.toArray]) w) :
    bodyPost P fn (fun e w' => ∃ v, e = .returned v ∧ R v w') .ret (act N ρ) w := by
  refine bodyPost_ret (v := .tuple #[.agg cs.toArray, .agg cs'.toArray]) ?_ rfl ⟨_, rfl, h⟩
  rw [results_cell_cell hr, tmps_getD, tmps_getD, hp, hq]
  have hl := hS.loadVar hk ht hn
  have hl' := hS.loadVar hk' ht' hn'
  simp only [asAddr, Sem.run_pure, Result.andThen_ok]
  rw [hl]
  simp only [Result.andThen_ok]
  rw [hl']
  simp [Result.andThen]
end
section
variable {P : Program} {N : Nat} {ρ : Nat → Value} {d : Option Tmp} {ty : TypeId} {pos : String} {aft : Array Edge} {g : Option (Nat × Bool)} {x y : Operand} {ats : Array TypeId} {k : IntKind} {m n : Int} {K : Value → Prop}
theorem s_min (hx : ev N ρ x = .int k m) (hy : ev N ρ y = .int k n) (h : K (.int k (min m n))) : Pure1 P N ρ ⟨d, .call ⟨.builtin .min, #[x, y], ats⟩, ty, pos, aft, g⟩ K :=
  ⟨_, fun w => (by simp [execOp, resolve, invoke, builtin, hx, hy, Lib.run_min_ints]), h⟩
theorem s_max (hx : ev N ρ x = .int k m) (hy : ev N ρ y = .int k n) (h : K (.int k (max m n))) : Pure1 P N ρ ⟨d, .call ⟨.builtin .max, #[x, y], ats⟩, ty, pos, aft, g⟩ K :=
  ⟨_, fun w => (by simp [execOp, resolve, invoke, builtin, hx, hy, Lib.run_max_ints]), h⟩
end
end Go.Sx
