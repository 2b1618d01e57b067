/-
  The framework: comparing a slice with nil, an empty slice that is laid, append of a slice that is read.
-/
import Derived.Test.YtdafaibhiobpaabGreatDoorLawCb
namespace Go.Sx
open Go Go.RowKit

theorem Sl.flat {w : World} {α : Type} {enc : α → List Value} {size : Nat} {v : Value} {L : List α} (h : Sl enc size w v L) (hu : ∀ x, (enc x).length = size) (hs : 0 < size) : At w (sbase v) (L.flatMap enc) := by
  intro j u hj
  have hlt : j < L.length * size := by
    have := (List.getElem?_eq_some_iff.1 hj).1
    rwa [flat_len hu] at this
  have hi : j / size < L.length := (Nat.div_lt_iff_lt_mul hs).2 hlt
  have hr : j % size < size := Nat.mod_lt _ hs
  have e : j / size * size + j % size = j := by rw [Nat.mul_comm]; exact Nat.div_add_mod _ _
  have h2 := flat_get hu L (j / size) (j % size) hi hr
  rw [e, hj] at h2
  have h3 := h.elt (j / size) hi (j % size) u h2.symm
  rwa [addr_add_add _ _ _ (h.spot hu hs (Nat.lt_of_le_of_lt (Nat.zero_le _) hi)), e] at h3
section
variable {P : Program} {N : Nat} {ρ : Nat → Value} {w0 w w' : World} {d : Option Tmp} {ty : TypeId} {pos : String} {aft : Array Edge} {g : Option (Nat × Bool)} {x y z : Operand} {t t' e : TypeId} {H L : List Blk} {b : Nat} {cs : List Value} {v : Value} {K : Value → Prop} {K2 : Value → World → Prop}
theorem s_eqnil {a : Option Addr} {n c : Nat} (hx : ev N ρ x = .slice a n c) (hy : ev N ρ y = .slice none 0 0) (ht : ∃ e, P.underlying t = some (.slice e)) (h : K (.bool a.isNone)) : Pure1 P N ρ ⟨d, .binOp .eql t x y t', ty, pos, aft, g⟩ K := by
  obtain ⟨e, ht⟩ := ht
  refine ⟨.bool a.isNone, fun w => ?_, h⟩
  have h2 : (binOp .eql t (.slice a n c) (.slice none 0 0)).run P w = .ok (.bool a.isNone) w := by
    have h4 : ∀ k, (Op.equalIn (k + 1) t (.slice a n c) (.slice none 0 0)).run P w = .ok a.isNone w := fun k => by cases a <;> simp [Op.equalIn, run_underlying ht]
    have h3 := h4 9999
    simp only [binOp]
    simp [Op.equal, Op.maxDepth, h3]
  simp only [execOp, hx, hy, Sem.run_bind]
  have h1 : (eqGuard .eql t x y (.slice a n c) (.slice none 0 0)).run P w = .ok () w := rfl
  rw [h1, Result.andThen_ok, h2, Result.andThen_ok]
  rfl
theorem s_bsl0 {sz by_ : Nat} {zz : List Value} (ht : sinfo P t = some (e, sz, by_, zz)) (hS : St w0 w H)
    (h : ∀ b w', St w0 w' ((b, e, []) :: H) → Below w.heap.size w w' → K2 (.slice (some ⟨b, 0, none⟩) 0 0) w') :
    Hup1 P N ρ w ⟨d, .buildSlice t 0 #[], ty, pos, aft, g⟩ K2 := by
  obtain ⟨hu, ii, zv, hi1, hz, hsz, hby, hcz, hzl⟩ := sinfo_parts ht
  have hr : (Instr.buildSlice t 0 #[]).run P w = .ok (.slice (some ⟨w.heap.size, 0, none⟩) 0 0) (w.alloc (.cells #[] e)) := by
    simp [Instr.buildSlice, run_underlying hu, sizeOf, typeInfo, hi1, newRow, Instr.fill]
    rw [show Array.range 0 = #[] from Array.eq_empty_of_size_eq_zero (by simp)]
    simp
  refine hup_of_run ?_ (h w.heap.size _ (hS.alloc [] e) (below_alloc w _))
  have hp : ((#[] : Array (Nat × Operand)).map fun (i, x) => (i, ev N ρ x)) = #[] := by simp
  simp only [execOp, hp, Sem.run_bind, hr, Result.andThen_ok]
  rfl
/-- append of a slice that is read. -/
theorem s_appc {α : Type} {enc : α → List Value} {size bytes c : Nat} {zz : List Value} {X Y : List α} {xv : Value} {ad : Addr} (hx : ev N ρ x = v) (hy : ev N ρ y = xv) (ht : sinfo P t = some (e, size, bytes, zz)) (hsz : 0 < size)
    (hG : Gl enc e size v X L) (hS : St w0 w (H ++ L)) (hY : Sl enc size w xv Y) (hxv : xv = .slice (some ad) Y.length c) (hu : ∀ x, (enc x).length = size) (h1 : ∀ u ∈ Y.flatMap enc, u.oneCell' = true)
    (h63 : X.length + Y.length ≤ 9223372036854775807) (hb : (X.length + Y.length) * bytes ≤ 140737488355328)
    (h : ∀ v' L' w', Gl enc e size v' (X ++ Y) L' → St w0 w' (H ++ L') → w.heap.size ≤ w'.heap.size → K2 v' w') :
    Hup1 P N ρ w ⟨d, .call ⟨.builtin .append, #[x, y], #[t, t]⟩, ty, pos, aft, g⟩ K2 := by
  have hat := hY.flat hu hsz
  rw [hxv] at hat
  refine s_app (H := H) hx hy ht hsz hG (hS.perm List.perm_append_comm) hxv (by rw [flat_len hu]) hat h1 h63 hb (fun v' L' w' hG' hS' _ hge => ?_)
  refine h v' L' w' ?_ (hS'.perm List.perm_append_comm) hge
  unfold Gl
  rw [List.length_append, List.flatMap_append]
  exact hG'
end
section
variable {P : Program} {N : Nat} {ρ : Nat → Value} {w0 w : World} {H : List Blk} {k b : Nat} {t : TypeId} {cs : List Value}
theorem results_tmp_cell {fn : Func} {p u : Tmp} {ty : TypeId} (h : fn.results = #[.tmp u, .cell p ty]) (tmps : Array Value) (P : Program) (w : World) :
    (results fn tmps).run P w =
      ((asAddr (tmps.getD p undef)).run P w).andThen fun a w₁ => ((loadVar ty a).run P w₁).andThen fun v w₂ => .ok (.tuple #[tmps.getD u undef, v]) w₂ := by
  simp only [results, h]
  simp [Sem.run_bind, Result.andThen]
theorem results_tmp_cell_tmp {fn : Func} {p u v : Tmp} {ty : TypeId} (h : fn.results = #[.tmp u, .cell p ty, .tmp v]) (tmps : Array Value) (P : Program) (w : World) :
    (results fn tmps).run P w =
      ((asAddr (tmps.getD p undef)).run P w).andThen fun a w₁ => ((loadVar ty a).run P w₁).andThen fun x w₂ => .ok (.tuple #[tmps.getD u undef, x, tmps.getD v undef]) w₂ := by
  simp only [results, h]
  simp [Sem.run_bind, Result.andThen]
theorem r_tmp_cell {fn : Func} {p u n : Nat} {ty : TypeId} {zz : List Value} {y : Value} {R : Value → World → Prop} (hr : fn.results = #[.tmp u, .cell p ty]) (hp : ev N ρ (.tmp p) = .pointer (some ⟨b, 0, none⟩)) (hy : ev N ρ (.tmp u) = y) (ht : vinfo P ty = some (n, true, zz))
    (hS : St w0 w H) (hk : H[k]? = some (b, t, cs)) (hn : cs.length = n) (h : R (.tuple #[y, .agg cs.toArray]) w) :
    bodyPost P fn (fun e w' => ∃ v, e = .returned v ∧ R v w') .ret (act N ρ) w := by
  refine bodyPost_ret (v := .tuple #[y, .agg cs.toArray]) ?_ rfl ⟨_, rfl, h⟩
  rw [results_tmp_cell hr, tmps_getD, tmps_getD, hp, hy]
  have hl := hS.loadVar hk ht hn
  simp only [asAddr, Sem.run_pure, Result.andThen_ok]
  rw [hl]
  simp [Result.andThen]
theorem r_tmp_cell_tmp {fn : Func} {p u v n : Nat} {ty : TypeId} {zz : List Value} {x y : Value} {R : Value → World → Prop} (hr : fn.results = #[.tmp u, .cell p ty, .tmp v]) (hp : ev N ρ (.tmp p) = .pointer (some ⟨b, 0, none⟩)) (hy : ev N ρ (.tmp u) = y) (hx : ev N ρ (.tmp v) = x) (ht : vinfo P ty = some (n, true, zz))
    (hS : St w0 w H) (hk : H[k]? = some (b, t, cs)) (hn : cs.length = n) (h : R (.tuple #[y, .agg cs.toArray, x]) w) :
    bodyPost P fn (fun e w' => ∃ v, e = .returned v ∧ R v w') .ret (act N ρ) w := by
  refine bodyPost_ret (v := .tuple #[y, .agg cs.toArray, x]) ?_ rfl ⟨_, rfl, h⟩
  rw [results_tmp_cell_tmp hr, tmps_getD, tmps_getD, tmps_getD, hp, hy, hx]
  have hl := hS.loadVar hk ht hn
  simp only [asAddr, Sem.run_pure, Result.andThen_ok]
  rw [hl]
  simp [Result.andThen]
end
end Go.Sx
