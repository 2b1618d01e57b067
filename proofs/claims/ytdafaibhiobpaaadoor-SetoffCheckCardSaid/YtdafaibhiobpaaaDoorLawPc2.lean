/-
  PROVED: for every input SetoffCheck returns true, and each argument reads afterwards as it read before; the tables that its row lists read as the program's text lays them.
-/
import Derived.Test.YtdafaibhiobpaaaDoorLawOx
import Derived.Test.YtdafaibhiobpaaaDoorCards
namespace Go.Proofs.YtdafaibhiobpaaaDoor
open Go Go.RowKit Go.Sx Go.ChangeShapes Go.WideShapes Go.ChangeAt

set_option maxRecDepth 100000 in
theorem check_lifted (os : Os) (started : os.Started) (H : Type) (enc : TypeId × Value → H) :
    ReturnsInHanded {} Tryd.checked os 3 .any (fun w args => (Rows.setoffCheckSpec.pre enc Tryd.prog Tryd.f3 Rows.setoffCheckRow.domain false w args ∧ laidMetH Tryd.prog Rows.setoffCheckRow.laid w) ∧ sizedMet enc Tryd.prog Tryd.f3 (OpenSpec.ofChange Rows.setoffCheckSpec) false w args)
      (Rows.setoffCheckSpec.post enc Tryd.prog Tryd.f3 false true false false) := by
  refine returnsInHanded_of_change_and (C := Tryd.checked) (X := fun w _ => laidMetH Tryd.prog Rows.setoffCheckRow.laid w) (fun _ _ _ hh h => h.of_heap hh) ownNone started (by kernel_rfl) Tryd.func3
    (ChangeSpec.witness_shaped (enc := enc) (C := Tryd.checked) (os := os) (X := fun w _ => laidMetH Tryd.prog Rows.setoffCheckRow.laid w) false (World.laidAll Tryd.prog os Rows.setoffCheckRow.laid) #[.int .i64 0, .slice none 0 0, .int .i64 0, .int .i64 0] 8 (World.laidAll_os _ _ _)
      (World.shaped_of_ZipB (by kernel_rfl) (by kernel_rfl)) (by kernel_rfl) (by kernel_rfl) (by kernel_rfl)
      (by rw [MakeChecks.laidMetH_plain _ _ _ (by kernel_rfl)]; exact laidMet_laidAll _ (by kernel_rfl) (by kernel_rfl))) ?_
  intro W base args ds gs before hval0 hW hc _ hL _
  have hval : ∀ (j : Nat) t v, Tryd.f3.params[j]? = some t → args[j]? = some v → Value.okWide Tryd.prog W .any base t v := hval0
  have hW' := hW
  obtain ⟨p, q, hA0, hV, rfl, _, _⟩ := hW
  have hA : DataW.TrodAll enc Tryd.prog W 0 (fun _ => true) true Tryd.f3.params.toList args.toList ds p := hA0
  rw [Tryd.params3] at hA hval
  obtain ⟨v0, r0, d0, e0, p0, q0, ha0, rfl, rfl, h0, hA1⟩ := trodAll_cons hA
  obtain ⟨v1, v2, v3, d1, d2, d3, p1, p2, p3, ha1, rfl, rfl, h1, h2, h3⟩ := trodAll_three (args := r0.toArray) (by simpa using hA1)
  obtain rfl : r0 = [v1, v2, v3] := by simpa using congrArg Array.toList ha1
  obtain rfl : args = #[v0, v1, v2, v3] := by cases args; simp_all
  obtain ⟨rfl, rfl⟩ := trodVars_none hV
  obtain ⟨x0, rfl, rfl, rfl, wx0⟩ := open_int Tryd.underlying3 (hval 0 3 v0 rfl rfl) h0
  have hx0 := bounds_i64 wx0
  obtain ⟨o1, ho1⟩ := open_obs (okWide_slice Tryd.underlying22 (hval 1 22 v1 rfl rfl)) h1
  obtain ⟨x2, rfl, rfl, rfl, wx2⟩ := open_int Tryd.underlying3 (hval 2 3 v2 rfl rfl) h2
  have hx2 := bounds_i64 wx2
  obtain ⟨x3, rfl, rfl, rfl, wx3⟩ := open_int Tryd.underlying3 (hval 3 3 v3 rfl rfl) h3
  have hx3 := bounds_i64 wx3
  refine (SetoffCheck_ok x0 x2 x3 v1 o1 W ho1).mono ?_
  rintro v W' ⟨rfl, hB⟩
  exact law_post (f := Tryd.f3) (s := Rows.setoffCheckSpec) laidOut hW' (fun t ht => by
    have hm : t ∈ [3, 22, 3, 3] := by rw [Tryd.params3] at ht; simpa using ht
    have hall : ([3, 22, 3, 3].all fun t => Tryd.prog.readableRec t && decide (t < Tryd.prog.types.size)) = true := by kernel_rfl
    have h2 := List.all_eq_true.1 hall t hm
    rw [Bool.and_eq_true, decide_eq_true_eq] at h2
    exact h2) rfl hB (trodAll_mk1 (shut_bool Tryd.underlying4 _)) rfl rfl

theorem check_holds : Rows.SetoffCheckSaid :=
  OpenClaim.holds_of_wide 3 Tryd.f3 rfl rfl rfl rfl rfl rfl rfl ⟨rfl, rfl, rfl, rfl, rfl⟩ rfl rfl rfl rfl rfl (by kernel_rfl) Tryd.func3 (by kernel_rfl)
    (of_decide_eq_true (by kernel_rfl)) (by unfold Func.isWrapper; first | (rw [if_pos (by decide +kernel)]; kernel_rfl) | (rw [if_neg (by decide +kernel)]; exact ⟨rfl, rfl⟩))
    (fun os started H enc _ => check_lifted os started H enc)
theorem check_card : Rows.SetoffCheckCardSaid :=
  Claim7.holds_tied_plain_at .later [] [.data, .pinned] true (true, "2214c92a534b3915568dc2ac712d7b0549b20b59f98067752ae8ef0a274b82a7") false check_holds (fun _ h => by cases h) (by kernel_rfl) (fun _ h => by cases h) setoffCheck_row_tie rfl ⟨rfl, rfl⟩ (by kernel_rfl) rfl
    (fun f fn hf hfn => by
      obtain rfl : f = 3 := Option.some.inj ((show Tryd.prog.funcNamed "insolvency/insolvencylaw14.SetoffCheck" = some 3 by kernel_rfl).symm.trans hf) |>.symm
      obtain rfl : fn = Tryd.f3 := (Option.some.inj (Tryd.func3.symm.trans hfn)).symm
      exact ⟨by kernel_rfl, fun j t ht => by
        rw [Tryd.params3] at ht
        have hm : t ∈ [3, 22, 3, 3] := by simpa using Array.mem_of_getElem? ht
        have hall : ([3, 22, 3, 3].all fun u => !Tryd.prog.wantsStandIn u) = true := by kernel_rfl
        exact (show Tryd.prog.wantsStandIn t = false by simpa using List.all_eq_true.1 hall t hm)⟩)
    (by kernel_rfl)
#print axioms check_holds
#print axioms check_card
end Go.Proofs.YtdafaibhiobpaaaDoor
