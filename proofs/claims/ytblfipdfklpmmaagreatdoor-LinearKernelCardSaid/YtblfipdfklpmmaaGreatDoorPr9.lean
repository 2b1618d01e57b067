/-
  PROVED: for every input LinearKernel returns true, and each argument reads afterwards as it read before; the tables that its row lists read as the program's text lays them.
-/
import Derived.Test.YtblfipdfklpmmaaGreatDoorPr8
import Derived.Test.YtblfipdfklpmmaaGreatDoorCards
namespace Go.Proofs.YtblfipdfklpmmaaGreatDoor
open Go Go.RowKit Go.Sx Go.ChangeShapes Go.WideShapes Go.ChangeAt
set_option maxRecDepth 100000 in
theorem lsolve_lifted (os : Os) (started : os.Started) (H : Type) (enc : TypeId × Value → H) :
    ReturnsInHanded {} Tryz.checked os 3 .any (fun w args => (Rows.linearSolveSpec.pre enc Tryz.prog Tryz.f3 Rows.linearSolveRow.domain false w args ∧ laidMetH Tryz.prog Rows.linearSolveRow.laid w) ∧ sizedMet enc Tryz.prog Tryz.f3 (OpenSpec.ofChange Rows.linearSolveSpec) false w args)
      (Rows.linearSolveSpec.post enc Tryz.prog Tryz.f3 false true false false) := by
  refine returnsInHanded_of_change_and (C := Tryz.checked) (X := fun w _ => laidMetH Tryz.prog Rows.linearSolveRow.laid w) (fun _ _ _ hh h => h.of_heap hh) ownNone started (by kernel_rfl) Tryz.func3
    (ChangeSpec.witness_shaped (enc := enc) (C := Tryz.checked) (os := os) (X := fun w _ => laidMetH Tryz.prog Rows.linearSolveRow.laid w) false (World.laidAll Tryz.prog os Rows.linearSolveRow.laid) #[.slice none 0 0, .slice none 0 0] 8 (World.laidAll_os _ _ _)
      (World.shaped_of_ZipB (by kernel_rfl) (by kernel_rfl)) (by kernel_rfl) (by kernel_rfl) (by kernel_rfl)
      (by rw [MakeChecks.laidMetH_plain _ _ _ (by kernel_rfl)]; exact laidMet_laidAll _ (by kernel_rfl) (by kernel_rfl))) ?_
  intro W base args ds gs before hval0 hW hc _ hL _
  have hval : ∀ (j : Nat) t v, Tryz.f3.params[j]? = some t → args[j]? = some v → Value.okWide Tryz.prog W .any base t v := hval0
  have hW' := hW
  obtain ⟨p, q, hA0, hV, rfl, _, _⟩ := hW
  have hA : DataW.TrodAll enc Tryz.prog W 0 (fun _ => true) true Tryz.f3.params.toList args.toList ds p := hA0
  rw [Tryz.params3] at hA hval
  obtain ⟨v0, v1, d0, d1, p0, p1, rfl, rfl, rfl, h0, h1⟩ := trodAll_two hA
  obtain ⟨rfl, rfl⟩ := trodVars_none hV
  obtain ⟨A0, vs0, hA0⟩ := open_mats (okWide_slice Tryz.underlying22 (hval 0 22 v0 rfl rfl)) h0
  obtain ⟨r1, hr1, hrb1⟩ := open_rats (okWide_slice Tryz.underlying23 (hval 1 23 v1 rfl rfl)) h1
  refine (LinearSolve_ok v0 v1 A0 vs0 r1 W hA0 hr1).mono ?_
  rintro v W' ⟨rfl, hB⟩
  exact law_post (f := Tryz.f3) (s := Rows.linearSolveSpec) laidOut hW' (fun t ht => by
    have hm : t ∈ [22, 23] := by rw [Tryz.params3] at ht; simpa using ht
    have hall : ([22, 23].all fun t => Tryz.prog.readableRec t && decide (t < Tryz.prog.types.size)) = true := by kernel_rfl
    have h2 := List.all_eq_true.1 hall t hm
    rw [Bool.and_eq_true, decide_eq_true_eq] at h2
    exact h2) rfl hB (trodAll_mk1 (shut_bool Tryz.underlying4 _)) rfl rfl
theorem lsolve_holds : Rows.LinearSolveSaid :=
  OpenClaim.holds_of_wide 3 Tryz.f3 rfl rfl rfl rfl rfl rfl rfl ⟨rfl, rfl, rfl, rfl, rfl⟩ rfl rfl rfl rfl rfl (by kernel_rfl) Tryz.func3 (by kernel_rfl)
    (of_decide_eq_true (by kernel_rfl)) (by unfold Func.isWrapper; first | (rw [if_pos (by decide +kernel)]; kernel_rfl) | (rw [if_neg (by decide +kernel)]; exact ⟨rfl, rfl⟩))
    (fun os started H enc _ => lsolve_lifted os started H enc)
theorem lsolve_card : Rows.LinearSolveCardSaid :=
  Claim7.holds_tied_plain_at .later [] [.data, .pinned] true (true, "d18bf993799138d8c1bdf47559dda9d26d50c64d47c44562f76f365effb13cf9") false lsolve_holds (fun _ h => by cases h) (by kernel_rfl) (fun _ h => by cases h) linearSolve_row_tie rfl ⟨rfl, rfl⟩ (by kernel_rfl) rfl
    (fun f fn hf hfn => by
      obtain rfl : f = 3 := Option.some.inj ((show Tryz.prog.funcNamed "insolvency/insolvencylaw3.LinearSolve" = some 3 by kernel_rfl).symm.trans hf) |>.symm
      obtain rfl : fn = Tryz.f3 := (Option.some.inj (Tryz.func3.symm.trans hfn)).symm
      exact ⟨by kernel_rfl, fun j t ht => by
        rw [Tryz.params3] at ht
        have hm : t ∈ [22, 23] := by simpa using Array.mem_of_getElem? ht
        have hall : ([22, 23].all fun u => !Tryz.prog.wantsStandIn u) = true := by kernel_rfl
        exact (show Tryz.prog.wantsStandIn t = false by simpa using List.all_eq_true.1 hall t hm)⟩)
    (by kernel_rfl)
#print axioms lsolve_holds
#print axioms lsolve_card
end Go.Proofs.YtblfipdfklpmmaaGreatDoor
namespace Go.Proofs.YtblfipdfklpmmaaGreatDoor
open Go Go.RowKit Go.Sx Go.ChangeShapes Go.WideShapes Go.ChangeAt
set_option maxRecDepth 100000 in
theorem lkernel_lifted (os : Os) (started : os.Started) (H : Type) (enc : TypeId × Value → H) :
    ReturnsInHanded {} Tryz.checked os 4 .any (fun w args => (Rows.linearKernelSpec.pre enc Tryz.prog Tryz.f4 Rows.linearKernelRow.domain false w args ∧ laidMetH Tryz.prog Rows.linearKernelRow.laid w) ∧ sizedMet enc Tryz.prog Tryz.f4 (OpenSpec.ofChange Rows.linearKernelSpec) false w args)
      (Rows.linearKernelSpec.post enc Tryz.prog Tryz.f4 false true false false) := by
  refine returnsInHanded_of_change_and (C := Tryz.checked) (X := fun w _ => laidMetH Tryz.prog Rows.linearKernelRow.laid w) (fun _ _ _ hh h => h.of_heap hh) ownNone started (by kernel_rfl) Tryz.func4
    (ChangeSpec.witness_shaped (enc := enc) (C := Tryz.checked) (os := os) (X := fun w _ => laidMetH Tryz.prog Rows.linearKernelRow.laid w) false (World.laidAll Tryz.prog os Rows.linearKernelRow.laid) #[.slice none 0 0] 8 (World.laidAll_os _ _ _)
      (World.shaped_of_ZipB (by kernel_rfl) (by kernel_rfl)) (by kernel_rfl) (by kernel_rfl) (by kernel_rfl)
      (by rw [MakeChecks.laidMetH_plain _ _ _ (by kernel_rfl)]; exact laidMet_laidAll _ (by kernel_rfl) (by kernel_rfl))) ?_
  intro W base args ds gs before hval0 hW hc _ hL _
  have hval : ∀ (j : Nat) t v, Tryz.f4.params[j]? = some t → args[j]? = some v → Value.okWide Tryz.prog W .any base t v := hval0
  have hW' := hW
  obtain ⟨p, q, hA0, hV, rfl, _, _⟩ := hW
  have hA : DataW.TrodAll enc Tryz.prog W 0 (fun _ => true) true Tryz.f4.params.toList args.toList ds p := hA0
  rw [Tryz.params4] at hA hval
  obtain ⟨v0, d0, rfl, rfl, h0⟩ := trodAll_one hA
  obtain ⟨rfl, rfl⟩ := trodVars_none hV
  obtain ⟨A0, vs0, hA0⟩ := open_mats (okWide_slice Tryz.underlying22 (hval 0 22 v0 rfl rfl)) h0
  refine (LinearKernel_ok v0 A0 vs0 W hA0).mono ?_
  rintro v W' ⟨rfl, hB⟩
  exact law_post (f := Tryz.f4) (s := Rows.linearKernelSpec) laidOut hW' (fun t ht => by
    have hm : t ∈ [22] := by rw [Tryz.params4] at ht; simpa using ht
    have hall : ([22].all fun t => Tryz.prog.readableRec t && decide (t < Tryz.prog.types.size)) = true := by kernel_rfl
    have h2 := List.all_eq_true.1 hall t hm
    rw [Bool.and_eq_true, decide_eq_true_eq] at h2
    exact h2) rfl hB (trodAll_mk1 (shut_bool Tryz.underlying4 _)) rfl rfl
theorem lkernel_holds : Rows.LinearKernelSaid :=
  OpenClaim.holds_of_wide 4 Tryz.f4 rfl rfl rfl rfl rfl rfl rfl ⟨rfl, rfl, rfl, rfl, rfl⟩ rfl rfl rfl rfl rfl (by kernel_rfl) Tryz.func4 (by kernel_rfl)
    (of_decide_eq_true (by kernel_rfl)) (by unfold Func.isWrapper; first | (rw [if_pos (by decide +kernel)]; kernel_rfl) | (rw [if_neg (by decide +kernel)]; exact ⟨rfl, rfl⟩))
    (fun os started H enc _ => lkernel_lifted os started H enc)
theorem lkernel_card : Rows.LinearKernelCardSaid :=
  Claim7.holds_tied_plain_at .later [] [.data, .pinned] true (true, "d18bf993799138d8c1bdf47559dda9d26d50c64d47c44562f76f365effb13cf9") false lkernel_holds (fun _ h => by cases h) (by kernel_rfl) (fun _ h => by cases h) linearKernel_row_tie rfl ⟨rfl, rfl⟩ (by kernel_rfl) rfl
    (fun f fn hf hfn => by
      obtain rfl : f = 4 := Option.some.inj ((show Tryz.prog.funcNamed "insolvency/insolvencylaw3.LinearKernel" = some 4 by kernel_rfl).symm.trans hf) |>.symm
      obtain rfl : fn = Tryz.f4 := (Option.some.inj (Tryz.func4.symm.trans hfn)).symm
      exact ⟨by kernel_rfl, fun j t ht => by
        rw [Tryz.params4] at ht
        have hm : t ∈ [22] := by simpa using Array.mem_of_getElem? ht
        have hall : ([22].all fun u => !Tryz.prog.wantsStandIn u) = true := by kernel_rfl
        exact (show Tryz.prog.wantsStandIn t = false by simpa using List.all_eq_true.1 hall t hm)⟩)
    (by kernel_rfl)
#print axioms lkernel_holds
#print axioms lkernel_card
end Go.Proofs.YtblfipdfklpmmaaGreatDoor
