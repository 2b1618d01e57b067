/-
  PROVED: for every input LinearDeterminant returns true, and each argument reads afterwards as it read before; the tables that its row lists read as the program's text lays them.
-/
import Derived.Test.YtblfipdfklpmmaaGreatDoorPs8
import Derived.Test.YtblfipdfklpmmaaGreatDoorCards
namespace Go.Proofs.YtblfipdfklpmmaaGreatDoor
open Go Go.RowKit Go.Sx Go.ChangeShapes Go.WideShapes Go.ChangeAt
set_option maxRecDepth 100000 in
theorem lsol_lifted (os : Os) (started : os.Started) (H : Type) (enc : TypeId × Value → H) :
    ReturnsInHanded {} Tryz.checked os 8 .any (fun w args => (Rows.linearSolutionSpec.pre enc Tryz.prog Tryz.f8 Rows.linearSolutionRow.domain false w args ∧ laidMetH Tryz.prog Rows.linearSolutionRow.laid w) ∧ sizedMet enc Tryz.prog Tryz.f8 (OpenSpec.ofChange Rows.linearSolutionSpec) false w args)
      (Rows.linearSolutionSpec.post enc Tryz.prog Tryz.f8 false true false false) := by
  refine returnsInHanded_of_change_and (C := Tryz.checked) (X := fun w _ => laidMetH Tryz.prog Rows.linearSolutionRow.laid w) (fun _ _ _ hh h => h.of_heap hh) ownNone started (by kernel_rfl) Tryz.func8
    (ChangeSpec.witness_shaped (enc := enc) (C := Tryz.checked) (os := os) (X := fun w _ => laidMetH Tryz.prog Rows.linearSolutionRow.laid w) false (World.laidAll Tryz.prog os Rows.linearSolutionRow.laid) #[.int .u8 0, .slice none 0 0, .slice none 0 0] 8 (World.laidAll_os _ _ _)
      (World.shaped_of_ZipB (by kernel_rfl) (by kernel_rfl)) (by kernel_rfl) (by kernel_rfl) (by kernel_rfl)
      (by rw [MakeChecks.laidMetH_plain _ _ _ (by kernel_rfl)]; exact laidMet_laidAll _ (by kernel_rfl) (by kernel_rfl))) ?_
  intro W base args ds gs before hval0 hW hc _ hL _
  have hval : ∀ (j : Nat) t v, Tryz.f8.params[j]? = some t → args[j]? = some v → Value.okWide Tryz.prog W .any base t v := hval0
  have hW' := hW
  obtain ⟨p, q, hA0, hV, rfl, _, _⟩ := hW
  have hA : DataW.TrodAll enc Tryz.prog W 0 (fun _ => true) true Tryz.f8.params.toList args.toList ds p := hA0
  rw [Tryz.params8] at hA hval
  obtain ⟨v0, v1, v2, d0, d1, d2, p0, p1, p2, rfl, rfl, rfl, h0, h1, h2⟩ := trodAll_three hA
  obtain ⟨rfl, rfl⟩ := trodVars_none hV
  obtain ⟨x0, rfl, rfl, rfl, wx0⟩ := open_int Tryz.underlying5 (hval 0 5 v0 rfl rfl) h0
  have hx0 := bounds_u8 wx0
  obtain ⟨b0, rfl⟩ : ∃ b : Nat, x0 = b := ⟨x0.toNat, by omega⟩
  obtain ⟨a1, ha1, hab1⟩ := open_u16s Tryz.underlying54 Tryz.underlying88 (by kernel_rfl) (hval 1 54 v1 rfl rfl) h1
  obtain ⟨a2, ha2, hab2⟩ := open_u16s Tryz.underlying54 Tryz.underlying88 (by kernel_rfl) (hval 2 54 v2 rfl rfl) h2
  refine (LinearSolution_ok b0 v1 v2 a1 a2 W ha1 hab1 ha2 hab2).mono ?_
  rintro v W' ⟨rfl, hB⟩
  exact law_post (f := Tryz.f8) (s := Rows.linearSolutionSpec) laidOut hW' (fun t ht => by
    have hm : t ∈ [5, 54, 54] := by rw [Tryz.params8] at ht; simpa using ht
    have hall : ([5, 54, 54].all fun t => Tryz.prog.readableRec t && decide (t < Tryz.prog.types.size)) = true := by kernel_rfl
    have h2 := List.all_eq_true.1 hall t hm
    rw [Bool.and_eq_true, decide_eq_true_eq] at h2
    exact h2) rfl hB (trodAll_mk1 (shut_bool Tryz.underlying4 _)) rfl rfl
theorem lsol_holds : Rows.LinearSolutionSaid :=
  OpenClaim.holds_of_wide 8 Tryz.f8 rfl rfl rfl rfl rfl rfl rfl ⟨rfl, rfl, rfl, rfl, rfl⟩ rfl rfl rfl rfl rfl (by kernel_rfl) Tryz.func8 (by kernel_rfl)
    (of_decide_eq_true (by kernel_rfl)) (by unfold Func.isWrapper; first | (rw [if_pos (by decide +kernel)]; kernel_rfl) | (rw [if_neg (by decide +kernel)]; exact ⟨rfl, rfl⟩))
    (fun os started H enc _ => lsol_lifted os started H enc)
theorem lsol_card : Rows.LinearSolutionCardSaid :=
  Claim7.holds_tied_plain_at .later [] [.data, .pinned] true (true, "d18bf993799138d8c1bdf47559dda9d26d50c64d47c44562f76f365effb13cf9") false lsol_holds (fun _ h => by cases h) (by kernel_rfl) (fun _ h => by cases h) linearSolution_row_tie rfl ⟨rfl, rfl⟩ (by kernel_rfl) rfl
    (fun f fn hf hfn => by
      obtain rfl : f = 8 := Option.some.inj ((show Tryz.prog.funcNamed "insolvency/insolvencylaw3.LinearSolution" = some 8 by kernel_rfl).symm.trans hf) |>.symm
      obtain rfl : fn = Tryz.f8 := (Option.some.inj (Tryz.func8.symm.trans hfn)).symm
      exact ⟨by kernel_rfl, fun j t ht => by
        rw [Tryz.params8] at ht
        have hm : t ∈ [5, 54, 54] := by simpa using Array.mem_of_getElem? ht
        have hall : ([5, 54, 54].all fun u => !Tryz.prog.wantsStandIn u) = true := by kernel_rfl
        exact (show Tryz.prog.wantsStandIn t = false by simpa using List.all_eq_true.1 hall t hm)⟩)
    (by kernel_rfl)
#print axioms lsol_holds
#print axioms lsol_card
end Go.Proofs.YtblfipdfklpmmaaGreatDoor
namespace Go.Proofs.YtblfipdfklpmmaaGreatDoor
open Go Go.RowKit Go.Sx Go.ChangeShapes Go.WideShapes Go.ChangeAt
set_option maxRecDepth 100000 in
theorem ldet_lifted (os : Os) (started : os.Started) (H : Type) (enc : TypeId × Value → H) :
    ReturnsInHanded {} Tryz.checked os 6 .any (fun w args => (Rows.linearDeterminantSpec.pre enc Tryz.prog Tryz.f6 Rows.linearDeterminantRow.domain false w args ∧ laidMetH Tryz.prog Rows.linearDeterminantRow.laid w) ∧ sizedMet enc Tryz.prog Tryz.f6 (OpenSpec.ofChange Rows.linearDeterminantSpec) false w args)
      (Rows.linearDeterminantSpec.post enc Tryz.prog Tryz.f6 false true false false) := by
  refine returnsInHanded_of_change_and (C := Tryz.checked) (X := fun w _ => laidMetH Tryz.prog Rows.linearDeterminantRow.laid w) (fun _ _ _ hh h => h.of_heap hh) ownNone started (by kernel_rfl) Tryz.func6
    (ChangeSpec.witness_shaped (enc := enc) (C := Tryz.checked) (os := os) (X := fun w _ => laidMetH Tryz.prog Rows.linearDeterminantRow.laid w) false (World.laidAll Tryz.prog os Rows.linearDeterminantRow.laid) #[.slice none 0 0] 8 (World.laidAll_os _ _ _)
      (World.shaped_of_ZipB (by kernel_rfl) (by kernel_rfl)) (by kernel_rfl) (by kernel_rfl) (by kernel_rfl)
      (by rw [MakeChecks.laidMetH_plain _ _ _ (by kernel_rfl)]; exact laidMet_laidAll _ (by kernel_rfl) (by kernel_rfl))) ?_
  intro W base args ds gs before hval0 hW hc _ hL _
  have hval : ∀ (j : Nat) t v, Tryz.f6.params[j]? = some t → args[j]? = some v → Value.okWide Tryz.prog W .any base t v := hval0
  have hW' := hW
  obtain ⟨p, q, hA0, hV, rfl, _, _⟩ := hW
  have hA : DataW.TrodAll enc Tryz.prog W 0 (fun _ => true) true Tryz.f6.params.toList args.toList ds p := hA0
  rw [Tryz.params6] at hA hval
  obtain ⟨v0, d0, rfl, rfl, h0⟩ := trodAll_one hA
  obtain ⟨rfl, rfl⟩ := trodVars_none hV
  obtain ⟨A0, vs0, hA0⟩ := open_mats (okWide_slice Tryz.underlying22 (hval 0 22 v0 rfl rfl)) h0
  refine (LinearDeterminant_ok v0 A0 vs0 W hA0).mono ?_
  rintro v W' ⟨rfl, hB⟩
  exact law_post (f := Tryz.f6) (s := Rows.linearDeterminantSpec) laidOut hW' (fun t ht => by
    have hm : t ∈ [22] := by rw [Tryz.params6] at ht; simpa using ht
    have hall : ([22].all fun t => Tryz.prog.readableRec t && decide (t < Tryz.prog.types.size)) = true := by kernel_rfl
    have h2 := List.all_eq_true.1 hall t hm
    rw [Bool.and_eq_true, decide_eq_true_eq] at h2
    exact h2) rfl hB (trodAll_mk1 (shut_bool Tryz.underlying4 _)) rfl rfl
theorem ldet_holds : Rows.LinearDeterminantSaid :=
  OpenClaim.holds_of_wide 6 Tryz.f6 rfl rfl rfl rfl rfl rfl rfl ⟨rfl, rfl, rfl, rfl, rfl⟩ rfl rfl rfl rfl rfl (by kernel_rfl) Tryz.func6 (by kernel_rfl)
    (of_decide_eq_true (by kernel_rfl)) (by unfold Func.isWrapper; first | (rw [if_pos (by decide +kernel)]; kernel_rfl) | (rw [if_neg (by decide +kernel)]; exact ⟨rfl, rfl⟩))
    (fun os started H enc _ => ldet_lifted os started H enc)
theorem ldet_card : Rows.LinearDeterminantCardSaid :=
  Claim7.holds_tied_plain_at .later [] [.data, .pinned] true (true, "d18bf993799138d8c1bdf47559dda9d26d50c64d47c44562f76f365effb13cf9") false ldet_holds (fun _ h => by cases h) (by kernel_rfl) (fun _ h => by cases h) linearDeterminant_row_tie rfl ⟨rfl, rfl⟩ (by kernel_rfl) rfl
    (fun f fn hf hfn => by
      obtain rfl : f = 6 := Option.some.inj ((show Tryz.prog.funcNamed "insolvency/insolvencylaw3.LinearDeterminant" = some 6 by kernel_rfl).symm.trans hf) |>.symm
      obtain rfl : fn = Tryz.f6 := (Option.some.inj (Tryz.func6.symm.trans hfn)).symm
      exact ⟨by kernel_rfl, fun j t ht => by
        rw [Tryz.params6] at ht
        have hm : t ∈ [22] := by simpa using Array.mem_of_getElem? ht
        have hall : ([22].all fun u => !Tryz.prog.wantsStandIn u) = true := by kernel_rfl
        exact (show Tryz.prog.wantsStandIn t = false by simpa using List.all_eq_true.1 hall t hm)⟩)
    (by kernel_rfl)
#print axioms ldet_holds
#print axioms ldet_card
end Go.Proofs.YtblfipdfklpmmaaGreatDoor
