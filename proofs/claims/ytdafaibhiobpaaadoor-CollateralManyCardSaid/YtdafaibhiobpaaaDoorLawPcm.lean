/-
  PROVED: for every input CollateralMany returns true, and each argument reads afterwards as it read before; the tables that its row lists read as the program's text lays them.
-/
import Derived.Test.YtdafaibhiobpaaaDoorLawMc
import Derived.Test.YtdafaibhiobpaaaDoorCards
namespace Go.Proofs.YtdafaibhiobpaaaDoor
open Go Go.RowKit Go.Sx Go.ChangeShapes Go.WideShapes Go.ChangeAt

set_option maxRecDepth 100000 in
theorem cmany_lifted (os : Os) (started : os.Started) (H : Type) (enc : TypeId × Value → H) :
    ReturnsInHanded {} Tryd.checked os 10 .any (fun w args => (Rows.collateralManySpec.pre enc Tryd.prog Tryd.f10 Rows.collateralManyRow.domain false w args ∧ laidMetH Tryd.prog Rows.collateralManyRow.laid w) ∧ sizedMet enc Tryd.prog Tryd.f10 (OpenSpec.ofChange Rows.collateralManySpec) false w args)
      (Rows.collateralManySpec.post enc Tryd.prog Tryd.f10 false true false false) := by
  refine returnsInHanded_of_change_and (C := Tryd.checked) (X := fun w _ => laidMetH Tryd.prog Rows.collateralManyRow.laid w) (fun _ _ _ hh h => h.of_heap hh) ownNone started (by kernel_rfl) Tryd.func10
    (ChangeSpec.witness_shaped (enc := enc) (C := Tryd.checked) (os := os) (X := fun w _ => laidMetH Tryd.prog Rows.collateralManyRow.laid w) false (World.laidAll Tryd.prog os Rows.collateralManyRow.laid) #[.int .u8 0, .int .u8 0, .int .u8 0] 8 (World.laidAll_os _ _ _)
      (World.shaped_of_ZipB (by kernel_rfl) (by kernel_rfl)) (by kernel_rfl) (by kernel_rfl) (by kernel_rfl)
      (by rw [MakeChecks.laidMetH_plain _ _ _ (by kernel_rfl)]; exact laidMet_laidAll _ (by kernel_rfl) (by kernel_rfl))) ?_
  intro W base args ds gs before hval0 hW hc _ hL _
  have hval : ∀ (j : Nat) t v, Tryd.f10.params[j]? = some t → args[j]? = some v → Value.okWide Tryd.prog W .any base t v := hval0
  have hW' := hW
  obtain ⟨p, q, hA0, hV, rfl, _, _⟩ := hW
  have hA : DataW.TrodAll enc Tryd.prog W 0 (fun _ => true) true Tryd.f10.params.toList args.toList ds p := hA0
  rw [Tryd.params10] at hA hval
  obtain ⟨v0, v1, v2, d0, d1, d2, p0, p1, p2, rfl, rfl, rfl, h0, h1, h2⟩ := trodAll_three hA
  obtain ⟨rfl, rfl⟩ := trodVars_none hV
  obtain ⟨x0, rfl, rfl, rfl, wx0⟩ := open_int Tryd.underlying5 (hval 0 5 v0 rfl rfl) h0
  have hx0 := bounds_u8 wx0
  obtain ⟨b0, rfl⟩ : ∃ b : Nat, x0 = b := ⟨x0.toNat, by omega⟩
  obtain ⟨x1, rfl, rfl, rfl, wx1⟩ := open_int Tryd.underlying5 (hval 1 5 v1 rfl rfl) h1
  have hx1 := bounds_u8 wx1
  obtain ⟨b1, rfl⟩ : ∃ b : Nat, x1 = b := ⟨x1.toNat, by omega⟩
  obtain ⟨x2, rfl, rfl, rfl, wx2⟩ := open_int Tryd.underlying5 (hval 2 5 v2 rfl rfl) h2
  have hx2 := bounds_u8 wx2
  obtain ⟨b2, rfl⟩ : ∃ b : Nat, x2 = b := ⟨x2.toNat, by omega⟩
  refine (CollateralMany_ok b0 b1 b2 W).mono ?_
  rintro v W' ⟨rfl, hB⟩
  exact law_post (f := Tryd.f10) (s := Rows.collateralManySpec) laidOut hW' (fun t ht => by
    have hm : t ∈ [5, 5, 5] := by rw [Tryd.params10] at ht; simpa using ht
    have hall : ([5, 5, 5].all fun t => Tryd.prog.readableRec t && decide (t < Tryd.prog.types.size)) = true := by kernel_rfl
    have h2 := List.all_eq_true.1 hall t hm
    rw [Bool.and_eq_true, decide_eq_true_eq] at h2
    exact h2) rfl hB (trodAll_mk1 (shut_bool Tryd.underlying4 _)) rfl rfl

theorem cmany_holds : Rows.CollateralManySaid :=
  OpenClaim.holds_of_wide 10 Tryd.f10 rfl rfl rfl rfl rfl rfl rfl ⟨rfl, rfl, rfl, rfl, rfl⟩ rfl rfl rfl rfl rfl (by kernel_rfl) Tryd.func10 (by kernel_rfl)
    (of_decide_eq_true (by kernel_rfl)) (by unfold Func.isWrapper; first | (rw [if_pos (by decide +kernel)]; kernel_rfl) | (rw [if_neg (by decide +kernel)]; exact ⟨rfl, rfl⟩))
    (fun os started H enc _ => cmany_lifted os started H enc)
theorem cmany_card : Rows.CollateralManyCardSaid :=
  Claim7.holds_tied_plain_at .later [] [.data, .pinned] true (true, "2214c92a534b3915568dc2ac712d7b0549b20b59f98067752ae8ef0a274b82a7") false cmany_holds (fun _ h => by cases h) (by kernel_rfl) (fun _ h => by cases h) collateralMany_row_tie rfl ⟨rfl, rfl⟩ (by kernel_rfl) rfl
    (fun f fn hf hfn => by
      obtain rfl : f = 10 := Option.some.inj ((show Tryd.prog.funcNamed "insolvency/insolvencylaw15.CollateralMany" = some 10 by kernel_rfl).symm.trans hf) |>.symm
      obtain rfl : fn = Tryd.f10 := (Option.some.inj (Tryd.func10.symm.trans hfn)).symm
      exact ⟨by kernel_rfl, fun j t ht => by
        rw [Tryd.params10] at ht
        have hm : t ∈ [5, 5, 5] := by simpa using Array.mem_of_getElem? ht
        have hall : ([5, 5, 5].all fun u => !Tryd.prog.wantsStandIn u) = true := by kernel_rfl
        exact (show Tryd.prog.wantsStandIn t = false by simpa using List.all_eq_true.1 hall t hm)⟩)
    (by kernel_rfl)
#print axioms cmany_holds
#print axioms cmany_card
end Go.Proofs.YtdafaibhiobpaaaDoor
