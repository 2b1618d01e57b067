/-
  PROVED: for every input CollateralRaw returns true, and each argument reads afterwards as it read before; the tables that its row lists read as the program's text lays them.
-/
import Derived.Test.YtknccjbkacaelaaGreatDoorPf8
import Derived.Test.YtknccjbkacaelaaGreatDoorCards
namespace Go.Proofs.YtknccjbkacaelaaGreatDoor
open Go Go.RowKit Go.Sx Go.ChangeShapes Go.WideShapes Go.ChangeAt
set_option maxRecDepth 100000 in
theorem craw_lifted (os : Os) (started : os.Started) (H : Type) (enc : TypeId × Value → H) :
    ReturnsInHanded {} Tryz.checked os 4 .any (fun w args => (Rows.collateralRawSpec.pre enc Tryz.prog Tryz.f4 Rows.collateralRawRow.domain false w args ∧ laidMetH Tryz.prog Rows.collateralRawRow.laid w) ∧ sizedMet enc Tryz.prog Tryz.f4 (OpenSpec.ofChange Rows.collateralRawSpec) false w args)
      (Rows.collateralRawSpec.post enc Tryz.prog Tryz.f4 false true false false) := by
  refine returnsInHanded_of_change_and (C := Tryz.checked) (X := fun w _ => laidMetH Tryz.prog Rows.collateralRawRow.laid w) (fun _ _ _ hh h => h.of_heap hh) ownNone started (by kernel_rfl) Tryz.func4
    (ChangeSpec.witness_shaped (enc := enc) (C := Tryz.checked) (os := os) (X := fun w _ => laidMetH Tryz.prog Rows.collateralRawRow.laid w) false (World.laidAll Tryz.prog os Rows.collateralRawRow.laid) #[.agg #[.bool false, .string ⟨#[]⟩, .string ⟨#[]⟩, .bool false, .string ⟨#[]⟩, .string ⟨#[]⟩, .slice none 0 0], .slice none 0 0, .slice none 0 0] 8 (World.laidAll_os _ _ _)
      (World.shaped_of_ZipB (by kernel_rfl) (by kernel_rfl)) (by kernel_rfl) (by kernel_rfl) (by kernel_rfl)
      (by rw [MakeChecks.laidMetH_plain _ _ _ (by kernel_rfl)]; exact laidMet_laidAll _ (by kernel_rfl) (by kernel_rfl))) ?_
  intro W base args ds gs before hval0 hW hc _ hL _
  have hval : ∀ (j : Nat) t v, Tryz.f4.params[j]? = some t → args[j]? = some v → Value.okWide Tryz.prog W .any base t v := hval0
  have hW' := hW
  obtain ⟨p, q, hA0, hV, rfl, _, _⟩ := hW
  have hA : DataW.TrodAll enc Tryz.prog W 0 (fun _ => true) true Tryz.f4.params.toList args.toList ds p := hA0
  rw [Tryz.params4] at hA hval
  obtain ⟨v0, v1, v2, d0, d1, d2, p0, p1, p2, rfl, rfl, rfl, h0, h1, h2⟩ := trodAll_three hA
  obtain ⟨rfl, rfl⟩ := trodVars_none hV
  obtain ⟨x0, vc0, rfl, hch0⟩ := open_itv (hval 0 32 v0 rfl rfl) h0
  obtain ⟨X1, cvs1, hX1⟩ := open_items (okWide_slice Tryz.underlying26 (hval 1 26 v1 rfl rfl)) h1
  obtain ⟨r2, hr2, hrb2⟩ := open_rats (okWide_slice Tryz.underlying24 (hval 2 24 v2 rfl rfl)) h2
  refine (CollateralRaw_ok x0 vc0 v1 v2 X1 cvs1 r2 W hch0 hX1 hr2).mono ?_
  rintro v W' ⟨rfl, hB⟩
  exact law_post (f := Tryz.f4) (s := Rows.collateralRawSpec) laidOut hW' (fun t ht => by
    have hm : t ∈ [32, 26, 24] := by rw [Tryz.params4] at ht; simpa using ht
    have hall : ([32, 26, 24].all fun t => Tryz.prog.readableRec t && decide (t < Tryz.prog.types.size)) = true := by kernel_rfl
    have h2 := List.all_eq_true.1 hall t hm
    rw [Bool.and_eq_true, decide_eq_true_eq] at h2
    exact h2) rfl hB (trodAll_mk1 (shut_bool Tryz.underlying4 _)) rfl rfl
theorem craw_holds : Rows.CollateralRawSaid :=
  OpenClaim.holds_of_wide 4 Tryz.f4 rfl rfl rfl rfl rfl rfl rfl ⟨rfl, rfl, rfl, rfl, rfl⟩ rfl rfl rfl rfl rfl (by kernel_rfl) Tryz.func4 (by kernel_rfl)
    (of_decide_eq_true (by kernel_rfl)) (by unfold Func.isWrapper; first | (rw [if_pos (by decide +kernel)]; kernel_rfl) | (rw [if_neg (by decide +kernel)]; exact ⟨rfl, rfl⟩))
    (fun os started H enc _ => craw_lifted os started H enc)
theorem craw_card : Rows.CollateralRawCardSaid :=
  Claim7.holds_tied_plain_at .later [] [.data, .pinned] true (true, "857de81476e5d6cb185f80dec6e3ebf382fb242f6bb866bc3d51bda6073c6e53") false craw_holds (fun _ h => by cases h) (by kernel_rfl) (fun _ h => by cases h) collateralRaw_row_tie rfl ⟨rfl, rfl⟩ (by kernel_rfl) rfl
    (fun f fn hf hfn => by
      obtain rfl : f = 4 := Option.some.inj ((show Tryz.prog.funcNamed "insolvency/insolvencylaw15.CollateralRaw" = some 4 by kernel_rfl).symm.trans hf) |>.symm
      obtain rfl : fn = Tryz.f4 := (Option.some.inj (Tryz.func4.symm.trans hfn)).symm
      exact ⟨by kernel_rfl, fun j t ht => by
        rw [Tryz.params4] at ht
        have hm : t ∈ [32, 26, 24] := by simpa using Array.mem_of_getElem? ht
        have hall : ([32, 26, 24].all fun u => !Tryz.prog.wantsStandIn u) = true := by kernel_rfl
        exact (show Tryz.prog.wantsStandIn t = false by simpa using List.all_eq_true.1 hall t hm)⟩)
    (by kernel_rfl)
#print axioms craw_holds
#print axioms craw_card
end Go.Proofs.YtknccjbkacaelaaGreatDoor
