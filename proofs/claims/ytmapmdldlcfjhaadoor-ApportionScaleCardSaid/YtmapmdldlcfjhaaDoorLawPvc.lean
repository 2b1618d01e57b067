/-
  PROVED: for every input ApportionScale returns true, and each argument reads afterwards as it read before; the tables that its row lists read as the program's text lays them.
-/
import Derived.Test.YtmapmdldlcfjhaaDoorLawVg
import Derived.Test.YtmapmdldlcfjhaaDoorCards
namespace Go.Proofs.YtmapmdldlcfjhaaDoor
open Go Go.RowKit Go.Sx Go.ChangeShapes Go.WideShapes Go.ChangeAt

set_option maxRecDepth 100000 in
theorem ascale_lifted (os : Os) (started : os.Started) (H : Type) (enc : TypeId × Value → H) :
    ReturnsInHanded {} Tryd.checked os 5 .any (fun w args => (Rows.apportionScaleSpec.pre enc Tryd.prog Tryd.f5 Rows.apportionScaleRow.domain false w args ∧ laidMetH Tryd.prog Rows.apportionScaleRow.laid w) ∧ sizedMet enc Tryd.prog Tryd.f5 (OpenSpec.ofChange Rows.apportionScaleSpec) false w args)
      (Rows.apportionScaleSpec.post enc Tryd.prog Tryd.f5 false true false false) := by
  refine returnsInHanded_of_change_and (C := Tryd.checked) (X := fun w _ => laidMetH Tryd.prog Rows.apportionScaleRow.laid w) (fun _ _ _ hh h => h.of_heap hh) ownNone started (by kernel_rfl) Tryd.func5
    (ChangeSpec.witness_shaped (enc := enc) (C := Tryd.checked) (os := os) (X := fun w _ => laidMetH Tryd.prog Rows.apportionScaleRow.laid w) false (World.laidAll Tryd.prog os Rows.apportionScaleRow.laid) #[.int .u32 0, .slice none 0 0, .int .u16 0] 8 (World.laidAll_os _ _ _)
      (World.shaped_of_ZipB (by kernel_rfl) (by kernel_rfl)) (by kernel_rfl) (by kernel_rfl) (by kernel_rfl)
      (by rw [MakeChecks.laidMetH_plain _ _ _ (by kernel_rfl)]; exact laidMet_laidAll _ (by kernel_rfl) (by kernel_rfl))) ?_
  intro W base args ds gs before hval0 hW hc _ hL _
  have hval : ∀ (j : Nat) t v, Tryd.f5.params[j]? = some t → args[j]? = some v → Value.okWide Tryd.prog W .any base t v := hval0
  have hW' := hW
  obtain ⟨p, q, hA0, hV, rfl, _, _⟩ := hW
  have hA : DataW.TrodAll enc Tryd.prog W 0 (fun _ => true) true Tryd.f5.params.toList args.toList ds p := hA0
  rw [Tryd.params5] at hA hval
  obtain ⟨v0, v1, v2, d0, d1, d2, p0, p1, p2, rfl, rfl, rfl, h0, h1, h2⟩ := trodAll_three hA
  obtain ⟨rfl, rfl⟩ := trodVars_none hV
  obtain ⟨x0, rfl, rfl, rfl, wx0⟩ := open_int Tryd.underlying22 (hval 0 22 v0 rfl rfl) h0
  have hx0 := bounds_u32 wx0
  obtain ⟨b0, rfl⟩ : ∃ b : Nat, x0 = b := ⟨x0.toNat, by omega⟩
  obtain ⟨a1, ha1, hab1⟩ := open_u16s Tryd.underlying23 Tryd.underlying42 (by kernel_rfl) (hval 1 23 v1 rfl rfl) h1
  obtain ⟨x2, rfl, rfl, rfl, wx2⟩ := open_int Tryd.underlying42 (hval 2 42 v2 rfl rfl) h2
  have hx2 := bounds_u16 wx2
  obtain ⟨b2, rfl⟩ : ∃ b : Nat, x2 = b := ⟨x2.toNat, by omega⟩
  refine (ApportionScale_ok b0 v1 a1 b2 W (by omega) (by omega) ha1 hab1).mono ?_
  rintro v W' ⟨rfl, hB⟩
  exact law_post (f := Tryd.f5) (s := Rows.apportionScaleSpec) laidOut hW' (fun t ht => by
    have hm : t ∈ [22, 23, 42] := by rw [Tryd.params5] at ht; simpa using ht
    have hall : ([22, 23, 42].all fun t => Tryd.prog.readableRec t && decide (t < Tryd.prog.types.size)) = true := by kernel_rfl
    have h2 := List.all_eq_true.1 hall t hm
    rw [Bool.and_eq_true, decide_eq_true_eq] at h2
    exact h2) rfl hB (trodAll_mk1 (shut_bool Tryd.underlying4 _)) rfl rfl

theorem ascale_holds : Rows.ApportionScaleSaid :=
  OpenClaim.holds_of_wide 5 Tryd.f5 rfl rfl rfl rfl rfl rfl rfl ⟨rfl, rfl, rfl, rfl, rfl⟩ rfl rfl rfl rfl rfl (by kernel_rfl) Tryd.func5 (by kernel_rfl)
    (of_decide_eq_true (by kernel_rfl)) (by unfold Func.isWrapper; first | (rw [if_pos (by decide +kernel)]; kernel_rfl) | (rw [if_neg (by decide +kernel)]; exact ⟨rfl, rfl⟩))
    (fun os started H enc _ => ascale_lifted os started H enc)
theorem ascale_card : Rows.ApportionScaleCardSaid :=
  Claim7.holds_tied_plain_at .later [] [.data, .pinned] true (true, "502af70e5e339f057bc221967b558b1eedf2d95424f7778726b6ba52cbe7fdcf") false ascale_holds (fun _ h => by cases h) (by kernel_rfl) (fun _ h => by cases h) apportionScale_row_tie rfl ⟨rfl, rfl⟩ (by kernel_rfl) rfl
    (fun f fn hf hfn => by
      obtain rfl : f = 5 := Option.some.inj ((show Tryd.prog.funcNamed "insolvency/insolvencylaw4.ApportionScale" = some 5 by kernel_rfl).symm.trans hf) |>.symm
      obtain rfl : fn = Tryd.f5 := (Option.some.inj (Tryd.func5.symm.trans hfn)).symm
      exact ⟨by kernel_rfl, fun j t ht => by
        rw [Tryd.params5] at ht
        have hm : t ∈ [22, 23, 42] := by simpa using Array.mem_of_getElem? ht
        have hall : ([22, 23, 42].all fun u => !Tryd.prog.wantsStandIn u) = true := by kernel_rfl
        exact (show Tryd.prog.wantsStandIn t = false by simpa using List.all_eq_true.1 hall t hm)⟩)
    (by kernel_rfl)
#print axioms ascale_holds
#print axioms ascale_card
end Go.Proofs.YtmapmdldlcfjhaaDoor
