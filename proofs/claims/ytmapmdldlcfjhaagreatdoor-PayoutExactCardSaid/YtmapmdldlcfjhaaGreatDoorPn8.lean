/-
  PROVED: for every input PayoutNever returns true, and each argument reads afterwards as it read before; the tables that its row lists read as the program's text lays them.
-/
import Derived.Test.YtmapmdldlcfjhaaGreatDoorPn7
import Derived.Test.YtmapmdldlcfjhaaGreatDoorCards
namespace Go.Proofs.YtmapmdldlcfjhaaGreatDoor
open Go Go.RowKit Go.Sx Go.ChangeShapes Go.WideShapes Go.ChangeAt
set_option maxRecDepth 100000 in
theorem pexact_lifted (os : Os) (started : os.Started) (H : Type) (enc : TypeId × Value → H) :
    ReturnsInHanded {} Tryz.checked os 7 .any (fun w args => (Rows.payoutExactSpec.pre enc Tryz.prog Tryz.f7 Rows.payoutExactRow.domain false w args ∧ laidMetH Tryz.prog Rows.payoutExactRow.laid w) ∧ sizedMet enc Tryz.prog Tryz.f7 (OpenSpec.ofChange Rows.payoutExactSpec) false w args)
      (Rows.payoutExactSpec.post enc Tryz.prog Tryz.f7 false true false false) := by
  refine returnsInHanded_of_change_and (C := Tryz.checked) (X := fun w _ => laidMetH Tryz.prog Rows.payoutExactRow.laid w) (fun _ _ _ hh h => h.of_heap hh) ownNone started (by kernel_rfl) Tryz.func7
    (ChangeSpec.witness_shaped (enc := enc) (C := Tryz.checked) (os := os) (X := fun w _ => laidMetH Tryz.prog Rows.payoutExactRow.laid w) false (World.laidAll Tryz.prog os Rows.payoutExactRow.laid) #[.slice none 0 0] 8 (World.laidAll_os _ _ _)
      (World.shaped_of_ZipB (by kernel_rfl) (by kernel_rfl)) (by kernel_rfl) (by kernel_rfl) (by kernel_rfl)
      (by rw [MakeChecks.laidMetH_plain _ _ _ (by kernel_rfl)]; exact laidMet_laidAll _ (by kernel_rfl) (by kernel_rfl))) ?_
  intro W base args ds gs before hval0 hW hc _ hL _
  have hval : ∀ (j : Nat) t v, Tryz.f7.params[j]? = some t → args[j]? = some v → Value.okWide Tryz.prog W .any base t v := hval0
  have hW' := hW
  obtain ⟨p, q, hA0, hV, rfl, _, _⟩ := hW
  have hA : DataW.TrodAll enc Tryz.prog W 0 (fun _ => true) true Tryz.f7.params.toList args.toList ds p := hA0
  rw [Tryz.params7] at hA hval
  obtain ⟨v0, d0, rfl, rfl, h0⟩ := trodAll_one hA
  obtain ⟨rfl, rfl⟩ := trodVars_none hV
  obtain ⟨a0, ha0, hab0⟩ := open_u16s Tryz.underlying46 Tryz.underlying79 (by kernel_rfl) (hval 0 46 v0 rfl rfl) h0
  refine (PayoutExact_ok v0 a0 W ha0 hab0).mono ?_
  rintro v W' ⟨rfl, hB⟩
  exact law_post (f := Tryz.f7) (s := Rows.payoutExactSpec) laidOut hW' (fun t ht => by
    have hm : t ∈ [46] := by rw [Tryz.params7] at ht; simpa using ht
    have hall : ([46].all fun t => Tryz.prog.readableRec t && decide (t < Tryz.prog.types.size)) = true := by kernel_rfl
    have h2 := List.all_eq_true.1 hall t hm
    rw [Bool.and_eq_true, decide_eq_true_eq] at h2
    exact h2) rfl hB (trodAll_mk1 (shut_bool Tryz.underlying4 _)) rfl rfl
theorem pexact_holds : Rows.PayoutExactSaid :=
  OpenClaim.holds_of_wide 7 Tryz.f7 rfl rfl rfl rfl rfl rfl rfl ⟨rfl, rfl, rfl, rfl, rfl⟩ rfl rfl rfl rfl rfl (by kernel_rfl) Tryz.func7 (by kernel_rfl)
    (of_decide_eq_true (by kernel_rfl)) (by unfold Func.isWrapper; first | (rw [if_pos (by decide +kernel)]; kernel_rfl) | (rw [if_neg (by decide +kernel)]; exact ⟨rfl, rfl⟩))
    (fun os started H enc _ => pexact_lifted os started H enc)
theorem pexact_card : Rows.PayoutExactCardSaid :=
  Claim7.holds_tied_plain_at .later [] [.data, .pinned] true (true, "d8bef88e8f38c7d6e5a1f7b1e7a5deb5cc93ed4e86259d20dc624cf221897df7") false pexact_holds (fun _ h => by cases h) (by kernel_rfl) (fun _ h => by cases h) payoutExact_row_tie rfl ⟨rfl, rfl⟩ (by kernel_rfl) rfl
    (fun f fn hf hfn => by
      obtain rfl : f = 7 := Option.some.inj ((show Tryz.prog.funcNamed "insolvency/insolvencylaw24.PayoutExact" = some 7 by kernel_rfl).symm.trans hf) |>.symm
      obtain rfl : fn = Tryz.f7 := (Option.some.inj (Tryz.func7.symm.trans hfn)).symm
      exact ⟨by kernel_rfl, fun j t ht => by
        rw [Tryz.params7] at ht
        have hm : t ∈ [46] := by simpa using Array.mem_of_getElem? ht
        have hall : ([46].all fun u => !Tryz.prog.wantsStandIn u) = true := by kernel_rfl
        exact (show Tryz.prog.wantsStandIn t = false by simpa using List.all_eq_true.1 hall t hm)⟩)
    (by kernel_rfl)
#print axioms pexact_holds
#print axioms pexact_card
end Go.Proofs.YtmapmdldlcfjhaaGreatDoor
namespace Go.Proofs.YtmapmdldlcfjhaaGreatDoor
open Go Go.RowKit Go.Sx Go.ChangeShapes Go.WideShapes Go.ChangeAt
set_option maxRecDepth 100000 in
theorem pnever_lifted (os : Os) (started : os.Started) (H : Type) (enc : TypeId × Value → H) :
    ReturnsInHanded {} Tryz.checked os 10 .any (fun w args => (Rows.payoutNeverSpec.pre enc Tryz.prog Tryz.f10 Rows.payoutNeverRow.domain false w args ∧ laidMetH Tryz.prog Rows.payoutNeverRow.laid w) ∧ sizedMet enc Tryz.prog Tryz.f10 (OpenSpec.ofChange Rows.payoutNeverSpec) false w args)
      (Rows.payoutNeverSpec.post enc Tryz.prog Tryz.f10 false true false false) := by
  refine returnsInHanded_of_change_and (C := Tryz.checked) (X := fun w _ => laidMetH Tryz.prog Rows.payoutNeverRow.laid w) (fun _ _ _ hh h => h.of_heap hh) ownNone started (by kernel_rfl) Tryz.func10
    (ChangeSpec.witness_shaped (enc := enc) (C := Tryz.checked) (os := os) (X := fun w _ => laidMetH Tryz.prog Rows.payoutNeverRow.laid w) false (World.laidAll Tryz.prog os Rows.payoutNeverRow.laid) #[.slice none 0 0, .slice none 0 0] 8 (World.laidAll_os _ _ _)
      (World.shaped_of_ZipB (by kernel_rfl) (by kernel_rfl)) (by kernel_rfl) (by kernel_rfl) (by kernel_rfl)
      (by rw [MakeChecks.laidMetH_plain _ _ _ (by kernel_rfl)]; exact laidMet_laidAll _ (by kernel_rfl) (by kernel_rfl))) ?_
  intro W base args ds gs before hval0 hW hc _ hL _
  have hval : ∀ (j : Nat) t v, Tryz.f10.params[j]? = some t → args[j]? = some v → Value.okWide Tryz.prog W .any base t v := hval0
  have hW' := hW
  obtain ⟨p, q, hA0, hV, rfl, _, _⟩ := hW
  have hA : DataW.TrodAll enc Tryz.prog W 0 (fun _ => true) true Tryz.f10.params.toList args.toList ds p := hA0
  rw [Tryz.params10] at hA hval
  obtain ⟨v0, v1, d0, d1, p0, p1, rfl, rfl, rfl, h0, h1⟩ := trodAll_two hA
  obtain ⟨rfl, rfl⟩ := trodVars_none hV
  obtain ⟨a0, ha0, hab0⟩ := open_u16s Tryz.underlying46 Tryz.underlying79 (by kernel_rfl) (hval 0 46 v0 rfl rfl) h0
  obtain ⟨s1, hs1, hsb1⟩ := open_u8rows Tryz.underlying59 Tryz.underlying60 Tryz.underlying5 (by kernel_rfl) (by kernel_rfl) (okWide_slice Tryz.underlying59 (hval 1 59 v1 rfl rfl)) h1
  refine (PayoutNever_ok v0 v1 a0 s1 W ha0 hab0 hs1 hsb1).mono ?_
  rintro v W' ⟨rfl, hB⟩
  exact law_post (f := Tryz.f10) (s := Rows.payoutNeverSpec) laidOut hW' (fun t ht => by
    have hm : t ∈ [46, 59] := by rw [Tryz.params10] at ht; simpa using ht
    have hall : ([46, 59].all fun t => Tryz.prog.readableRec t && decide (t < Tryz.prog.types.size)) = true := by kernel_rfl
    have h2 := List.all_eq_true.1 hall t hm
    rw [Bool.and_eq_true, decide_eq_true_eq] at h2
    exact h2) rfl hB (trodAll_mk1 (shut_bool Tryz.underlying4 _)) rfl rfl
theorem pnever_holds : Rows.PayoutNeverSaid :=
  OpenClaim.holds_of_wide 10 Tryz.f10 rfl rfl rfl rfl rfl rfl rfl ⟨rfl, rfl, rfl, rfl, rfl⟩ rfl rfl rfl rfl rfl (by kernel_rfl) Tryz.func10 (by kernel_rfl)
    (of_decide_eq_true (by kernel_rfl)) (by unfold Func.isWrapper; first | (rw [if_pos (by decide +kernel)]; kernel_rfl) | (rw [if_neg (by decide +kernel)]; exact ⟨rfl, rfl⟩))
    (fun os started H enc _ => pnever_lifted os started H enc)
theorem pnever_card : Rows.PayoutNeverCardSaid :=
  Claim7.holds_tied_plain_at .later [] [.data, .pinned] true (true, "d8bef88e8f38c7d6e5a1f7b1e7a5deb5cc93ed4e86259d20dc624cf221897df7") false pnever_holds (fun _ h => by cases h) (by kernel_rfl) (fun _ h => by cases h) payoutNever_row_tie rfl ⟨rfl, rfl⟩ (by kernel_rfl) rfl
    (fun f fn hf hfn => by
      obtain rfl : f = 10 := Option.some.inj ((show Tryz.prog.funcNamed "insolvency/insolvencylaw24.PayoutNever" = some 10 by kernel_rfl).symm.trans hf) |>.symm
      obtain rfl : fn = Tryz.f10 := (Option.some.inj (Tryz.func10.symm.trans hfn)).symm
      exact ⟨by kernel_rfl, fun j t ht => by
        rw [Tryz.params10] at ht
        have hm : t ∈ [46, 59] := by simpa using Array.mem_of_getElem? ht
        have hall : ([46, 59].all fun u => !Tryz.prog.wantsStandIn u) = true := by kernel_rfl
        exact (show Tryz.prog.wantsStandIn t = false by simpa using List.all_eq_true.1 hall t hm)⟩)
    (by kernel_rfl)
#print axioms pnever_holds
#print axioms pnever_card
end Go.Proofs.YtmapmdldlcfjhaaGreatDoor
