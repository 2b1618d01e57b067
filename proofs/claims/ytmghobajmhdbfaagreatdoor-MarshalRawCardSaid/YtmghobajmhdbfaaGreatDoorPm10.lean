/-
  PROVED: for every input MarshalRaw returns true, and each argument reads afterwards as it read before; the tables that its row lists read as the program's text lays them.
-/
import Derived.Test.YtmghobajmhdbfaaGreatDoorPm9
import Derived.Test.YtmghobajmhdbfaaGreatDoorCards
namespace Go.Proofs.YtmghobajmhdbfaaGreatDoor
open Go Go.RowKit Go.Sx Go.ChangeShapes Go.WideShapes Go.ChangeAt
set_option maxRecDepth 100000 in
theorem mraw_lifted (os : Os) (started : os.Started) (H : Type) (enc : TypeId × Value → H) :
    ReturnsInHanded {} Tryz.checked os 4 .any (fun w args => (Rows.marshalRawSpec.pre enc Tryz.prog Tryz.f4 Rows.marshalRawRow.domain false w args ∧ laidMetH Tryz.prog Rows.marshalRawRow.laid w) ∧ sizedMet enc Tryz.prog Tryz.f4 (OpenSpec.ofChange Rows.marshalRawSpec) false w args)
      (Rows.marshalRawSpec.post enc Tryz.prog Tryz.f4 false true false false) := by
  refine returnsInHanded_of_change_and (C := Tryz.checked) (X := fun w _ => laidMetH Tryz.prog Rows.marshalRawRow.laid w) (fun _ _ _ hh h => h.of_heap hh) ownNone started (by kernel_rfl) Tryz.func4
    (ChangeSpec.witness_shaped (enc := enc) (C := Tryz.checked) (os := os) (X := fun w _ => laidMetH Tryz.prog Rows.marshalRawRow.laid w) false (World.laidAll Tryz.prog os Rows.marshalRawRow.laid) #[.slice none 0 0, .slice none 0 0, .slice none 0 0] 8 (World.laidAll_os _ _ _)
      (World.shaped_of_ZipB (by kernel_rfl) (by kernel_rfl)) (by kernel_rfl) (by kernel_rfl) (by kernel_rfl)
      (by rw [MakeChecks.laidMetH_plain _ _ _ (by kernel_rfl)]; exact laidMet_laidAll _ (by kernel_rfl) (by kernel_rfl))) ?_
  intro W base args ds gs before hval0 hW hc _ hL _
  have hval : ∀ (j : Nat) t v, Tryz.f4.params[j]? = some t → args[j]? = some v → Value.okWide Tryz.prog W .any base t v := hval0
  have hW' := hW
  obtain ⟨p, q, hA0, hV, rfl, _, _⟩ := hW
  have hA : DataW.TrodAll enc Tryz.prog W 0 (fun _ => true) true Tryz.f4.params.toList args.toList ds p := hA0
  rw [Tryz.params4] at hA hval
  obtain ⟨v0, v1, v2, d0, d1, d2, p0, p1, p2, rfl, rfl, rfl, h0, h1, h2⟩ := trodAll_three hA
  obtain ⟨rfl, rfl⟩ := trodVars_none hV
  obtain ⟨X0, cvs0, hX0⟩ := open_items (okWide_slice Tryz.underlying26 (hval 0 26 v0 rfl rfl)) h0
  obtain ⟨r1, hr1, hrb1⟩ := open_rats (okWide_slice Tryz.underlying24 (hval 1 24 v1 rfl rfl)) h1
  obtain ⟨i2, hi2, hib2⟩ := open_i64s Tryz.underlying47 Tryz.underlying3 (by kernel_rfl) (hval 2 47 v2 rfl rfl) h2
  have hT := tz_at hL (by kernel_rfl)
  refine (MarshalRaw_ok v0 v1 v2 X0 cvs0 r1 i2 W hX0 hr1 hi2 hT).mono ?_
  rintro v W' ⟨rfl, hB⟩
  exact law_post (f := Tryz.f4) (s := Rows.marshalRawSpec) laidOut hW' (fun t ht => by
    have hm : t ∈ [26, 24, 47] := by rw [Tryz.params4] at ht; simpa using ht
    have hall : ([26, 24, 47].all fun t => Tryz.prog.readableRec t && decide (t < Tryz.prog.types.size)) = true := by kernel_rfl
    have h2 := List.all_eq_true.1 hall t hm
    rw [Bool.and_eq_true, decide_eq_true_eq] at h2
    exact h2) rfl hB (trodAll_mk1 (shut_bool Tryz.underlying4 _)) rfl rfl
theorem mraw_holds : Rows.MarshalRawSaid :=
  OpenClaim.holds_of_wide 4 Tryz.f4 rfl rfl rfl rfl rfl rfl rfl ⟨rfl, rfl, rfl, rfl, rfl⟩ rfl rfl rfl rfl rfl (by kernel_rfl) Tryz.func4 (by kernel_rfl)
    (of_decide_eq_true (by kernel_rfl)) (by unfold Func.isWrapper; first | (rw [if_pos (by decide +kernel)]; kernel_rfl) | (rw [if_neg (by decide +kernel)]; exact ⟨rfl, rfl⟩))
    (fun os started H enc _ => mraw_lifted os started H enc)
theorem mraw_card : Rows.MarshalRawCardSaid :=
  Claim7.holds_tied_plain_at .later [] [.data, .data, .data, .pinned] true (true, "c020b96e3837c8bb69e02ed51b25f21ca70c41adebfd94865117f11def0a6aef") false mraw_holds (fun _ h => by cases h) (by kernel_rfl) (fun _ h => by cases h) marshalRaw_row_tie rfl ⟨rfl, rfl⟩ (by kernel_rfl) rfl
    (fun f fn hf hfn => by
      obtain rfl : f = 4 := Option.some.inj ((show Tryz.prog.funcNamed "insolvency/insolvencylaw16.MarshalRaw" = some 4 by kernel_rfl).symm.trans hf) |>.symm
      obtain rfl : fn = Tryz.f4 := (Option.some.inj (Tryz.func4.symm.trans hfn)).symm
      exact ⟨by kernel_rfl, fun j t ht => by
        rw [Tryz.params4] at ht
        have hm : t ∈ [26, 24, 47] := by simpa using Array.mem_of_getElem? ht
        have hall : ([26, 24, 47].all fun u => !Tryz.prog.wantsStandIn u) = true := by kernel_rfl
        exact (show Tryz.prog.wantsStandIn t = false by simpa using List.all_eq_true.1 hall t hm)⟩)
    (by kernel_rfl)
#print axioms mraw_holds
#print axioms mraw_card
end Go.Proofs.YtmghobajmhdbfaaGreatDoor
