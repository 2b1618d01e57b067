/-
  PROVED: for every input SetoffOneSided returns true, and each argument reads afterwards as it read before; the tables that its row lists read as the program's text lays them.
-/
import Derived.Test.YtdafaibhiobpaaaDoorLawOt
import Derived.Test.YtdafaibhiobpaaaDoorCards
namespace Go.Proofs.YtdafaibhiobpaaaDoor
open Go Go.RowKit Go.Sx Go.ChangeShapes Go.WideShapes Go.ChangeAt

set_option maxRecDepth 100000 in
theorem onesided_lifted (os : Os) (started : os.Started) (H : Type) (enc : TypeId × Value → H) :
    ReturnsInHanded {} Tryd.checked os 9 .any (fun w args => (Rows.setoffOneSidedSpec.pre enc Tryd.prog Tryd.f9 Rows.setoffOneSidedRow.domain false w args ∧ laidMetH Tryd.prog Rows.setoffOneSidedRow.laid w) ∧ sizedMet enc Tryd.prog Tryd.f9 (OpenSpec.ofChange Rows.setoffOneSidedSpec) false w args)
      (Rows.setoffOneSidedSpec.post enc Tryd.prog Tryd.f9 false true false false) := by
  refine returnsInHanded_of_change_and (C := Tryd.checked) (X := fun w _ => laidMetH Tryd.prog Rows.setoffOneSidedRow.laid w) (fun _ _ _ hh h => h.of_heap hh) ownNone started (by kernel_rfl) Tryd.func9
    (ChangeSpec.witness_shaped (enc := enc) (C := Tryd.checked) (os := os) (X := fun w _ => laidMetH Tryd.prog Rows.setoffOneSidedRow.laid w) false (World.laidAll Tryd.prog os Rows.setoffOneSidedRow.laid) #[.slice none 0 0, .int .u8 0, .int .u8 0, .int .u8 0, .int .u8 0] 8 (World.laidAll_os _ _ _)
      (World.shaped_of_ZipB (by kernel_rfl) (by kernel_rfl)) (by kernel_rfl) (by kernel_rfl) (by kernel_rfl)
      (by rw [MakeChecks.laidMetH_plain _ _ _ (by kernel_rfl)]; exact laidMet_laidAll _ (by kernel_rfl) (by kernel_rfl))) ?_
  intro W base args ds gs before hval0 hW hc _ hL _
  have hval : ∀ (j : Nat) t v, Tryd.f9.params[j]? = some t → args[j]? = some v → Value.okWide Tryd.prog W .any base t v := hval0
  have hW' := hW
  obtain ⟨p, q, hA0, hV, rfl, _, _⟩ := hW
  have hA : DataW.TrodAll enc Tryd.prog W 0 (fun _ => true) true Tryd.f9.params.toList args.toList ds p := hA0
  rw [Tryd.params9] at hA hval
  obtain ⟨v0, r0, d0, e0, p0, q0, ha0, rfl, rfl, h0, hA1⟩ := trodAll_cons hA
  obtain ⟨v1, r1, d1, e1, p1, q1, rfl, rfl, rfl, h1, hA2⟩ := trodAll_cons hA1
  obtain ⟨v2, v3, v4, d2, d3, d4, p2, p3, p4, ha2, rfl, rfl, h2, h3, h4⟩ := trodAll_three (args := r1.toArray) (by simpa using hA2)
  obtain rfl : r1 = [v2, v3, v4] := by simpa using congrArg Array.toList ha2
  obtain rfl : args = #[v0, v1, v2, v3, v4] := by cases args; simp_all
  obtain ⟨rfl, rfl⟩ := trodVars_none hV
  obtain ⟨l0, hl0, hlb0⟩ := open_u16fives Tryd.underlying35 Tryd.underlying46 Tryd.underlying45 (by kernel_rfl) (by kernel_rfl) (hval 0 35 v0 rfl rfl) h0
  obtain ⟨x1, rfl, rfl, rfl, wx1⟩ := open_int Tryd.underlying5 (hval 1 5 v1 rfl rfl) h1
  have hx1 := bounds_u8 wx1
  obtain ⟨b1, rfl⟩ : ∃ b : Nat, x1 = b := ⟨x1.toNat, by omega⟩
  obtain ⟨x2, rfl, rfl, rfl, wx2⟩ := open_int Tryd.underlying5 (hval 2 5 v2 rfl rfl) h2
  have hx2 := bounds_u8 wx2
  obtain ⟨b2, rfl⟩ : ∃ b : Nat, x2 = b := ⟨x2.toNat, by omega⟩
  obtain ⟨x3, rfl, rfl, rfl, wx3⟩ := open_int Tryd.underlying5 (hval 3 5 v3 rfl rfl) h3
  have hx3 := bounds_u8 wx3
  obtain ⟨b3, rfl⟩ : ∃ b : Nat, x3 = b := ⟨x3.toNat, by omega⟩
  obtain ⟨x4, rfl, rfl, rfl, wx4⟩ := open_int Tryd.underlying5 (hval 4 5 v4 rfl rfl) h4
  have hx4 := bounds_u8 wx4
  obtain ⟨b4, rfl⟩ : ∃ b : Nat, x4 = b := ⟨x4.toNat, by omega⟩
  refine (SetoffOneSided_ok v0 l0 b1 b2 b3 b4 W hl0 hlb0 (by omega)).mono ?_
  rintro v W' ⟨rfl, hB⟩
  exact law_post (f := Tryd.f9) (s := Rows.setoffOneSidedSpec) laidOut hW' (fun t ht => by
    have hm : t ∈ [35, 5, 5, 5, 5] := by rw [Tryd.params9] at ht; simpa using ht
    have hall : ([35, 5, 5, 5, 5].all fun t => Tryd.prog.readableRec t && decide (t < Tryd.prog.types.size)) = true := by kernel_rfl
    have h2 := List.all_eq_true.1 hall t hm
    rw [Bool.and_eq_true, decide_eq_true_eq] at h2
    exact h2) rfl hB (trodAll_mk1 (shut_bool Tryd.underlying4 _)) rfl rfl

theorem onesided_holds : Rows.SetoffOneSidedSaid :=
  OpenClaim.holds_of_wide 9 Tryd.f9 rfl rfl rfl rfl rfl rfl rfl ⟨rfl, rfl, rfl, rfl, rfl⟩ rfl rfl rfl rfl rfl (by kernel_rfl) Tryd.func9 (by kernel_rfl)
    (of_decide_eq_true (by kernel_rfl)) (by unfold Func.isWrapper; first | (rw [if_pos (by decide +kernel)]; kernel_rfl) | (rw [if_neg (by decide +kernel)]; exact ⟨rfl, rfl⟩))
    (fun os started H enc _ => onesided_lifted os started H enc)
theorem onesided_card : Rows.SetoffOneSidedCardSaid :=
  Claim7.holds_tied_plain_at .later [] [.data, .pinned] true (true, "2214c92a534b3915568dc2ac712d7b0549b20b59f98067752ae8ef0a274b82a7") false onesided_holds (fun _ h => by cases h) (by kernel_rfl) (fun _ h => by cases h) setoffOneSided_row_tie rfl ⟨rfl, rfl⟩ (by kernel_rfl) rfl
    (fun f fn hf hfn => by
      obtain rfl : f = 9 := Option.some.inj ((show Tryd.prog.funcNamed "insolvency/insolvencylaw14.SetoffOneSided" = some 9 by kernel_rfl).symm.trans hf) |>.symm
      obtain rfl : fn = Tryd.f9 := (Option.some.inj (Tryd.func9.symm.trans hfn)).symm
      exact ⟨by kernel_rfl, fun j t ht => by
        rw [Tryd.params9] at ht
        have hm : t ∈ [35, 5, 5, 5, 5] := by simpa using Array.mem_of_getElem? ht
        have hall : ([35, 5, 5, 5, 5].all fun u => !Tryd.prog.wantsStandIn u) = true := by kernel_rfl
        exact (show Tryd.prog.wantsStandIn t = false by simpa using List.all_eq_true.1 hall t hm)⟩)
    (by kernel_rfl)
#print axioms onesided_holds
#print axioms onesided_card
end Go.Proofs.YtdafaibhiobpaaaDoor
