/-
  PROVED: for every input LinearRows returns true, and each argument reads afterwards as it read before; the tables that its row lists read as the program's text lays them.
-/
import Derived.Test.YtblfipdfklpmmaaDoorPo7
import Derived.Test.YtblfipdfklpmmaaDoorCards
namespace Go.Proofs.YtblfipdfklpmmaaDoor
open Go Go.RowKit Go.Sx Go.ChangeShapes Go.WideShapes Go.ChangeAt
set_option maxRecDepth 100000 in
theorem lscale_lifted (os : Os) (started : os.Started) (H : Type) (enc : TypeId × Value → H) :
    ReturnsInHanded {} Tryd.checked os 4 .any (fun w args => (Rows.linearScaleSpec.pre enc Tryd.prog Tryd.f4 Rows.linearScaleRow.domain false w args ∧ laidMetH Tryd.prog Rows.linearScaleRow.laid w) ∧ sizedMet enc Tryd.prog Tryd.f4 (OpenSpec.ofChange Rows.linearScaleSpec) false w args)
      (Rows.linearScaleSpec.post enc Tryd.prog Tryd.f4 false true false false) := by
  refine returnsInHanded_of_change_and (C := Tryd.checked) (X := fun w _ => laidMetH Tryd.prog Rows.linearScaleRow.laid w) (fun _ _ _ hh h => h.of_heap hh) ownNone started (by kernel_rfl) Tryd.func4
    (ChangeSpec.witness_shaped (enc := enc) (C := Tryd.checked) (os := os) (X := fun w _ => laidMetH Tryd.prog Rows.linearScaleRow.laid w) false (World.laidAll Tryd.prog os Rows.linearScaleRow.laid) #[.int .u8 0, .slice none 0 0, .int .u8 0, .int .u16 0] 8 (World.laidAll_os _ _ _)
      (World.shaped_of_ZipB (by kernel_rfl) (by kernel_rfl)) (by kernel_rfl) (by kernel_rfl) (by kernel_rfl)
      (by rw [MakeChecks.laidMetH_plain _ _ _ (by kernel_rfl)]; exact laidMet_laidAll _ (by kernel_rfl) (by kernel_rfl))) ?_
  intro W base args ds gs before hval0 hW hc _ hL _
  have hval : ∀ (j : Nat) t v, Tryd.f4.params[j]? = some t → args[j]? = some v → Value.okWide Tryd.prog W .any base t v := hval0
  have hW' := hW
  obtain ⟨p, q, hA0, hV, rfl, _, _⟩ := hW
  have hA : DataW.TrodAll enc Tryd.prog W 0 (fun _ => true) true Tryd.f4.params.toList args.toList ds p := hA0
  rw [Tryd.params4] at hA hval
  obtain ⟨v0, r0, d0, e0, p0, q0, hq0, rfl, rfl, h0, hA1⟩ := trodAll_cons hA
  obtain ⟨v1, v2, v3, d1, d2, d3, p1, p2, p3, hq1, rfl, rfl, h1, h2, h3⟩ := trodAll_three (args := r0.toArray) (by simpa using hA1)
  obtain rfl : r0 = [v1, v2, v3] := by simpa using congrArg Array.toList hq1
  obtain rfl : args = #[v0, v1, v2, v3] := by cases args; simp_all
  obtain ⟨rfl, rfl⟩ := trodVars_none hV
  obtain ⟨x0, rfl, rfl, rfl, wx0⟩ := open_int Tryd.underlying5 (hval 0 5 v0 rfl rfl) h0
  have hx0 := bounds_u8 wx0
  obtain ⟨b0, rfl⟩ : ∃ b : Nat, x0 = b := ⟨x0.toNat, by omega⟩
  obtain ⟨a1, ha1, hab1⟩ := open_u16s Tryd.underlying22 Tryd.underlying23 (by kernel_rfl) (hval 1 22 v1 rfl rfl) h1
  obtain ⟨x2, rfl, rfl, rfl, wx2⟩ := open_int Tryd.underlying5 (hval 2 5 v2 rfl rfl) h2
  have hx2 := bounds_u8 wx2
  obtain ⟨b2, rfl⟩ : ∃ b : Nat, x2 = b := ⟨x2.toNat, by omega⟩
  obtain ⟨x3, rfl, rfl, rfl, wx3⟩ := open_int Tryd.underlying23 (hval 3 23 v3 rfl rfl) h3
  have hx3 := bounds_u16 wx3
  obtain ⟨b3, rfl⟩ : ∃ b : Nat, x3 = b := ⟨x3.toNat, by omega⟩
  refine (LinearScale_ok b0 v1 a1 b2 b3 W ha1 hab1 (by omega) (by omega)).mono ?_
  rintro v W' ⟨rfl, hB⟩
  exact law_post (f := Tryd.f4) (s := Rows.linearScaleSpec) laidOut hW' (fun t ht => by
    have hm : t ∈ [5, 22, 5, 23] := by rw [Tryd.params4] at ht; simpa using ht
    have hall : ([5, 22, 5, 23].all fun t => Tryd.prog.readableRec t && decide (t < Tryd.prog.types.size)) = true := by kernel_rfl
    have h2 := List.all_eq_true.1 hall t hm
    rw [Bool.and_eq_true, decide_eq_true_eq] at h2
    exact h2) rfl hB (trodAll_mk1 (shut_bool Tryd.underlying4 _)) rfl rfl
theorem lscale_holds : Rows.LinearScaleSaid :=
  OpenClaim.holds_of_wide 4 Tryd.f4 rfl rfl rfl rfl rfl rfl rfl ⟨rfl, rfl, rfl, rfl, rfl⟩ rfl rfl rfl rfl rfl (by kernel_rfl) Tryd.func4 (by kernel_rfl)
    (of_decide_eq_true (by kernel_rfl)) (by unfold Func.isWrapper; first | (rw [if_pos (by decide +kernel)]; kernel_rfl) | (rw [if_neg (by decide +kernel)]; exact ⟨rfl, rfl⟩))
    (fun os started H enc _ => lscale_lifted os started H enc)
theorem lscale_card : Rows.LinearScaleCardSaid :=
  Claim7.holds_tied_plain_at .later [] [.data, .pinned] true (true, "3a4619a05de6910f0ed04f9e0d203a8a91cd56f39489225d71e2cf4ff9a67c7f") false lscale_holds (fun _ h => by cases h) (by kernel_rfl) (fun _ h => by cases h) linearScale_row_tie rfl ⟨rfl, rfl⟩ (by kernel_rfl) rfl
    (fun f fn hf hfn => by
      obtain rfl : f = 4 := Option.some.inj ((show Tryd.prog.funcNamed "insolvency/insolvencylaw3.LinearScale" = some 4 by kernel_rfl).symm.trans hf) |>.symm
      obtain rfl : fn = Tryd.f4 := (Option.some.inj (Tryd.func4.symm.trans hfn)).symm
      exact ⟨by kernel_rfl, fun j t ht => by
        rw [Tryd.params4] at ht
        have hm : t ∈ [5, 22, 5, 23] := by simpa using Array.mem_of_getElem? ht
        have hall : ([5, 22, 5, 23].all fun u => !Tryd.prog.wantsStandIn u) = true := by kernel_rfl
        exact (show Tryd.prog.wantsStandIn t = false by simpa using List.all_eq_true.1 hall t hm)⟩)
    (by kernel_rfl)
#print axioms lscale_holds
#print axioms lscale_card
end Go.Proofs.YtblfipdfklpmmaaDoor
namespace Go.Proofs.YtblfipdfklpmmaaDoor
open Go Go.RowKit Go.Sx Go.ChangeShapes Go.WideShapes Go.ChangeAt
set_option maxRecDepth 100000 in
theorem lrows_lifted (os : Os) (started : os.Started) (H : Type) (enc : TypeId × Value → H) :
    ReturnsInHanded {} Tryd.checked os 3 .any (fun w args => (Rows.linearRowsSpec.pre enc Tryd.prog Tryd.f3 Rows.linearRowsRow.domain false w args ∧ laidMetH Tryd.prog Rows.linearRowsRow.laid w) ∧ sizedMet enc Tryd.prog Tryd.f3 (OpenSpec.ofChange Rows.linearRowsSpec) false w args)
      (Rows.linearRowsSpec.post enc Tryd.prog Tryd.f3 false true false false) := by
  refine returnsInHanded_of_change_and (C := Tryd.checked) (X := fun w _ => laidMetH Tryd.prog Rows.linearRowsRow.laid w) (fun _ _ _ hh h => h.of_heap hh) ownNone started (by kernel_rfl) Tryd.func3
    (ChangeSpec.witness_shaped (enc := enc) (C := Tryd.checked) (os := os) (X := fun w _ => laidMetH Tryd.prog Rows.linearRowsRow.laid w) false (World.laidAll Tryd.prog os Rows.linearRowsRow.laid) #[.int .u8 0, .int .u8 0, .slice none 0 0, .int .u8 0, .int .u8 0, .int .u16 0] 8 (World.laidAll_os _ _ _)
      (World.shaped_of_ZipB (by kernel_rfl) (by kernel_rfl)) (by kernel_rfl) (by kernel_rfl) (by kernel_rfl)
      (by rw [MakeChecks.laidMetH_plain _ _ _ (by kernel_rfl)]; exact laidMet_laidAll _ (by kernel_rfl) (by kernel_rfl))) ?_
  intro W base args ds gs before hval0 hW hc _ hL _
  have hval : ∀ (j : Nat) t v, Tryd.f3.params[j]? = some t → args[j]? = some v → Value.okWide Tryd.prog W .any base t v := hval0
  have hW' := hW
  obtain ⟨p, q, hA0, hV, rfl, _, _⟩ := hW
  have hA : DataW.TrodAll enc Tryd.prog W 0 (fun _ => true) true Tryd.f3.params.toList args.toList ds p := hA0
  rw [Tryd.params3] at hA hval
  obtain ⟨v0, r0, d0, e0, p0, q0, hq0, rfl, rfl, h0, hA1⟩ := trodAll_cons hA
  obtain ⟨v1, r1, d1, e1, p1, q1, rfl, rfl, rfl, h1, hA2⟩ := trodAll_cons hA1
  obtain ⟨v2, r2, d2, e2, p2, q2, rfl, rfl, rfl, h2, hA3⟩ := trodAll_cons hA2
  obtain ⟨v3, v4, v5, d3, d4, d5, p3, p4, p5, hq3, rfl, rfl, h3, h4, h5⟩ := trodAll_three (args := r2.toArray) (by simpa using hA3)
  obtain rfl : r2 = [v3, v4, v5] := by simpa using congrArg Array.toList hq3
  obtain rfl : args = #[v0, v1, v2, v3, v4, v5] := by cases args; simp_all
  obtain ⟨rfl, rfl⟩ := trodVars_none hV
  obtain ⟨x0, rfl, rfl, rfl, wx0⟩ := open_int Tryd.underlying5 (hval 0 5 v0 rfl rfl) h0
  have hx0 := bounds_u8 wx0
  obtain ⟨b0, rfl⟩ : ∃ b : Nat, x0 = b := ⟨x0.toNat, by omega⟩
  obtain ⟨x1, rfl, rfl, rfl, wx1⟩ := open_int Tryd.underlying5 (hval 1 5 v1 rfl rfl) h1
  have hx1 := bounds_u8 wx1
  obtain ⟨b1, rfl⟩ : ∃ b : Nat, x1 = b := ⟨x1.toNat, by omega⟩
  obtain ⟨a2, ha2, hab2⟩ := open_u16s Tryd.underlying22 Tryd.underlying23 (by kernel_rfl) (hval 2 22 v2 rfl rfl) h2
  obtain ⟨x3, rfl, rfl, rfl, wx3⟩ := open_int Tryd.underlying5 (hval 3 5 v3 rfl rfl) h3
  have hx3 := bounds_u8 wx3
  obtain ⟨b3, rfl⟩ : ∃ b : Nat, x3 = b := ⟨x3.toNat, by omega⟩
  obtain ⟨x4, rfl, rfl, rfl, wx4⟩ := open_int Tryd.underlying5 (hval 4 5 v4 rfl rfl) h4
  have hx4 := bounds_u8 wx4
  obtain ⟨b4, rfl⟩ : ∃ b : Nat, x4 = b := ⟨x4.toNat, by omega⟩
  obtain ⟨x5, rfl, rfl, rfl, wx5⟩ := open_int Tryd.underlying23 (hval 5 23 v5 rfl rfl) h5
  have hx5 := bounds_u16 wx5
  obtain ⟨b5, rfl⟩ : ∃ b : Nat, x5 = b := ⟨x5.toNat, by omega⟩
  refine (LinearRows_ok b0 b1 v2 a2 b3 b4 b5 W ha2 hab2 (by omega) (by omega) (by omega)).mono ?_
  rintro v W' ⟨rfl, hB⟩
  exact law_post (f := Tryd.f3) (s := Rows.linearRowsSpec) laidOut hW' (fun t ht => by
    have hm : t ∈ [5, 5, 22, 5, 5, 23] := by rw [Tryd.params3] at ht; simpa using ht
    have hall : ([5, 5, 22, 5, 5, 23].all fun t => Tryd.prog.readableRec t && decide (t < Tryd.prog.types.size)) = true := by kernel_rfl
    have h2 := List.all_eq_true.1 hall t hm
    rw [Bool.and_eq_true, decide_eq_true_eq] at h2
    exact h2) rfl hB (trodAll_mk1 (shut_bool Tryd.underlying4 _)) rfl rfl
theorem lrows_holds : Rows.LinearRowsSaid :=
  OpenClaim.holds_of_wide 3 Tryd.f3 rfl rfl rfl rfl rfl rfl rfl ⟨rfl, rfl, rfl, rfl, rfl⟩ rfl rfl rfl rfl rfl (by kernel_rfl) Tryd.func3 (by kernel_rfl)
    (of_decide_eq_true (by kernel_rfl)) (by unfold Func.isWrapper; first | (rw [if_pos (by decide +kernel)]; kernel_rfl) | (rw [if_neg (by decide +kernel)]; exact ⟨rfl, rfl⟩))
    (fun os started H enc _ => lrows_lifted os started H enc)
theorem lrows_card : Rows.LinearRowsCardSaid :=
  Claim7.holds_tied_plain_at .later [] [.data, .pinned] true (true, "3a4619a05de6910f0ed04f9e0d203a8a91cd56f39489225d71e2cf4ff9a67c7f") false lrows_holds (fun _ h => by cases h) (by kernel_rfl) (fun _ h => by cases h) linearRows_row_tie rfl ⟨rfl, rfl⟩ (by kernel_rfl) rfl
    (fun f fn hf hfn => by
      obtain rfl : f = 3 := Option.some.inj ((show Tryd.prog.funcNamed "insolvency/insolvencylaw3.LinearRows" = some 3 by kernel_rfl).symm.trans hf) |>.symm
      obtain rfl : fn = Tryd.f3 := (Option.some.inj (Tryd.func3.symm.trans hfn)).symm
      exact ⟨by kernel_rfl, fun j t ht => by
        rw [Tryd.params3] at ht
        have hm : t ∈ [5, 5, 22, 5, 5, 23] := by simpa using Array.mem_of_getElem? ht
        have hall : ([5, 5, 22, 5, 5, 23].all fun u => !Tryd.prog.wantsStandIn u) = true := by kernel_rfl
        exact (show Tryd.prog.wantsStandIn t = false by simpa using List.all_eq_true.1 hall t hm)⟩)
    (by kernel_rfl)
#print axioms lrows_holds
#print axioms lrows_card
end Go.Proofs.YtblfipdfklpmmaaDoor
