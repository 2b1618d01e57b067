/-
  PROVED: for every input PayoutInterim returns true, and each argument reads afterwards as it read before; the tables that its row lists read as the program's text lays them.
-/
import Derived.Test.YtmapmdldlcfjhaaGreatDoorLawUv
import Derived.Test.YtmapmdldlcfjhaaGreatDoorCards
namespace Go.Proofs.YtmapmdldlcfjhaaGreatDoor
open Go Go.RowKit Go.Sx Go.ChangeShapes Go.WideShapes Go.ChangeAt

set_option maxRecDepth 100000 in
theorem pinterim_lifted (os : Os) (started : os.Started) (H : Type) (enc : TypeId × Value → H) :
    ReturnsInHanded {} Tryz.checked os 9 .any (fun w args => (Rows.payoutInterimSpec.pre enc Tryz.prog Tryz.f9 Rows.payoutInterimRow.domain false w args ∧ laidMetH Tryz.prog Rows.payoutInterimRow.laid w) ∧ sizedMet enc Tryz.prog Tryz.f9 (OpenSpec.ofChange Rows.payoutInterimSpec) false w args)
      (Rows.payoutInterimSpec.post enc Tryz.prog Tryz.f9 false true false false) := by
  refine returnsInHanded_of_change_and (C := Tryz.checked) (X := fun w _ => laidMetH Tryz.prog Rows.payoutInterimRow.laid w) (fun _ _ _ hh h => h.of_heap hh) ownNone started (by kernel_rfl) Tryz.func9
    (ChangeSpec.witness_shaped (enc := enc) (C := Tryz.checked) (os := os) (X := fun w _ => laidMetH Tryz.prog Rows.payoutInterimRow.laid w) false (World.laidAll Tryz.prog os Rows.payoutInterimRow.laid) #[.slice none 0 0, .slice none 0 0, .slice none 0 0, .slice none 0 0] 8 (World.laidAll_os _ _ _)
      (World.shaped_of_ZipB (by kernel_rfl) (by kernel_rfl)) (by kernel_rfl) (by kernel_rfl) (by kernel_rfl)
      (by rw [MakeChecks.laidMetH_plain _ _ _ (by kernel_rfl)]; exact laidMet_laidAll _ (by kernel_rfl) (by kernel_rfl))) ?_
  intro W base args ds gs before hval0 hW hc _ hL _
  have hval : ∀ (j : Nat) t v, Tryz.f9.params[j]? = some t → args[j]? = some v → Value.okWide Tryz.prog W .any base t v := hval0
  have hW' := hW
  obtain ⟨p, q, hA0, hV, rfl, _, _⟩ := hW
  have hA : DataW.TrodAll enc Tryz.prog W 0 (fun _ => true) true Tryz.f9.params.toList args.toList ds p := hA0
  rw [Tryz.params9] at hA hval
  obtain ⟨v0, r0, d0, e0, p0, q0, ha0, rfl, rfl, h0, hA1⟩ := trodAll_cons hA
  obtain ⟨v1, v2, v3, d1, d2, d3, p1, p2, p3, ha1, rfl, rfl, h1, h2, h3⟩ := trodAll_three (args := r0.toArray) (by simpa using hA1)
  obtain rfl : r0 = [v1, v2, v3] := by simpa using congrArg Array.toList ha1
  obtain rfl : args = #[v0, v1, v2, v3] := by cases args; simp_all
  obtain ⟨rfl, rfl⟩ := trodVars_none hV
  obtain ⟨i0, hi0, hib0⟩ := open_i64s Tryz.underlying25 Tryz.underlying2 (by kernel_rfl) (hval 0 25 v0 rfl rfl) h0
  obtain ⟨r1, hr1, hrb1⟩ := open_rats (okWide_slice Tryz.underlying22 (hval 1 22 v1 rfl rfl)) h1
  obtain ⟨a2, ha2, hab2⟩ := open_u16s Tryz.underlying46 Tryz.underlying79 (by kernel_rfl) (hval 2 46 v2 rfl rfl) h2
  obtain ⟨a3, ha3, hab3⟩ := open_u16s Tryz.underlying46 Tryz.underlying79 (by kernel_rfl) (hval 3 46 v3 rfl rfl) h3
  refine (PayoutInterim_ok v0 v1 v2 v3 i0 r1 a2 a3 W hi0 hib0 hr1 ha2 hab2 ha3 hab3).mono ?_
  rintro v W' ⟨rfl, hB⟩
  exact law_post (f := Tryz.f9) (s := Rows.payoutInterimSpec) laidOut hW' (fun t ht => by
    have hm : t ∈ [25, 22, 46, 46] := by rw [Tryz.params9] at ht; simpa using ht
    have hall : ([25, 22, 46, 46].all fun t => Tryz.prog.readableRec t && decide (t < Tryz.prog.types.size)) = true := by kernel_rfl
    have h2 := List.all_eq_true.1 hall t hm
    rw [Bool.and_eq_true, decide_eq_true_eq] at h2
    exact h2) rfl hB (trodAll_mk1 (shut_bool Tryz.underlying4 _)) rfl rfl

theorem pinterim_holds : Rows.PayoutInterimSaid :=
  OpenClaim.holds_of_wide 9 Tryz.f9 rfl rfl rfl rfl rfl rfl rfl ⟨rfl, rfl, rfl, rfl, rfl⟩ rfl rfl rfl rfl rfl (by kernel_rfl) Tryz.func9 (by kernel_rfl)
    (of_decide_eq_true (by kernel_rfl)) (by unfold Func.isWrapper; first | (rw [if_pos (by decide +kernel)]; kernel_rfl) | (rw [if_neg (by decide +kernel)]; exact ⟨rfl, rfl⟩))
    (fun os started H enc _ => pinterim_lifted os started H enc)
theorem pinterim_card : Rows.PayoutInterimCardSaid :=
  Claim7.holds_tied_plain_at .later [] [.data, .pinned] true (true, "d8bef88e8f38c7d6e5a1f7b1e7a5deb5cc93ed4e86259d20dc624cf221897df7") false pinterim_holds (fun _ h => by cases h) (by kernel_rfl) (fun _ h => by cases h) payoutInterim_row_tie rfl ⟨rfl, rfl⟩ (by kernel_rfl) rfl
    (fun f fn hf hfn => by
      obtain rfl : f = 9 := Option.some.inj ((show Tryz.prog.funcNamed "insolvency/insolvencylaw24.PayoutInterim" = some 9 by kernel_rfl).symm.trans hf) |>.symm
      obtain rfl : fn = Tryz.f9 := (Option.some.inj (Tryz.func9.symm.trans hfn)).symm
      exact ⟨by kernel_rfl, fun j t ht => by
        rw [Tryz.params9] at ht
        have hm : t ∈ [25, 22, 46, 46] := by simpa using Array.mem_of_getElem? ht
        have hall : ([25, 22, 46, 46].all fun u => !Tryz.prog.wantsStandIn u) = true := by kernel_rfl
        exact (show Tryz.prog.wantsStandIn t = false by simpa using List.all_eq_true.1 hall t hm)⟩)
    (by kernel_rfl)
#print axioms pinterim_holds
#print axioms pinterim_card
end Go.Proofs.YtmapmdldlcfjhaaGreatDoor
