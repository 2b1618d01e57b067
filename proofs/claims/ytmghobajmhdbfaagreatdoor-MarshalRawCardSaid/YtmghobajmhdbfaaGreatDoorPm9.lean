/-
  Part 9 of the texts that the law's proof is made of: the framework and the walks.
-/
import Derived.Test.YtmghobajmhdbfaaGreatDoorPm8
namespace Go.Proofs.YtmghobajmhdbfaaGreatDoor
open Go Go.RowKit Go.Sx
theorem built_Fl (p o s : Option Addr) (a b c d e f : Nat) : Tryz.prog.built 70 [(0, .agg #[.slice p a b, .slice o c d, .slice s e f])] = some #[.slice p a b, .slice o c d, .slice s e f, .slice none 0 0, .slice none 0 0] := by kernel_rfl
theorem pos_of {owed : List RR} (h : gh owed = false) : Pos owed := by
  intro c hc
  unfold gh at h
  rw [List.any_eq_false] at h
  have := h _ (cb owed c zRR hc)
  unfold owF
  simp only [decide_eq_true_eq] at this
  grind
theorem totF_none {X : List It} {owed : List RR} (h : X.length = 0) (c : Nat) : c8 X owed c = 0 := by
  have e : ∀ k, bR X owed k = 0 := fun k => by
    unfold bR
    split
    · rfl
    · unfold dL
      obtain ⟨i, _, e⟩ := fK (cJ X owed fun i => decide (i < k)) (2 ^ X.length)
      rw [e, dP, show dy X i = 0 by unfold dy; rw [h]; rfl, fJ, Rat.add_zero]
      intro c _ hs
      rw [Bool.and_eq_true] at hs
      obtain ⟨j, hj, _⟩ := (d5 _ _ _).1 hs.2
      omega
  unfold c8
  rw [e, e]; grind
theorem hup_read {P : Program} {N : Nat} {ρ : Nat → Value} {w : World} {o : Oper} {K : Value → World → Prop} (h : eL P N ρ w o fun v => Below w.heap.size w w ∧ K v w) : Hup1 P N ρ w o fun v w' => Below w.heap.size w w' ∧ K v w' := by
  obtain ⟨v, hr, hk⟩ := h
  exact c9 (hr w (Below.refl _ _)) hk
theorem perm3 {α : Type} (A B C : List α) : (A ++ B ++ C).Perm (A ++ C ++ B) := by
  rw [List.append_assoc, List.append_assoc]
  exact List.Perm.append_left _ List.perm_append_comm
theorem nat_less {D a : Nat} {want x : Rat} (hD : 0 < D) (ha : want * (D : Rat) = (a : Rat)) (hM : Mu D want) (hx : 0 < x) (hMx : Mu D x) (hle : x ≤ want) : ∃ a' : Nat, (want - x) * (D : Rat) = (a' : Rat) ∧ a' < a := by
  obtain ⟨a', h1, _, _⟩ := (hM.sub hMx).int hD (by grind) (le_natAbs _)
  refine ⟨a', h1, ?_⟩
  have h2 : (want - x) * (D : Rat) < want * (D : Rat) := Rat.mul_lt_mul_of_pos_right (by grind) (Rat.natCast_pos.2 hD)
  rw [h1, ha] at h2
  exact Rat.natCast_lt_natCast.1 h2
theorem perm6 {α : Type} (x y z : α) (A : List α) : ([x] ++ A ++ [y] ++ [z]).Perm ([x, z] ++ (y :: (A ++ []))) := by
  rw [List.append_nil]
  exact List.Perm.cons _ ((List.perm_append_singleton _ _).trans (List.Perm.cons _ (List.perm_append_singleton _ _)))
theorem perm4 {α : Type} (x y : α) (f : List α) (A B C : List α) : (x :: y :: (f ++ A ++ B ++ C)).Perm (x :: (([y] ++ f ++ A ++ C) ++ B)) := by
  refine List.Perm.cons _ (List.Perm.cons _ ?_)
  show (f ++ A ++ B ++ C).Perm ((f ++ A ++ C) ++ B)
  exact perm3 _ _ _
theorem perm5 {α : Type} (y : α) (f : List α) (A B C : List α) : (([y] ++ f ++ A ++ C) ++ B).Perm (f ++ (y :: A) ++ B ++ C) := by
  refine (perm3 _ _ _).trans (List.Perm.append_right _ (List.Perm.append_right _ ?_))
  exact List.perm_middle.symm
set_option maxHeartbeats 8000000 in
theorem Distribute_ok (vi_ vo : Value) (X : List It) (cvs : List Value) (owed : List RR) (K : Nat) (w : World) (hX : Its w vi_ X cvs) (ho : Sl aC 3 w vo owed) (hXB : ItB K X) (hoB : RB K owed) (hK : 600 * K + 600 ≤ MX)
    (hT : At w ⟨2, 0, none⟩ (Kr .u8 tzTab)) :
    Ret Tryz.prog 7 #[vi_, vo] w fun v w' => (∃ vm, v = .tuple #[vm, .int .i64 (bS X owed)] ∧ (bS X owed = 0 → ∃ P lf vs, Mts aC 3 w' vm (tabM X.length owed.length fun i k => ofQ (P i k)) vs ∧
      Fl X.length owed.length (fi X) (prF X) (c8 X owed) P lf ∧ ∀ i, i < X.length → ∀ k, k < owed.length → L (P i k) ≤ 144 * K + 124)) ∧ Below w.heap.size w w' := by
  have hM : MX = 1099511627776 := rfl
  have hom := ho.maxLen
  have hS := St.init w
  refine enter Tryz.func7 rfl Tryz.ntmps7 rfl ?_
  repeat (with_reducible first | apply ag | apply ac | apply af | apply ae | apply ab)
  refine aj ?_
  refine aa rfl (am  rfl ?_)
  refine aa rfl (am  rfl ?_)
  refine ai ?_
  repeat (with_reducible first | apply ag | apply ac | apply af | apply ae | apply ab)
  refine aj ?_
  refine aa rfl (ah  rfl ?_)
  refine aa rfl (ah  rfl ?_)
  refine ak rfl (av Tryz.call25 rfl (gS vi_ vo X cvs owed _ (hX.below hS.below) (ho.below hS.below) (fa hXB (by omega)) (fY hoB (by omega))) ?_)
  rintro _ wc1 ⟨rfl, hBc1⟩
  replace hS := hS.grow hBc1
  refine aa rfl (am  rfl ?_)
  refine ai ?_
  repeat (with_reducible first | apply ag | apply ac | apply af | apply ae | apply ab)
  obtain ⟨e, he⟩ : ∃ e, e = bS X owed := ⟨_, rfl⟩
  rw [← he]
  repeat (with_reducible first | apply ag | apply ac | apply af | apply ae | apply ab)
  refine aj ?_
  refine aa rfl (ah  rfl ?_)
  refine aa rfl (e9  rfl rfl ?_)
  refine ai ?_
  repeat (with_reducible first | apply ag | apply ac | apply af | apply ae | apply ab)
  by_cases h0 : e = 0
  · refine aN rfl (decide_eq_false (by omega)) ?_
    repeat (with_reducible first | apply ag | apply ac | apply af | apply ae | apply ab)
    have hck := he.symm.trans h0
    obtain ⟨hX8, ho24, hng, hit, hcl⟩ := dm hck
    have hpos := pos_of hng
    obtain ⟨D, hD0, hDs, hDp, hDo⟩ := den_all hXB hoB hX8 ho24
    have hDt := Mu.tot hDp hDo
    rw [h0]
    repeat (with_reducible first | apply ag | apply ac | apply af | apply ae | apply ab)
    refine aj ?_
    refine aa rfl (ah  rfl ?_)
    refine aa rfl (ah  rfl ?_)
    refine ak rfl (av Tryz.call26 rfl (gT vi_ vo X cvs owed K _ (hX.below hS.below) (ho.below hS.below) hXB hoB (by omega) hX8 ho24 hcl) ?_)
    rintro r w3 ⟨sP, sO, LP, LO, bI, R, rfl, hP, hO, hR, hS3⟩
    have hN := netOf (H := []) hP hO hR ho24 hS3
    have hB3 := hS.below.trans (hS3.below.mono hS.below.size)
    have ho3 := ho.below hB3
    have hT3 := hT.below hB3
    obtain ⟨aP, cP, hsP⟩ := hP.len
    obtain ⟨aO, cO, hsO⟩ := hO.len
    have hpl := fD X
    have hol := ia owed
    clear hP hO hS3 hS
    obtain ⟨sM, hsM⟩ : ∃ sM, sM = Value.slice (some ⟨bI, 0, none⟩) owed.length owed.length := ⟨_, rfl⟩
    have hS := St.init w3
    have hbl : Tryz.prog.built 70 [(0, .agg #[sP, sO, sM])] = some #[sP, sO, sM, .slice none 0 0, .slice none 0 0] := by rw [hsP, hsO, hsM]; exact built_Fl _ _ _ _ _ _ _ _ _
    rw [← hsM] at hN
    rw [← hsM]
    refine aa rfl (ce  rfl (hbl) ?_)
    refine ak rfl (bX (new := [sP, sO, sM, .slice none 0 0, .slice none 0 0])  rfl rfl hS ?_)
    intro bf wz2 hS hBz2
    refine aa rfl (am  rfl ?_)
    refine ai ?_
    repeat (with_reducible first | apply ag | apply ac | apply af | apply ae | apply ab)
    refine aj ?_
    refine aa rfl (ah  rfl ?_)
    refine aa rfl (cL  rfl ?_)
    refine aa rfl (aH  rfl fR ?_)
    refine aa rfl (aH  rfl eT ?_)
    refine aw rfl (aB (k := 0)  rfl cX hS rfl rfl rfl (.inr rfl) ?_)
    refine aa rfl (aG  rfl (hN.P.below hS.below) ⟨_, Tryz.underlying24⟩ ?_)
    refine aa rfl (ah  rfl ?_)
    refine ai ?_
    repeat (with_reducible first | apply ag | apply af | apply ae | apply ab)
    rw [hpl]
    have hzr : List.replicate owed.length zRR = tab owed.length fun _ => ofQ 0 := by rw [fN]; exact bs fun _ _ => by rw [cI]; rfl
    refine a9 (fun ρ w' => ρ 7 = .pointer (some ⟨bf, 0, none⟩) ∧ ∃ vY vL LY LL RS, MatG RS X.length owed.length (fun _ _ => ofQ 0) ∧ Gl enV 24 1 vY (RS.map Rw.v) LY ∧ Gl aC 36 3 vL (tab X.length fun j => ofQ (prF X j)) LL ∧
      St w3 w' ([(bf, 70, [sP, sO, sM, vY, vL])] ++ RS.map (Rw.blk aC 36) ++ LY ++ LL)) ?_ ?_
    · repeat (with_reducible first | apply ag | apply ac | apply af | apply ae | apply ab)
      refine a5 (σ := Nat) (fun i ρ w' => i ≤ X.length ∧ ρ 1 = vo ∧ ρ 7 = .pointer (some ⟨bf, 0, none⟩) ∧ ρ 28 = sP ∧ ρ 29 = .int .i64 X.length ∧ ρ 30 = .int .i64 i ∧ ∃ vY vL LY LL RS, MatG RS i owed.length (fun _ _ => ofQ 0) ∧ Gl enV 24 1 vY (RS.map Rw.v) LY ∧ Gl aC 36 3 vL (tab i fun j => ofQ (prF X j)) LL ∧
        St w3 w' ([(bf, 70, [sP, sO, sM, vY, vL])] ++ RS.map (Rw.blk aC 36) ++ LY ++ LL)) (fun i => X.length - i) 0
        ⟨Nat.zero_le _, rfl, rfl, rfl, rfl, rfl, _, _, [], [], [], ⟨rfl, fun i hi => absurd hi (Nat.not_lt_zero _), fun i hi => absurd hi (Nat.not_lt_zero _)⟩, Gl.nil _ _ _, Gl.nil _ _ _, hS⟩ ?_
      clear hS
      rintro i ρ w4 ⟨hi, h1, h7, h28, h29, h30, vY, vL, LY, LL, RS, hRS, hGY, hGL, hS⟩
      have htl := bp i fun j => ofQ (prF X j)
      have hvl : (RS.map Rw.v).length = i := by rw [List.length_map, hRS.len]
      repeat (with_reducible first | apply ag | apply ac | apply af | apply ae | apply ab)
      refine aj ?_
      refine aa rfl (aV  h30 h29 ?_)
      refine ai ?_
      repeat (with_reducible first | apply ag | apply ac | apply af | apply ae | apply ab)
      by_cases hlt : i < X.length
      · refine aD rfl (decide_eq_true (by omega)) ?_
        repeat (with_reducible first | apply ag | apply ac | apply af | apply ae | apply ab)
        refine aj ?_
        refine aa rfl (aX (i := i)  h28 h30 (hN.P.below hS.below) (by omega) (by first | omega | (simp; done) | (simp; omega)) bH ?_)
        refine aw rfl (a6 (i := i) zRR  rfl ax (hN.P.below hS.below) (by first | omega | (simp; done) | (simp; omega)) rfl rfl (.inl rfl) ?_)
        refine ak rfl (aZ  ax hS ?_)
        intro b9 wz3 hS hBz3
        refine ak rfl (a8 (k := 0)  rfl rfl ax hS rfl rfl rfl (Nat.le_of_ble_eq_true rfl) rfl ?_)
        intro wz4 hS
        refine ai ?_
        repeat (with_reducible first | apply ag | apply ac | apply af | apply ae | apply ab)
        rw [gu X hlt] at hS
        replace hS : St w3 _ ([(b9, 36, aC (ofQ (prF X i))), (bf, 70, [sP, sO, sM, vY, vL])] ++ RS.map (Rw.blk aC 36) ++ LY ++ LL) := hS
        repeat (with_reducible first | apply ag | apply ac | apply af | apply ae | apply ab)
        refine bm [(0, .pure), (1, .pure), (2, .pure), (3, .pure), (4, .read), (5, .read), (6, .grow), (7, .free), (8, .pure), (9, .pure), (10, .free)] (by kernel_rfl) (by kernel_rfl) hS ?_
        intro wz5 hS hBz5
        refine al rfl rfl (ah  h7 ?_)
        refine al rfl rfl (ah  h7 ?_)
        refine al rfl rfl (cL  rfl ?_)
        refine al rfl rfl (aH  rfl fL ?_)
        refine aF rfl rfl (aB (k := 1)  rfl cX hS rfl rfl rfl (.inr rfl) ?_)
        refine aF rfl rfl (aB (k := 0)  rfl ax hS rfl rfl rfl (.inl rfl) ?_)
        refine aS rfl rfl (dJ (vs := [bE (ofQ (prF X i))])  rfl bH rfl (by decide) (by decide) (by decide) (by simp [Value.cells, bE]) rfl hS ?_)
        intro b6 wz7 hS hBz7
        refine ⟨hBz7, ?_⟩
        refine bJ rfl rfl (eH [ofQ (prF X i)]  rfl rfl bH (by decide) hGL hS rfl rfl bg (fB [ofQ (prF X i)]) (by first | omega | (simp only [List.length_cons, List.length_nil]; omega)) (by first | omega | (simp only [List.length_cons, List.length_nil]; omega)) ?_)
        intro va8 La8 wa8 hGL hS hga8
        refine al rfl rfl (cL  rfl ?_)
        refine al rfl rfl (aH  rfl fL ?_)
        refine bJ rfl rfl (ir (k := 1)  rfl rfl cX hS rfl (Nat.le_of_ble_eq_true rfl) (by obtain ⟨a, c, h⟩ := hGL.len; rw [h]; rfl) ?_)
        intro wz9 hS
        refine bC ?_
        repeat (with_reducible first | apply ag | apply ac | apply af | apply ae | apply ab)
        rw [← tab_succ] at hGL
        replace hS : St w3 _ ([(bf, 70, [sP, sO, sM, vY, _])] ++ RS.map (Rw.blk aC 36) ++ LY ++ _) := hS.drop (List.sublist_cons_self _ _)
        repeat (with_reducible first | apply ag | apply ac | apply af | apply ae | apply ab)
        refine bm [(0, .pure), (1, .pure), (2, .pure), (3, .pure), (4, .read), (5, .pure), (6, .pure), (7, .grow), (8, .grow), (9, .free), (10, .pure), (11, .pure), (12, .free)] (by kernel_rfl) (by kernel_rfl) hS ?_
        intro wz10 hS hBz10
        refine al rfl rfl (ah  h7 ?_)
        refine al rfl rfl (ah  h7 ?_)
        refine al rfl rfl (cL  rfl ?_)
        refine al rfl rfl (aH  rfl et ?_)
        refine aF rfl rfl (aB (k := 0)  rfl gG hS rfl rfl rfl (.inr rfl) ?_)
        refine al rfl rfl (ah  h1 ?_)
        refine al rfl rfl (aG  rfl (ho3.below hS.below) ⟨_, Tryz.underlying24⟩ ?_)
        refine aS rfl rfl (eu (enc := aC) (n := owed.length) zRR  rfl rfl bH rfl (by omega) (by omega) (by omega) (by omega) hS ?_)
        intro b51 wz11 hS hBz11
        refine ⟨hBz11, ?_⟩
        refine aS rfl rfl (dJ (vs := [.slice (some ⟨b51, 0, none⟩) owed.length owed.length])  rfl iA rfl (by decide) (by decide) (by decide) (by simp [Value.cells]) rfl hS ?_)
        intro b52 wz12 hS hBz12
        refine ⟨hBz12, ?_⟩
        replace hS := hS.perm (perm4 _ _ _ _ _ _)
        refine bJ rfl rfl (eH [.slice (some ⟨b51, 0, none⟩) owed.length owed.length]  rfl rfl iA (by decide) hGY hS rfl rfl (fun _ => rfl) (fun u hu => by rw [List.mem_singleton.1 (show u ∈ [Value.slice (some ⟨b51, 0, none⟩) owed.length owed.length] from hu)]; rfl) (by first | omega | (simp only [List.length_cons, List.length_nil]; omega)) (by first | omega | (simp only [List.length_cons, List.length_nil]; omega)) ?_)
        intro va13 La13 wa13 hGY hS hga13
        refine al rfl rfl (cL  rfl ?_)
        refine al rfl rfl (aH  rfl et ?_)
        refine bJ rfl rfl (ir (k := 1)  rfl rfl gG hS rfl (Nat.le_of_ble_eq_true rfl) (by obtain ⟨a, c, h⟩ := hGY.len; rw [h]; rfl) ?_)
        intro wz14 hS
        refine bC ?_
        repeat (with_reducible first | apply ag | apply ac | apply af | apply ae | apply ab)
        obtain ⟨nr, hnr⟩ : ∃ nr : Rw RR, nr = ⟨b51, owed.length, List.replicate owed.length zRR, []⟩ := ⟨_, rfl⟩
        have hnv : Value.slice (some ⟨b51, 0, none⟩) owed.length owed.length = nr.v := by rw [hnr]; unfold Rw.v; rw [List.length_replicate]
        have hnb : (b51, 36, (List.replicate owed.length zRR).flatMap aC) = nr.blk aC 36 := by rw [hnr]; unfold Rw.blk; rw [List.append_nil]
        rw [hnv, show RS.map Rw.v ++ [nr.v] = (RS ++ [nr]).map Rw.v by rw [List.map_append]; rfl] at hGY
        replace hS : St w3 _ (([(b51, 36, (List.replicate owed.length zRR).flatMap aC)] ++ [(bf, 70, [sP, sO, sM, _, _])] ++ RS.map (Rw.blk aC 36) ++ _) ++ _) := hS
        rw [hnb] at hS
        replace hS := hS.perm (perm5 _ _ _ _ _)
        have hpm : ∀ A B C : List Blk, (A ++ (nr.blk aC 36 :: RS.map (Rw.blk aC 36)) ++ B ++ C).Perm (A ++ (RS ++ [nr]).map (Rw.blk aC 36) ++ B ++ C) := fun A B C => by
          rw [List.map_append]
          exact List.Perm.append_right _ (List.Perm.append_right _ (List.Perm.append_left _ (List.perm_append_singleton _ _).symm))
        replace hS := hS.perm (hpm _ _ _)
        have hR2 := MatG_snoc hRS (r := nr) (by rw [hnr]; exact hzr) (by rw [hnr]; exact ⟨Nat.le_refl _, by show owed.length ≤ _; omega⟩)
        repeat (with_reducible first | apply ag | apply ac | apply af | apply ae | apply ab)
        refine aj ?_
        refine aa rfl (aK  h30 rfl (IntWalk.i64_in _ (by omega)) ?_)
        refine aa rfl (ah  rfl ?_)
        refine ai ?_
        repeat (with_reducible first | apply ag | apply ac | apply af | apply ae | apply ab)
        exact ⟨i + 1, _, rfl, ⟨hlt, by assumption, by assumption, by assumption, by assumption, vi rfl (by omega), _, _, _, _, RS ++ [nr], hR2, hGY, hGL, hS⟩, by omega⟩
      · refine aN rfl (decide_eq_false (by omega)) ?_
        repeat (with_reducible first | apply ag | apply ac | apply af | apply ae | apply ab)
        refine aU ?_
        repeat (with_reducible first | apply aA | apply az | refine ay rfl ?_)
        repeat (with_reducible first | apply ag | apply ac | apply af | apply ae | apply ab)
        obtain rfl : i = X.length := by omega
        exact ⟨_, rfl, h7, vY, vL, LY, LL, RS, hRS, hGY, hGL, hS⟩
    clear hS
    rintro ρ w4 ⟨h7, vY, vL, LY, LL, RS, hRS, hGY, hGL, hS⟩
    repeat (with_reducible first | apply ag | apply ac | apply af | apply ae | apply ab)
    have hOl : (bU owed).length = owed.length := hol
    by_cases hz : X.length = 0
    · have htz := totF_none hz (owed := owed)
      repeat (with_reducible first | apply ag | apply ac | apply af | apply ae | apply ab)
      refine aj ?_
      refine aa rfl (ah  h7 ?_)
      refine aa rfl (cL  rfl ?_)
      refine aa rfl (aH  rfl fR ?_)
      refine aw rfl (aB (k := 0)  rfl eK hS rfl rfl rfl (.inl rfl) ?_)
      refine ak rfl (av Tryz.call27 rfl (totals_ok sP sO sM X owed R K _ (hN.P.below hS.below) (hN.O.below hS.below) (hN.M.below hS.below) hN.R hXB hoB (by omega) hX8 ho24 (hT3.below hS.below)) ?_)
      rintro r w5 ⟨bt, rfl, hS5⟩
      replace hS := hS.join hS5
      refine aa rfl (dC  rfl ⟨_, Tryz.underlying24⟩ ?_)
      refine aa rfl (ah  rfl ?_)
      refine ai ?_
      repeat (with_reducible first | apply ag | apply af | apply ae | apply ab)
      refine a9 (fun ρ w' => ρ 7 = .pointer (some ⟨bf, 0, none⟩) ∧ St w3 w' ([(bt, 36, (tab owed.length fun c => ofQ (c8 X owed c)).flatMap aC), (bf, 70, [sP, sO, sM, vY, vL])] ++ RS.map (Rw.blk aC 36) ++ LY ++ LL)) ?_ ?_
      · repeat (with_reducible first | apply ag | apply ac | apply af | apply ae | apply ab)
        refine a5 (σ := Nat) (fun c ρ w' => c ≤ owed.length ∧ ρ 7 = .pointer (some ⟨bf, 0, none⟩) ∧ ρ 61 = .slice (some ⟨bt, 0, none⟩) owed.length owed.length ∧ ρ 62 = .int .i64 owed.length ∧ ρ 63 = .int .i64 c ∧
            St w3 w' ([(bt, 36, (tab owed.length fun c => ofQ (c8 X owed c)).flatMap aC), (bf, 70, [sP, sO, sM, vY, vL])] ++ RS.map (Rw.blk aC 36) ++ LY ++ LL)) (fun c => owed.length - c) 0
          ⟨Nat.zero_le _, by assumption, rfl, rfl, rfl, hS⟩ ?_
        clear hS h7
        rintro c ρ w6 ⟨hc, h7, h61, h62, h63, hS⟩
        have htl := bp owed.length fun c => ofQ (c8 X owed c)
        repeat (with_reducible first | apply ag | apply ac | apply af | apply ae | apply ab)
        refine aj ?_
        refine aa rfl (aV  h63 h62 ?_)
        refine ai ?_
        repeat (with_reducible first | apply ag | apply ac | apply af | apply ae | apply ab)
        by_cases hlt : c < owed.length
        · refine aD rfl (decide_eq_true (by omega)) ?_
          repeat (with_reducible first | apply ag | apply ac | apply af | apply ae | apply ab)
          have hgt : (tab owed.length fun c => ofQ (c8 X owed c)).getD c zRR = ofQ 0 := by rw [cE _ _ hlt, htz]
          repeat (with_reducible first | apply ag | apply ac | apply af | apply ae | apply ab)
          refine aj ?_
          refine aa rfl (ah  h63 ?_)
          refine aa rfl (a7 (i := c)  h61 h63 (by omega) (by first | omega | (simp; done) | (simp; omega)) bH ?_)
          refine aw rfl (gm (k := 0) (i := c) (enc := aC) zRR (fun _ => rfl)  rfl ax hS rfl (by first | omega | simp) (by first | omega | (simp; done) | (simp; omega)) rfl (.inl rfl) ?_)
          refine ak rfl (aZ  ax hS ?_)
          intro b11 wz15 hS hBz15
          refine aa rfl (am  rfl ?_)
          refine ak rfl (a8 (k := 0)  rfl rfl ax hS rfl rfl rfl (Nat.le_of_ble_eq_true rfl) rfl ?_)
          intro wz16 hS
          refine ai ?_
          repeat (with_reducible first | apply ag | apply af | apply ae | apply ab)
          rw [hgt] at hS
          have hs0 := fun w => eS (ofQ 0) w (by rw [Lr_ofQ, gK]; omega)
          refine a9 (fun ρ w' => ρ 7 = .pointer (some ⟨bf, 0, none⟩) ∧ ρ 61 = .slice (some ⟨bt, 0, none⟩) owed.length owed.length ∧ ρ 62 = .int .i64 owed.length ∧ ρ 63 = .int .i64 c ∧
            St w3 w' ([(bt, 36, (tab owed.length fun c => ofQ (c8 X owed c)).flatMap aC), (bf, 70, [sP, sO, sM, vY, vL])] ++ RS.map (Rw.blk aC 36) ++ LY ++ LL)) ?_ ?_
          · repeat (with_reducible first | apply ag | apply ac | apply af | apply ae | apply ab)
            refine a5 (σ := Nat) (fun a ρ w' => a = 0 ∧ ρ 7 = .pointer (some ⟨bf, 0, none⟩) ∧ ρ 61 = .slice (some ⟨bt, 0, none⟩) owed.length owed.length ∧ ρ 62 = .int .i64 owed.length ∧ ρ 63 = .int .i64 c ∧ ρ 11 = .pointer (some ⟨b11, 0, none⟩) ∧
              St w3 w' ((b11, 36, aC (ofQ 0)) :: ([(bt, 36, (tab owed.length fun c => ofQ (c8 X owed c)).flatMap aC), (bf, 70, [sP, sO, sM, vY, vL])] ++ RS.map (Rw.blk aC 36) ++ LY ++ LL))) (fun _ => 0) 0
              ⟨rfl, by assumption, by assumption, by assumption, by assumption, rfl, hS⟩ ?_
            clear hS h7 h61 h62 h63
            rintro a ρ w7 ⟨_, h7, h61, h62, h63, h11, hS⟩
            repeat (with_reducible first | apply ag | apply ac | apply af | apply ae | apply ab)
            refine aj ?_
            refine aw rfl (aB (k := 0)  h11 ax hS rfl rfl rfl (.inl rfl) ?_)
            refine ak rfl (av Tryz.call12 rfl (hs0 _) ?_)
            rintro _ wc17 ⟨rfl, hBc17⟩
            replace hS := hS.grow hBc17
            refine aa rfl (cf  rfl rfl ?_)
            refine ai ?_
            repeat (with_reducible first | apply ag | apply ac | apply af | apply ae | apply ab)
            rw [toQ_ofQ]
            refine aN rfl (decide_eq_false (by rw [sgnQ_pos]; exact Rat.lt_irrefl)) ?_
            repeat (with_reducible first | apply ag | apply ac | apply af | apply ae | apply ab)
            refine aU ?_
            repeat (with_reducible first | apply aA | apply az | refine ay rfl ?_)
            repeat (with_reducible first | apply ag | apply ac | apply af | apply ae | apply ab)
            exact ⟨_, rfl, h7, h61, h62, h63, hS.drop (List.sublist_cons_self _ _)⟩
          clear hS h7 h61 h62 h63
          rintro ρ w7 ⟨h7, h61, h62, h63, hS⟩
          repeat (with_reducible first | apply ag | apply ac | apply af | apply ae | apply ab)
          refine aj ?_
          refine aa rfl (aK  h63 rfl (IntWalk.i64_in _ (by omega)) ?_)
          refine aa rfl (ah  rfl ?_)
          refine ai ?_
          repeat (with_reducible first | apply ag | apply ac | apply af | apply ae | apply ab)
          exact ⟨c + 1, _, rfl, ⟨hlt, h7, h61, h62, vi rfl (by omega), hS⟩, by omega⟩
        · refine aN rfl (decide_eq_false (by omega)) ?_
          repeat (with_reducible first | apply ag | apply ac | apply af | apply ae | apply ab)
          refine aU ?_
          repeat (with_reducible first | apply aA | apply az | refine ay rfl ?_)
          repeat (with_reducible first | apply ag | apply ac | apply af | apply ae | apply ab)
          exact ⟨_, rfl, h7, hS⟩
      clear hS h7
      rintro ρ w6 ⟨h7, hS⟩
      repeat (with_reducible first | apply ag | apply ac | apply af | apply ae | apply ab)
      refine aj ?_
      refine aa rfl (ah  h7 ?_)
      refine aa rfl (cL  rfl ?_)
      refine aa rfl (aH  rfl et ?_)
      refine aw rfl (aB (k := 1)  rfl gG hS rfl rfl rfl (.inr rfl) ?_)
      refine aa rfl (am  rfl ?_)
      refine aa rfl (am  rfl ?_)
      refine ai ?_
      repeat (with_reducible first | apply ag | apply ac | apply af | apply ae | apply ab)
      refine aE ?_
      repeat (with_reducible first | apply ap | apply ao)
      refine dw rfl rfl rfl ?_
      have hvs : RS = [] := List.eq_nil_of_length_eq_zero (by rw [hRS.len]; exact hz)
      refine ⟨⟨vY, rfl, fun _ => ⟨fun _ _ => 0, prF X, [], ⟨by rw [fE, hz]; rfl, ?_, fun i hi => by rw [fE, hz] at hi; omega⟩, (Dst.start hDp).fl.got fun k hk => ?_, fun i hi => by omega⟩⟩, hB3.trans (hS.below.mono hB3.size)⟩
      · have := hGY.sl (hS.perm (perm3 _ _ _)) (fun _ => rfl)
        rwa [hvs] at this
      · unfold i6
        rw [htz, htz, if_neg (Nat.not_lt_zero _)]
        split <;> grind
    obtain ⟨_, ⟨_, h2, _⟩ | ⟨bo, capP, so, rfl, rfl, hc1, hc2, _⟩⟩ := hGY
    · rw [List.length_map, hRS.len] at h2; omega
    obtain ⟨_, ⟨_, h2, _⟩ | ⟨bl, capL, sp, rfl, rfl, hc3, hc4, _⟩⟩ := hGL
    · rw [bp] at h2; omega
    have hRn := hRS.len
    rw [enV_flat] at hS
    have hn1 : (RS.map Rw.v).length = X.length := by rw [List.length_map, hRn]
    rw [hn1] at hc1 hS
    rw [bp] at hc3 hS
    unfold Go.maxLen at hc2 hc4
    repeat (with_reducible first | apply ag | apply ac | apply af | apply ae | apply ab)
    refine aj ?_
    refine aa rfl (ah  h7 ?_)
    refine aa rfl (cL  rfl ?_)
    refine aa rfl (aH  rfl fR ?_)
    refine aw rfl (aB (k := 0)  rfl eK hS rfl rfl rfl (.inl rfl) ?_)
    refine ak rfl (av Tryz.call27 rfl (totals_ok sP sO sM X owed R K _ (hN.P.below hS.below) (hN.O.below hS.below) (hN.M.below hS.below) hN.R hXB hoB (by omega) hX8 ho24 (hT3.below hS.below)) ?_)
    rintro r w5 ⟨bt, rfl, hS5⟩
    obtain ⟨lf0, hlf0⟩ : ∃ lf0, lf0 = prF X := ⟨_, rfl⟩
    replace hS := (hS.perm (perm6 _ _ _ _)).join hS5
    have hD := Dst.start (owed := owed) hDp
    rw [← hlf0] at hD hS
    replace hS : St w3 _ ([(bt, 36, (tab owed.length fun c => ofQ (c8 X owed c)).flatMap aC)] ++ (flB bf bo bl X.length capP capL sP sO sM 70 36 lf0 sp ++ mD aC 36 24 bo (RS.map Rw.v ++ so) RS [])) := hS
    refine aa rfl (dC  rfl ⟨_, Tryz.underlying24⟩ ?_)
    refine aa rfl (ah  rfl ?_)
    refine ai ?_
    repeat (with_reducible first | apply ag | apply af | apply ae | apply ab)
    refine a9 (fun ρ w' => ρ 7 = .pointer (some ⟨bf, 0, none⟩) ∧ ∃ P lf RS, MatG RS X.length owed.length (fun i k => ofQ (P i k)) ∧ Dst X owed D owed.length (c8 X owed owed.length) P lf ∧ St w3 w' ([(bt, 36, (tab owed.length fun c => ofQ (c8 X owed c)).flatMap aC)] ++ (flB bf bo bl X.length capP capL sP sO sM 70 36 lf sp ++ mD aC 36 24 bo (RS.map Rw.v ++ so) RS []))) ?_ ?_
    · repeat (with_reducible first | apply ag | apply ac | apply af | apply ae | apply ab)
      refine a5 (σ := Nat) (fun c ρ w' => c ≤ owed.length ∧ ρ 7 = .pointer (some ⟨bf, 0, none⟩) ∧ ρ 61 = .slice (some ⟨bt, 0, none⟩) owed.length owed.length ∧ ρ 62 = .int .i64 owed.length ∧ ρ 63 = .int .i64 c ∧ ∃ P lf RS, MatG RS X.length owed.length (fun i k => ofQ (P i k)) ∧ Dst X owed D c (c8 X owed c) P lf ∧ St w3 w' ([(bt, 36, (tab owed.length fun c => ofQ (c8 X owed c)).flatMap aC)] ++ (flB bf bo bl X.length capP capL sP sO sM 70 36 lf sp ++ mD aC 36 24 bo (RS.map Rw.v ++ so) RS []))) (fun c => owed.length - c) 0
        ⟨Nat.zero_le _, by assumption, rfl, rfl, rfl, _, lf0, RS, hRS, hD, hS⟩ ?_
      clear hS h7 hD hRS hRn hn1 hlf0
      clear lf0
      rintro c ρ w6 ⟨hc, h7, h61, h62, h63, P, lf, RS, hRS, hD, hS⟩
      have htl := bp owed.length fun c => ofQ (c8 X owed c)
      repeat (with_reducible first | apply ag | apply ac | apply af | apply ae | apply ab)
      refine aj ?_
      refine aa rfl (aV  h63 h62 ?_)
      refine ai ?_
      repeat (with_reducible first | apply ag | apply ac | apply af | apply ae | apply ab)
      by_cases hlt : c < owed.length
      · refine aD rfl (decide_eq_true (by omega)) ?_
        repeat (with_reducible first | apply ag | apply ac | apply af | apply ae | apply ab)
        have hgt : (tab owed.length fun c => ofQ (c8 X owed c)).getD c zRR = ofQ (c8 X owed c) := cE _ _ hlt
        obtain ⟨a0, ha0, _, _⟩ := (hDt c).int hD0 (totF_pos hpos c) (le_natAbs _)
        have hLt := L_totF hXB hoB hX8 ho24 c
        repeat (with_reducible first | apply ag | apply ac | apply af | apply ae | apply ab)
        refine aj ?_
        refine aa rfl (ah  h63 ?_)
        refine aa rfl (a7 (i := c)  h61 h63 (by omega) (by first | omega | (simp; done) | (simp; omega)) bH ?_)
        refine aw rfl (gm (k := 0) (i := c) (enc := aC) zRR (fun _ => rfl)  rfl ax hS rfl (by first | omega | simp) (by first | omega | (simp; done) | (simp; omega)) rfl (.inl rfl) ?_)
        refine ak rfl (aZ  ax hS ?_)
        intro b11 wz18 hS hBz18
        refine aa rfl (am  rfl ?_)
        refine ak rfl (a8 (k := 0)  rfl rfl ax hS rfl rfl rfl (Nat.le_of_ble_eq_true rfl) rfl ?_)
        intro wz19 hS
        refine ai ?_
        repeat (with_reducible first | apply ag | apply af | apply ae | apply ab)
        rw [hgt] at hS
        refine a9 (fun ρ w' => ρ 7 = .pointer (some ⟨bf, 0, none⟩) ∧ ρ 61 = .slice (some ⟨bt, 0, none⟩) owed.length owed.length ∧ ρ 62 = .int .i64 owed.length ∧ ρ 63 = .int .i64 c ∧ ∃ P lf RS, MatG RS X.length owed.length (fun i k => ofQ (P i k)) ∧ Dst X owed D c 0 P lf ∧ St w3 w' ([(bt, 36, (tab owed.length fun c => ofQ (c8 X owed c)).flatMap aC)] ++ (flB bf bo bl X.length capP capL sP sO sM 70 36 lf sp ++ mD aC 36 24 bo (RS.map Rw.v ++ so) RS []))) ?_ ?_
        · repeat (with_reducible first | apply ag | apply ac | apply af | apply ae | apply ab)
          refine a5 (σ := Nat) (fun a ρ w' => ρ 7 = .pointer (some ⟨bf, 0, none⟩) ∧ ρ 61 = .slice (some ⟨bt, 0, none⟩) owed.length owed.length ∧ ρ 62 = .int .i64 owed.length ∧ ρ 63 = .int .i64 c ∧ ρ 10 = .int .i64 c ∧ ρ 11 = .pointer (some ⟨b11, 0, none⟩) ∧ ∃ (want : Rat) (P : Nat → Nat → Rat) (lf : Nat → Rat) (RS : List (Rw RR)), want * (D : Rat) = (a : Rat) ∧ Mu D want ∧ 0 ≤ want ∧ want ≤ c8 X owed c ∧ MatG RS X.length owed.length (fun i k => ofQ (P i k)) ∧ Dst X owed D c want P lf ∧ St w3 w' ([(b11, 36, aC (ofQ want)), (bt, 36, (tab owed.length fun c => ofQ (c8 X owed c)).flatMap aC)] ++ (flB bf bo bl X.length capP capL sP sO sM 70 36 lf sp ++ mD aC 36 24 bo (RS.map Rw.v ++ so) RS []))) (fun a => a) a0
            ⟨by assumption, by assumption, by assumption, by assumption, rfl, rfl, c8 X owed c, P, lf, RS, ha0, hDt c, totF_pos hpos c, Rat.le_refl, hRS, hD, hS⟩ ?_
          clear hS h7 h61 h62 h63 hD hRS
          rintro a ρ w7 ⟨h7, h61, h62, h63, h10, h11, want, P, lf, RS, haD, hMw, hw0, hwt, hRS, hD, hS⟩
          obtain ⟨hLP, hLl⟩ := hD.size hXB hD0 hDs
          have hLw := hMw.sizeQ hD0 hw0 hwt
          replace hLw : L want ≤ 144 * K + 124 := by omega
          repeat (with_reducible first | apply ag | apply ac | apply af | apply ae | apply ab)
          refine aj ?_
          refine aw rfl (aB (k := 0)  h11 ax hS rfl rfl rfl (.inl rfl) ?_)
          refine ak rfl (av Tryz.call12 rfl (eS (ofQ want) _ (by rw [Lr_ofQ]; omega)) ?_)
          rintro _ wc20 ⟨rfl, hBc20⟩
          replace hS := hS.grow hBc20
          refine aa rfl (cf  rfl rfl ?_)
          refine ai ?_
          repeat (with_reducible first | apply ag | apply ac | apply af | apply ae | apply ab)
          rw [toQ_ofQ]
          by_cases hwp : 0 < want
          · refine aD rfl (decide_eq_true (sgnQ_pos.2 hwp)) ?_
            repeat (with_reducible first | apply ag | apply ac | apply af | apply ae | apply ab)
            have hF := flM_of (pre := [(b11, 36, aC (ofQ want)), (bt, 36, (tab owed.length fun c => ofQ (c8 X owed c)).flatMap aC)]) hS hRS (hN.O.below hS.below) hOl (hN.M.below hS.below) hc1 hc2 hc3 hc4
            repeat (with_reducible first | apply ag | apply ac | apply af | apply ae | apply ab)
            refine aj ?_
            refine aa rfl (ah  h7 ?_)
            refine aa rfl (ah  h10 ?_)
            refine ak rfl (av Tryz.call28 rfl (path_ok bf sP sO sM _ _ _ owed.length c X _ R P lf _ hF hN.R hlt hX8 ho24 (fun i hi => by have := hLl i hi; omega) (fun i hi k hk => by have := hLP i hi k hk; omega)) ?_)
            rintro r w8 (⟨rfl, _, S, T, q1, q2, q3⟩ | ⟨W, LW, hGW, hSW, hwo, hWl⟩)
            · exact (hD.fl.way hpos hlt hwp q1 q2 q3).elim
            have hne := hwo.ne
            have hLa : L (amt W P lf want (W.length - 1)) ≤ 144 * K + 124 := L_amt hLw (hLl _ (hwo.it 0 hne)) _ fun l hl => hLP _ (hwo.it (l + 1) (by omega)) _ (hwo.cl l (by omega))
            obtain ⟨p1, p2, p3, p4⟩ := hD.push hwo hwp hMw rfl
            have hWr : ∀ wx pre, St w3 wx (pre ++ ([(b11, 36, aC (ofQ want)), (bt, 36, (tab owed.length fun c => ofQ (c8 X owed c)).flatMap aC)] ++ LW)) → Sl enI 1 wx r (flW W) := fun wx pre h => hGW.sl (H := pre) (h.drop (List.Sublist.append (List.Sublist.refl _) (List.sublist_append_right _ _))) enI_len
            replace hS := (hS.join hSW).perm ((List.perm_append_comm_assoc _ _ _).trans (List.Perm.append_left _ (gZ LW _)))
            rw [List.append_nil] at hS
            have hform : ∃ b cap, r = .slice (some ⟨b, 0, none⟩) (flW W).length cap := by
              obtain ⟨_, ⟨_, h2, _⟩ | ⟨b, cap, _, h1, _⟩⟩ := hGW
              · rw [flW_len] at h2; omega
              · exact ⟨b, cap, h1⟩
            obtain ⟨bw, capw, rfl⟩ := hform
            refine aa rfl (am  rfl ?_)
            refine ai ?_
            repeat (with_reducible first | apply ag | apply ac | apply af | apply ae | apply ab)
            refine aj ?_
            refine aa rfl (ah  rfl ?_)
            refine aa rfl (s_eqnil  rfl rfl ⟨_, Tryz.underlying47⟩ ?_)
            refine ai ?_
            repeat (with_reducible first | apply ag | apply ac | apply af | apply ae | apply ab)
            refine aN rfl (rfl) ?_
            repeat (with_reducible first | apply ag | apply ac | apply af | apply ae | apply ab)
            refine c_all 7 [(0, .grow), (1, .pure), (2, .pure), (3, .read), (4, .free), (5, .grow), (6, .free)] (by kernel_rfl) (by kernel_rfl) hS ?_
            intro wz21 hS hBz21
            refine z_pure (i := 1) (U' := [(0, .grow), (2, .pure), (3, .read), (4, .free), (5, .grow), (6, .free)]) (by kernel_rfl) (by kernel_rfl) rfl rfl (ah  h7 ?_)
            refine z_pure (i := 2) (U' := [(0, .grow), (3, .read), (4, .free), (5, .grow), (6, .free)]) (by kernel_rfl) (by kernel_rfl) rfl rfl (ah  rfl ?_)
            refine z_read (i := 3) (U' := [(0, .grow), (4, .free), (5, .grow), (6, .free)]) (by kernel_rfl) (by kernel_rfl) rfl rfl (aB (k := 0)  h11 ax hS rfl rfl rfl (.inl rfl) ?_)
            refine z_two (x := (0, .grow)) (y := (4, .free)) (U' := [(4, .free), (5, .grow), (6, .free)]) (U'' := [(0, .grow), (5, .grow), (6, .free)]) (by kernel_rfl) (by kernel_rfl) (by kernel_rfl) ?_ ?_
            · refine i4 rfl rfl (hup_read (aB (k := 0)  h11 ax hS rfl rfl rfl (.inl rfl) ?_))
              refine ⟨Below.refl _ _, ?_⟩
              refine iS (x := (4, .free)) (U' := [(5, .grow), (6, .free)]) (by kernel_rfl) (by kernel_rfl) ?_
              refine ja rfl rfl (av Tryz.call30 rfl (push_ok bf bo bl capP capL X.length owed.length c (144 * K + 124) sP sO sM _ so sp RS (fi X) P lf want W ([(b11, 36, aC (ofQ want)), (bt, 36, (tab owed.length fun c => ofQ (c8 X owed c)).flatMap aC)] ++ LW) w3 _ (hS.perm (gZ _ _)) hRS hWr hwo (by omega) hLP hLl hLw (by omega)) ?_)
              rintro r w7 ⟨rfl, RT, hRv, hRT, hS⟩
              replace hS := hS.perm (gZ _ _).symm
              rw [hRv.symm] at hS
              refine iS (x := (5, .grow)) (U' := [(6, .free)]) (by kernel_rfl) (by kernel_rfl) ?_
              refine i4 rfl rfl (av Tryz.call29 rfl (cK (ofQ want) (ofQ (amt W P lf want (W.length - 1))) _ (by rw [Lr_ofQ, Lr_ofQ]; omega)) ?_)
              rintro r w8 ⟨rfl, hB8⟩
              refine ⟨hB8, ?_⟩
              replace hS := hS.grow hB8
              rw [toQ_ofQ, toQ_ofQ]
              refine iS (x := (6, .free)) (U' := []) (by kernel_rfl) (by kernel_rfl) ?_
              refine ja rfl rfl (a8 (k := 0)  h11 rfl ax hS rfl rfl rfl (Nat.le_of_ble_eq_true rfl) rfl ?_)
              intro wz22 hS
              refine z_end ?_
              repeat (with_reducible first | apply ag | apply ac | apply af | apply ae | apply ab)
              obtain ⟨a', ha', hlt'⟩ := nat_less hD0 haD hMw p2 p4 p3
              exact ⟨a', _, rfl, ⟨by assumption, by assumption, by assumption, by assumption, by assumption, by assumption, want - amt W P lf want (W.length - 1), _, _, RT, ha', hMw.sub p4, by grind, by grind, hRT, p1, hS.drop (List.Sublist.append (List.Sublist.refl _) (drop_mD _ (List.nil_sublist _)))⟩, hlt'⟩
            · refine ja rfl rfl (av Tryz.call30 rfl (push_ok bf bo bl capP capL X.length owed.length c (144 * K + 124) sP sO sM _ so sp RS (fi X) P lf want W ([(b11, 36, aC (ofQ want)), (bt, 36, (tab owed.length fun c => ofQ (c8 X owed c)).flatMap aC)] ++ LW) w3 _ (hS.perm (gZ _ _)) hRS hWr hwo (by omega) hLP hLl hLw (by omega)) ?_)
              rintro r w7 ⟨rfl, RT, hRv, hRT, hS⟩
              replace hS := hS.perm (gZ _ _).symm
              rw [hRv.symm] at hS
              refine iS (x := (0, .grow)) (U' := [(5, .grow), (6, .free)]) (by kernel_rfl) (by kernel_rfl) ?_
              refine i4 rfl rfl (hup_read (aB (k := 0)  h11 ax hS rfl rfl rfl (.inl rfl) ?_))
              refine ⟨Below.refl _ _, ?_⟩
              refine iS (x := (5, .grow)) (U' := [(6, .free)]) (by kernel_rfl) (by kernel_rfl) ?_
              refine i4 rfl rfl (av Tryz.call29 rfl (cK (ofQ want) (ofQ (amt W P lf want (W.length - 1))) _ (by rw [Lr_ofQ, Lr_ofQ]; omega)) ?_)
              rintro r w8 ⟨rfl, hB8⟩
              refine ⟨hB8, ?_⟩
              replace hS := hS.grow hB8
              rw [toQ_ofQ, toQ_ofQ]
              refine iS (x := (6, .free)) (U' := []) (by kernel_rfl) (by kernel_rfl) ?_
              refine ja rfl rfl (a8 (k := 0)  h11 rfl ax hS rfl rfl rfl (Nat.le_of_ble_eq_true rfl) rfl ?_)
              intro wz23 hS
              refine z_end ?_
              repeat (with_reducible first | apply ag | apply ac | apply af | apply ae | apply ab)
              obtain ⟨a', ha', hlt'⟩ := nat_less hD0 haD hMw p2 p4 p3
              exact ⟨a', _, rfl, ⟨by assumption, by assumption, by assumption, by assumption, by assumption, by assumption, want - amt W P lf want (W.length - 1), _, _, RT, ha', hMw.sub p4, by grind, by grind, hRT, p1, hS.drop (List.Sublist.append (List.Sublist.refl _) (drop_mD _ (List.nil_sublist _)))⟩, hlt'⟩
          · refine aN rfl (decide_eq_false (fun g => hwp (sgnQ_pos.1 g))) ?_
            repeat (with_reducible first | apply ag | apply ac | apply af | apply ae | apply ab)
            refine aU ?_
            repeat (with_reducible first | apply aA | apply az | refine ay rfl ?_)
            repeat (with_reducible first | apply ag | apply ac | apply af | apply ae | apply ab)
            obtain rfl : want = 0 := by grind
            exact ⟨_, rfl, h7, h61, h62, h63, P, lf, RS, hRS, hD, hS.drop (List.sublist_cons_self _ _)⟩
        clear hS h7 h61 h62 h63 hD hRS
        rintro ρ w7 ⟨h7, h61, h62, h63, P, lf, RS, hRS, hD, hS⟩
        repeat (with_reducible first | apply ag | apply ac | apply af | apply ae | apply ab)
        refine aj ?_
        refine aa rfl (aK  h63 rfl (IntWalk.i64_in _ (by omega)) ?_)
        refine aa rfl (ah  rfl ?_)
        refine ai ?_
        repeat (with_reducible first | apply ag | apply ac | apply af | apply ae | apply ab)
        exact ⟨c + 1, _, rfl, ⟨hlt, h7, h61, h62, vi rfl (by omega), P, lf, RS, hRS, hD.next rfl, hS⟩, by omega⟩
      · refine aN rfl (decide_eq_false (by omega)) ?_
        repeat (with_reducible first | apply ag | apply ac | apply af | apply ae | apply ab)
        refine aU ?_
        repeat (with_reducible first | apply aA | apply az | refine ay rfl ?_)
        repeat (with_reducible first | apply ag | apply ac | apply af | apply ae | apply ab)
        obtain rfl : c = owed.length := by omega
        exact ⟨_, rfl, h7, P, lf, RS, hRS, hD, hS⟩
    clear hS h7 hD hRS hRn hn1
    rintro ρ w6 ⟨h7, P, lf, RS, hRS, hD, hS⟩
    repeat (with_reducible first | apply ag | apply ac | apply af | apply ae | apply ab)
    refine aj ?_
    refine aa rfl (ah  h7 ?_)
    refine aa rfl (cL  rfl ?_)
    refine aa rfl (aH  rfl et ?_)
    refine aw rfl (aB (k := 1)  rfl gG hS rfl rfl rfl (.inr rfl) ?_)
    refine aa rfl (am  rfl ?_)
    refine aa rfl (am  rfl ?_)
    refine ai ?_
    repeat (with_reducible first | apply ag | apply ac | apply af | apply ae | apply ab)
    refine aE ?_
    repeat (with_reducible first | apply ap | apply ao)
    refine dw rfl rfl rfl ?_
    refine ⟨⟨_, rfl, fun _ => ⟨P, lf, _, hRS.mtsD ([(bt, 36, (tab owed.length fun c => ofQ (c8 X owed c)).flatMap aC)] ++ flB bf bo bl X.length capP capL sP sO sM 70 36 lf sp) (by rw [List.append_assoc]; exact hS) bg hc1 hc2, hD.fl.got fun k hk => if_pos hk, (hD.size hXB hD0 hDs).1⟩⟩, hB3.trans (hS.below.mono hB3.size)⟩
  · refine aD rfl (decide_eq_true (by omega)) ?_
    repeat (with_reducible first | apply ag | apply ac | apply af | apply ae | apply ab)
    refine aj ?_
    refine aa rfl (ah  rfl ?_)
    refine aa rfl (am  rfl ?_)
    refine aa rfl (am  rfl ?_)
    refine ai ?_
    repeat (with_reducible first | apply ag | apply ac | apply af | apply ae | apply ab)
    refine aE ?_
    repeat (with_reducible first | apply ap | apply ao)
    refine dw rfl rfl rfl ?_
    exact ⟨⟨_, rfl, fun h => absurd h h0⟩, hS.below⟩
end Go.Proofs.YtmghobajmhdbfaaGreatDoor
namespace Go.Proofs.YtmghobajmhdbfaaGreatDoor
open Go Go.RowKit Go.Sx Go.ChangeShapes Go.WideShapes
section
variable {H : Type} {enc0 : TypeId × Value → H} {P : Program} {w : World} {sp : Nat → Bool} {held : Bool}
/-- A slice whose elements can be read: as a list. -/
theorem open_sl {α : Type} {enc : α → List Value} {size : Nat} {G : α → Prop} {t e : TypeId} {fuel base : Nat} {cs : List Value} {x : DataW H × List MemPlace} (ht : P.underlying t = some (.slice e)) (hce : P.cellsOf e = size)
    (hel : ∀ (n : Nat) (cs : List Value) (y : DataW H × List MemPlace), DataW.trod enc0 P w base sp held n e cs = some y → ∃ a, cs = enc a ∧ G a)
    (h : DataW.trod enc0 P w base sp held fuel t cs = some x) : ∃ v L, cs = [v] ∧ Sl enc size w v L ∧ ∀ y ∈ L, G y := by
  rcases DataW.trod_slice ht h with ⟨h1, _⟩ | ⟨a, len, cap, elems, rest, n, _, h1, _, _, hlc, hm, hlen, hel2, _, _⟩
  · exact ⟨_, [], h1, Sl.nil _ _ _, fun x hx => by cases hx⟩
  · have each : ∀ i, i < len → ∃ y : α, G y ∧ ∀ j u, (enc y)[j]? = some u → w.cell? (a.add (i * size + j)) = some u := by
      intro i hi
      have h2 := hel2 i hi
      rw [hce, List.getElem?_eq_getElem (by omega : i < elems.length), Option.bind_eq_some_iff] at h2
      obtain ⟨cs2, hcs, htr⟩ := h2
      obtain ⟨_, hcl, hcell⟩ := World.cells?_some hcs
      obtain ⟨y, rfl, hG⟩ := hel _ _ _ htr
      refine ⟨y, hG, fun j u hj => ?_⟩
      have hjl : j < size := by
        rw [← hcl]
        exact (List.getElem?_eq_some_iff.1 hj).1
      rw [← hj, ← hcell j hjl, add_add]
    refine ⟨_, (List.range len).pmap (fun i hi => Classical.choose (each i hi)) (fun i hi => List.mem_range.1 hi), h1, ⟨⟨some a, cap, by simp, by simp; exact hlc, hm, fun q => by cases q⟩, fun i hi => ?_⟩, fun y hy => ?_⟩
    · have hil : i < len := by simpa using hi
      intro j u hu2
      rw [List.getElem_pmap] at hu2
      simp only [List.getElem_range] at hu2
      show w.cell? ((a.add (i * size)).add j) = _
      rw [add_add]
      exact (Classical.choose_spec (each i hil)).2 j u hu2
    · obtain ⟨i, hi, rfl⟩ := List.mem_pmap.1 hy
      exact (Classical.choose_spec (each i (List.mem_range.1 hi))).1
end
section
variable {H : Type} {enc0 : TypeId × Value → H} {w : World} {sp : Nat → Bool} {held : Bool}
theorem list3 {α : Type} {l : List α} (h : l.length = 3) : ∃ a b c, l = [a, b, c] := by
  match l, h with
  | [a, b, c], _ => exact ⟨a, b, c, rfl⟩
theorem cb_bool : Tryz.prog.cellsOf 4 = 1 := by kernel_rfl
theorem cb_string : Tryz.prog.cellsOf 9 = 1 := by kernel_rfl
theorem cb_int : Tryz.prog.cellsOf 3 = 1 := by kernel_rfl
theorem i9 : Tryz.prog.cellsOf 36 = 3 := by kernel_rfl
/-- How long a number's texts can be. -/
def rok (r : RR) : Prop := r.num.size ≤ maxLen ∧ r.den.size ≤ maxLen
theorem gq {n base : Nat} {cs : List Value} {y : DataW H × List MemPlace} (h : DataW.trod enc0 Tryz.prog w base sp held n 36 cs = some y) : ∃ r : RR, cs = aC r ∧ rok r := by
  obtain ⟨xs, m, _, _, hl, hxl, hf⟩ := DataW.trod_struct Tryz.underlying36 h
  rw [i9] at hl
  obtain ⟨u0, u1, u2, rfl⟩ := list3 hl
  have h3 : xs.length = 3 := hxl
  have h0 : DataW.trod enc0 Tryz.prog w base sp held m 4 (([u0, u1, u2].drop 0).take (Tryz.prog.cellsOf 4)) = xs[0]? := hf 0 _ rfl
  have h1 : DataW.trod enc0 Tryz.prog w base sp held m 9 (([u0, u1, u2].drop 1).take (Tryz.prog.cellsOf 9)) = xs[1]? := hf 1 _ rfl
  have h2 : DataW.trod enc0 Tryz.prog w base sp held m 9 (([u0, u1, u2].drop 2).take (Tryz.prog.cellsOf 9)) = xs[2]? := hf 2 _ rfl
  rw [cb_bool, List.getElem?_eq_getElem (by omega)] at h0
  rw [cb_string, List.getElem?_eq_getElem (by omega)] at h1 h2
  obtain ⟨b, e0, _⟩ := DataW.trod_bool Tryz.underlying4 h0
  obtain ⟨s, e1, _, hs⟩ := DataW.trod_string Tryz.underlying9 h1
  obtain ⟨d, e2, _, hd⟩ := DataW.trod_string Tryz.underlying9 h2
  obtain rfl : u0 = .bool b := (List.cons.inj e0).1
  obtain rfl : u1 = .string s := (List.cons.inj e1).1
  obtain rfl : u2 = .string d := (List.cons.inj e2).1
  exact ⟨⟨b, s, d⟩, rfl, hs, hd⟩
/-- An argument of type []api.Rat. -/
theorem open_rats {v : Value} {d : DataW H} {ps : List MemPlace} (hval : ∃ a n c, v = .slice a n c) (h : DataW.Trod enc0 Tryz.prog w 0 (fun _ => true) true 24 v d ps) : ∃ L : List RR, Sl aC 3 w v L ∧ ∀ r ∈ L, rok r := by
  obtain ⟨a, n, c, rfl⟩ := hval
  obtain ⟨fuel, hf⟩ := h
  obtain ⟨v, L, e, hS, hG⟩ := open_sl (enc := aC) (G := rok) Tryz.underlying24 i9 (fun _ _ _ h => gq h) hf
  simp only [Value.cells, List.cons.injEq, and_true] at e
  rw [e]
  exact ⟨L, hS, hG⟩
end
end Go.Proofs.YtmghobajmhdbfaaGreatDoor
namespace Go.Proofs.YtmghobajmhdbfaaGreatDoor
open Go Go.RowKit Go.Sx Go.ChangeShapes Go.WideShapes
section
variable {H : Type} {enc0 : TypeId × Value → H} {w : World} {sp : Nat → Bool} {held : Bool}
theorem list6 {α : Type} {l : List α} (h : l.length = 6) : ∃ a b c d e f, l = [a, b, c, d, e, f] := by
  match l, h with
  | [a, b, c, d, e, f], _ => exact ⟨a, b, c, d, e, f, rfl⟩
theorem list7 {α : Type} {l : List α} (h : l.length = 7) : ∃ a b c d e f g, l = [a, b, c, d, e, f, g] := by
  match l, h with
  | [a, b, c, d, e, f, g], _ => exact ⟨a, b, c, d, e, f, g, rfl⟩
theorem cb_ch : Tryz.prog.cellsOf 62 = 6 := by kernel_rfl
theorem cb_it : Tryz.prog.cellsOf 41 = 7 := by kernel_rfl
theorem cb_chs : Tryz.prog.cellsOf 39 = 1 := by kernel_rfl
theorem open_chc {n base : Nat} {cs : List Value} {y : DataW H × List MemPlace} (h : DataW.trod enc0 Tryz.prog w base sp held n 62 cs = some y) : ∃ o : Ch, cs = cS o ∧ True := by
  obtain ⟨xs, m, _, _, hl, hxl, hf⟩ := DataW.trod_struct Tryz.underlying62 h
  rw [cb_ch] at hl
  obtain ⟨u0, u1, u2, u3, u4, u5, rfl⟩ := list6 hl
  have h6 : xs.length = 4 := hxl
  have h0 : DataW.trod enc0 Tryz.prog w base sp held m 3 (([u0, u1, u2, u3, u4, u5].drop 0).take (Tryz.prog.cellsOf 3)) = xs[0]? := hf 0 _ rfl
  have h1 : DataW.trod enc0 Tryz.prog w base sp held m 3 (([u0, u1, u2, u3, u4, u5].drop 1).take (Tryz.prog.cellsOf 3)) = xs[1]? := hf 1 _ rfl
  have h2 : DataW.trod enc0 Tryz.prog w base sp held m 4 (([u0, u1, u2, u3, u4, u5].drop 2).take (Tryz.prog.cellsOf 4)) = xs[2]? := hf 2 _ rfl
  have h3 : DataW.trod enc0 Tryz.prog w base sp held m 36 (([u0, u1, u2, u3, u4, u5].drop 3).take (Tryz.prog.cellsOf 36)) = xs[3]? := hf 3 _ rfl
  rw [cb_int, List.getElem?_eq_getElem (by omega)] at h0 h1
  rw [cb_bool, List.getElem?_eq_getElem (by omega)] at h2
  rw [i9, List.getElem?_eq_getElem (by omega)] at h3
  obtain ⟨a, e0, _⟩ := DataW.trod_int Tryz.underlying3 h0
  obtain ⟨b, e1, _⟩ := DataW.trod_int Tryz.underlying3 h1
  obtain ⟨f, e2, _⟩ := DataW.trod_bool Tryz.underlying4 h2
  obtain ⟨r, e3, _⟩ := gq h3
  obtain rfl : u0 = .int .i64 a := (List.cons.inj e0).1
  obtain rfl : u1 = .int .i64 b := (List.cons.inj e1).1
  obtain rfl : u2 = .bool f := (List.cons.inj e2).1
  obtain rfl : u3 = .bool r.neg := (List.cons.inj e3).1
  obtain rfl : u4 = .string r.num := (List.cons.inj (List.cons.inj e3).2).1
  obtain rfl : u5 = .string r.den := (List.cons.inj (List.cons.inj (List.cons.inj e3).2).2).1
  exact ⟨⟨a, b, f, r⟩, rfl, trivial⟩
theorem open_itc {n base : Nat} {cs : List Value} {y : DataW H × List MemPlace} (h : DataW.trod enc0 Tryz.prog w base sp held n 41 cs = some y) : ∃ p : It × Value, cs = dx p ∧ Sl cS 6 w p.2 p.1.charges := by
  obtain ⟨xs, m, _, _, hl, hxl, hf⟩ := DataW.trod_struct Tryz.underlying41 h
  rw [cb_it] at hl
  obtain ⟨u0, u1, u2, u3, u4, u5, u6, rfl⟩ := list7 hl
  have h6 : xs.length = 3 := hxl
  have h0 : DataW.trod enc0 Tryz.prog w base sp held m 36 (([u0, u1, u2, u3, u4, u5, u6].drop 0).take (Tryz.prog.cellsOf 36)) = xs[0]? := hf 0 _ rfl
  have h1 : DataW.trod enc0 Tryz.prog w base sp held m 36 (([u0, u1, u2, u3, u4, u5, u6].drop 3).take (Tryz.prog.cellsOf 36)) = xs[1]? := hf 1 _ rfl
  have h2 : DataW.trod enc0 Tryz.prog w base sp held m 39 (([u0, u1, u2, u3, u4, u5, u6].drop 6).take (Tryz.prog.cellsOf 39)) = xs[2]? := hf 2 _ rfl
  rw [i9, List.getElem?_eq_getElem (by omega)] at h0 h1
  rw [cb_chs, List.getElem?_eq_getElem (by omega)] at h2
  obtain ⟨p, e0, _⟩ := gq h0
  obtain ⟨c, e1, _⟩ := gq h1
  obtain ⟨v, L, e2, hS, _⟩ := open_sl (enc := cS) (G := fun _ => True) Tryz.underlying39 cb_ch (fun _ _ _ h => open_chc h) h2
  obtain rfl : u0 = .bool p.neg := (List.cons.inj e0).1
  obtain rfl : u1 = .string p.num := (List.cons.inj (List.cons.inj e0).2).1
  obtain rfl : u2 = .string p.den := (List.cons.inj (List.cons.inj (List.cons.inj e0).2).2).1
  obtain rfl : u3 = .bool c.neg := (List.cons.inj e1).1
  obtain rfl : u4 = .string c.num := (List.cons.inj (List.cons.inj e1).2).1
  obtain rfl : u5 = .string c.den := (List.cons.inj (List.cons.inj (List.cons.inj e1).2).2).1
  obtain rfl : u6 = v := (List.cons.inj e2).1
  exact ⟨(⟨p, c, L⟩, u6), rfl, hS⟩
/-- An argument of type []api.Item. -/
theorem open_items {v : Value} {d : DataW H} {ps : List MemPlace} (hval : ∃ a n c, v = .slice a n c) (h : DataW.Trod enc0 Tryz.prog w 0 (fun _ => true) true 26 v d ps) : ∃ X cvs, Its w v X cvs := by
  obtain ⟨a, n, c, rfl⟩ := hval
  obtain ⟨fuel, hf⟩ := h
  obtain ⟨v, L, e, hS, hG⟩ := open_sl (enc := dx) (G := fun p => Sl cS 6 w p.2 p.1.charges) Tryz.underlying26 cb_it (fun _ _ _ h => open_itc h) hf
  simp only [Value.cells, List.cons.injEq, and_true] at e
  rw [e]
  have hz : (L.map (·.1)).zip (L.map (·.2)) = L := by
    rw [List.zip_map']
    exact List.map_id L
  refine ⟨L.map (·.1), L.map (·.2), ⟨by simp, by rw [hz]; exact hS, fun i hi => ?_⟩⟩
  rw [List.length_map] at hi
  have := hG L[i] (List.getElem_mem hi)
  rw [List.getD_eq_getElem?_getD, List.getD_eq_getElem?_getD, List.getElem?_map, List.getElem?_map, List.getElem?_eq_getElem hi]
  exact this
end
end Go.Proofs.YtmghobajmhdbfaaGreatDoor
namespace Go.Proofs.YtmghobajmhdbfaaGreatDoor
open Go Go.RowKit Go.Sx Go.ChangeShapes Go.WideShapes
section
variable {H : Type} {enc0 : TypeId × Value → H} {w : World}
/-- An argument of type []int64. -/
theorem open_i64s {t e : TypeId} {P : Program} {v : Value} {d : DataW H} {ps : List MemPlace} {b0 : Nat} (ht : P.underlying t = some (.slice e)) (he : P.underlying e = some (.int .i64)) (hc : P.cellsOf e = 1)
    (hval : Value.okWide P w .any b0 t v) (h : DataW.Trod enc0 P w 0 (fun _ => true) true t v d ps) : ∃ l : List Int, Sl enI 1 w v l ∧ ∀ x ∈ l, -9223372036854775808 ≤ x ∧ x ≤ 9223372036854775807 := by
  obtain ⟨a0, len0, cap0, rfl⟩ := okWide_slice ht hval
  obtain ⟨fuel, hf⟩ := h
  rcases open_ints ht he hc hf with ⟨h1, _⟩ | ⟨a, len, cap, zs, h1, _, hlc, hm, hz, _, hcell, hw⟩
  · simp only [Value.cells, List.cons.injEq, and_true] at h1
    rw [h1]
    exact ⟨[], Sl.nil _ _ _, fun x hx => by cases hx⟩
  · simp only [Value.cells, List.cons.injEq, and_true] at h1
    rw [h1]
    have hzl : zs.length = cap := by simpa using hz
    have hl : (zs.take len).length = len := by rw [List.length_take]; omega
    refine ⟨zs.take len, ⟨⟨some a, cap, by rw [hl], by rw [hl]; exact hlc, hm, fun q => by cases q⟩, fun i hi => ?_⟩, fun x hx => ?_⟩
    · rw [hl] at hi
      have hi2 : i < zs.length := by omega
      have h2 := hcell i hi2
      have h3 : zs.getD i 0 = zs[i] := by rw [List.getD_eq_getElem?_getD, List.getElem?_eq_getElem hi2]; rfl
      rw [Nat.mul_one]
      refine at_one ?_
      show w.cell? (a.add i) = _
      rw [h2, h3, List.getElem_take]
    · have := bounds_i64 (hw x (List.mem_of_mem_take hx))
      exact this
end
end Go.Proofs.YtmghobajmhdbfaaGreatDoor
namespace Go.Proofs.YtmghobajmhdbfaaGreatDoor
open Go Go.RowKit Go.Sx Go.ChangeShapes Go.WideShapes
def il (x : It) : Bool := decide (x.charges.length ≤ 10) && (few x.price && (few x.costs && x.charges.all fun c => few c.limit))
def frB (owed : List RR) : Bool := decide ((owed.length : Int) ≤ 6) && owed.all few
def ji (X : List It) (owed : List RR) : Bool := decide (X.length ≤ 4) && (frB owed && X.all il)
theorem fewI_B {X : List It} {owed : List RR} (h : ji X owed = true) : X.length ≤ 4 ∧ owed.length ≤ 6 ∧ ItB 24 X ∧ RB 24 owed ∧ ∀ x ∈ X, x.charges.length ≤ 10 := by
  unfold ji frB at h
  simp only [Bool.and_eq_true, decide_eq_true_eq, List.all_eq_true] at h
  obtain ⟨h1, ⟨h2, h3⟩, h4⟩ := h
  refine ⟨h1, by omega, fun x hx => ?_, fun r hr => jb (h3 r hr), fun x hx => ?_⟩
  · have := h4 x hx
    unfold il at this
    simp only [Bool.and_eq_true, decide_eq_true_eq, List.all_eq_true] at this
    exact ⟨jb this.2.1, jb this.2.2.1, fun c hc => jb (this.2.2.2 c hc)⟩
  · have := h4 x hx
    unfold il at this
    simp only [Bool.and_eq_true, decide_eq_true_eq] at this
    exact this.1
theorem all_step {α : Type} (f : α → Bool) (l : List α) (d : α) {i : Nat} (hi : i < l.length) (h : (l.take i).all f = true) :
    (f (l.getD i d) = true → (l.take (i + 1)).all f = true) ∧ (f (l.getD i d) = false → l.all f = false) := by
  constructor
  · intro g
    rw [cR l i d hi, List.all_append, h, List.all_cons, g]; rfl
  · intro g
    rw [List.all_eq_false]
    exact ⟨_, cb l i d hi, by rw [g]; decide⟩
set_option maxHeartbeats 1000000 in
theorem fewI_ok (vi_ vo : Value) (X : List It) (cvs : List Value) (owed : List RR) (w : World) (hX : Its w vi_ X cvs) (ho : Sl aC 3 w vo owed) :
    Ret Tryz.prog 16 #[vi_, vo] w fun v w' => v = .bool (ji X owed) ∧ Below w.heap.size w w' := by
  have hmX := hX.sl.maxLen
  rw [hX.zlen] at hmX
  have hzl := hX.zlen
  have hS := St.init w
  refine enter Tryz.func16 rfl Tryz.ntmps16 rfl ?_
  repeat (with_reducible first | apply ag | apply ac | apply af | apply ae | apply ab)
  refine aj ?_
  refine aa rfl (am  rfl ?_)
  refine ai ?_
  repeat (with_reducible first | apply ag | apply ac | apply af | apply ae | apply ab)
  by_cases h10 : 4 < X.length
  · repeat (with_reducible first | apply ag | apply ac | apply af | apply ae | apply ab)
    refine aj ?_
    refine aa rfl (ah  rfl ?_)
    refine aa rfl (aG  rfl (hX.sl.below hS.below) ⟨_, Tryz.underlying26⟩ ?_)
    refine aa rfl (cf  rfl rfl ?_)
    refine aa rfl (ah  rfl ?_)
    refine aW (au 12 (by kernel_rfl) rfl (decide_eq_true (by omega))) ?_
    refine aW (au 12 (by kernel_rfl) rfl (decide_eq_true (by omega))) ?_
    refine aW (au 12 (by kernel_rfl) rfl (decide_eq_true (by omega))) ?_
    refine aa rfl (aJ (vb rfl (decide_eq_true (by omega))) rfl ?_)
    refine ai ?_
    repeat (with_reducible first | apply ag | apply ac | apply af | apply ae | apply ab)
    refine aD rfl (rfl) ?_
    repeat (with_reducible first | apply ag | apply ac | apply af | apply ae | apply ab)
    refine aj ?_
    refine aa rfl (am  rfl ?_)
    refine ai ?_
    repeat (with_reducible first | apply ag | apply ac | apply af | apply ae | apply ab)
    refine aE ?_
    repeat (with_reducible first | apply ap | apply ao)
    refine aR rfl rfl ?_
    exact ⟨vb rfl (by unfold ji; rw [decide_eq_false (by omega)]; rfl), hS.below⟩
  have e10 : ji X owed = (frB owed && X.all il) := by unfold ji; rw [decide_eq_true (by omega)]; rfl
  repeat (with_reducible first | apply ag | apply ac | apply af | apply ae | apply ab)
  refine aj ?_
  refine aa rfl (ah  rfl ?_)
  refine aa rfl (aG  rfl (hX.sl.below hS.below) ⟨_, Tryz.underlying26⟩ ?_)
  refine aa rfl (cf  rfl rfl ?_)
  refine aa rfl (ah  rfl ?_)
  refine aa (ar 12 (by kernel_rfl) rfl (decide_eq_false (by omega))) (ah  rfl ?_)
  refine ak (ar 12 (by kernel_rfl) rfl (decide_eq_false (by omega))) (av Tryz.call39 rfl (FewRats_ok vo owed 6 _ (ho.below hS.below)) ?_)
  rintro _ wc1 ⟨rfl, hBc1⟩
  replace hS := hS.grow hBc1
  refine aa (ar 12 (by kernel_rfl) rfl (decide_eq_false (by omega))) (dX  rfl ?_)
  refine aa rfl (aJ (vb rfl (decide_eq_false (by omega))) rfl ?_)
  refine ai ?_
  repeat (with_reducible first | apply ag | apply ac | apply af | apply ae | apply ab)
  cases hfr : frB owed with
  | false =>
    refine aD rfl (by show (!frB owed) = true; rw [hfr]; rfl) ?_
    repeat (with_reducible first | apply ag | apply ac | apply af | apply ae | apply ab)
    refine aj ?_
    refine aa rfl (am  rfl ?_)
    refine ai ?_
    repeat (with_reducible first | apply ag | apply ac | apply af | apply ae | apply ab)
    refine aE ?_
    repeat (with_reducible first | apply ap | apply ao)
    refine aR rfl rfl ?_
    exact ⟨vb rfl (by rw [e10, hfr]; rfl), hS.below⟩
  | true =>
  refine aN rfl (by show (!frB owed) = false; rw [hfr]; rfl) ?_
  repeat (with_reducible first | apply ag | apply ac | apply af | apply ae | apply ab)
  have e11 : ji X owed = X.all il := by rw [e10, hfr]; rfl
  rw [e11]
  repeat (with_reducible first | apply ag | apply ac | apply af | apply ae | apply ab)
  refine aj ?_
  refine aa rfl (ah  rfl ?_)
  refine aa rfl (aG  rfl (hX.sl.below hS.below) ⟨_, Tryz.underlying26⟩ ?_)
  refine aa rfl (ah  rfl ?_)
  refine ai ?_
  repeat (with_reducible first | apply ag | apply ac | apply af | apply ae | apply ab)
  refine a5 (σ := Nat) (fun i ρ w' => i ≤ X.length ∧ (X.take i).all il = true ∧ ρ 17 = vi_ ∧ ρ 18 = .int .i64 X.length ∧ ρ 19 = .int .i64 i ∧ St w w' []) (fun i => X.length - i) 0
    ⟨Nat.zero_le _, rfl, rfl, vi rfl (by rw [hzl]), rfl, hS⟩ ?_
  clear hS
  rintro i ρ w2 ⟨hi, hok1, h17, h18, h19, hS⟩
  repeat (with_reducible first | apply ag | apply ac | apply af | apply ae | apply ab)
  refine aj ?_
  refine aa rfl (aV  h19 h18 ?_)
  refine ai ?_
  repeat (with_reducible first | apply ag | apply ac | apply af | apply ae | apply ab)
  by_cases hlt : i < X.length
  · refine aD rfl (decide_eq_true (by omega)) ?_
    repeat (with_reducible first | apply ag | apply ac | apply af | apply ae | apply ab)
    obtain ⟨x, hx⟩ : ∃ x, x = X.getD i zIt := ⟨_, rfl⟩
    obtain ⟨cv, hcv⟩ : ∃ cv, cv = cvs.getD i undef := ⟨_, rfl⟩
    have hch := hX.ch i hlt
    rw [← hx, ← hcv] at hch
    have hmc := hch.maxLen
    obtain ⟨ca, ccap, hcve, _⟩ := hch.form
    subst hcve
    have hzg := hX.zget hlt
    rw [← hx, ← hcv] at hzg
    obtain ⟨f1, f2⟩ := all_step il X zIt hlt hok1
    rw [← hx] at f1 f2
    repeat (with_reducible first | apply ag | apply ac | apply af | apply ae | apply ab)
    refine aj ?_
    refine aa rfl (aX (i := i)  h17 h19 (hX.sl.below hS.below) (by omega) (by first | omega | (simp; done) | (simp; omega)) g8 ?_)
    refine aw rfl (a6 (v := fq x (.slice ca x.charges.length ccap)) (i := i) (zIt, undef)  rfl eD (hX.sl.below hS.below) (by omega) rfl (by rw [hzg]; rfl) (.inl rfl) ?_)
    refine ak rfl (aZ  eD hS ?_)
    intro b6 wz2 hS hBz2
    refine ak rfl (a8 (k := 0)  rfl rfl eD hS rfl rfl rfl (Nat.le_of_ble_eq_true rfl) rfl ?_)
    intro wz3 hS
    refine ai ?_
    repeat (with_reducible first | apply ag | apply ac | apply af | apply ae | apply ab)
    replace hS : St w _ [(b6, 41, dx (x, .slice ca x.charges.length ccap))] := hS
    repeat (with_reducible first | apply ag | apply ac | apply af | apply ae | apply ab)
    refine eE (fun ρ' => ρ' 17 = vi_ ∧ ρ' 18 = .int .i64 X.length ∧ ρ' 19 = .int .i64 i ∧ ρ' 6 = .pointer (some ⟨b6, 0, none⟩) ∧ True) ⟨h17, h18, h19, rfl, trivial⟩ ?_
    rintro ρk4 ⟨hk4_17, hk4_18, hk4_19, hk4_6, -⟩
    refine a9 (fun ρ w' => ρ 17 = vi_ ∧ ρ 18 = .int .i64 X.length ∧ ρ 19 = .int .i64 i ∧ ρ 6 = .pointer (some ⟨b6, 0, none⟩) ∧ ρ 38 = .bool (!(decide (x.charges.length ≤ 10) && (few x.price && few x.costs))) ∧ St w w' [(b6, 41, dx (x, .slice ca x.charges.length ccap))]) ?_ ?_
    · by_cases h12 : 10 < x.charges.length
      · repeat (with_reducible first | apply ag | apply ac | apply af | apply ae | apply ab)
        refine aj ?_
        refine aa rfl (aH  hk4_6 dQ ?_)
        refine aw rfl (aB (k := 0)  rfl f0 hS rfl rfl rfl (.inr rfl) ?_)
        refine aa rfl (aG  rfl (hch.below hS.below) ⟨_, Tryz.underlying39⟩ ?_)
        refine aa rfl (cf  rfl rfl ?_)
        refine aa rfl (ah  rfl ?_)
        refine aW (au 27 (by kernel_rfl) rfl (decide_eq_true (by omega))) ?_
        refine aW (au 27 (by kernel_rfl) rfl (decide_eq_true (by omega))) ?_
        refine aW (au 27 (by kernel_rfl) rfl (decide_eq_true (by omega))) ?_
        refine aW (au 27 (by kernel_rfl) rfl (decide_eq_true (by omega))) ?_
        refine aa rfl (aJ (vb rfl (decide_eq_true (by omega))) rfl ?_)
        refine aa rfl (ah  rfl ?_)
        refine aW (au 33 (by kernel_rfl) rfl rfl) ?_
        refine aW (au 33 (by kernel_rfl) rfl rfl) ?_
        refine aW (au 33 (by kernel_rfl) rfl rfl) ?_
        refine aW (au 33 (by kernel_rfl) rfl rfl) ?_
        refine aa rfl (aJ (vb rfl rfl) rfl ?_)
        refine ai ?_
        repeat (with_reducible first | apply ag | apply ac | apply af | apply ae | apply ab)
        exact ⟨_, rfl, by assumption, by assumption, by assumption, by assumption, vb rfl (by rw [decide_eq_false (by omega)]; rfl), hS⟩
      have e12 : decide (x.charges.length ≤ 10) = true := decide_eq_true (by omega)
      rw [e12]
      cases hfp : few x.price with
      | false =>
        repeat (with_reducible first | apply ag | apply ac | apply af | apply ae | apply ab)
        refine aj ?_
        refine aa rfl (aH  hk4_6 dQ ?_)
        refine aw rfl (aB (k := 0)  rfl f0 hS rfl rfl rfl (.inr rfl) ?_)
        refine aa rfl (aG  rfl (hch.below hS.below) ⟨_, Tryz.underlying39⟩ ?_)
        refine aa rfl (cf  rfl rfl ?_)
        refine aa rfl (ah  rfl ?_)
        refine aa (ar 27 (by kernel_rfl) rfl (decide_eq_false (by omega))) (aH  hk4_6 fp ?_)
        refine aw (ar 27 (by kernel_rfl) rfl (decide_eq_false (by omega))) (aB (k := 0)  rfl ax hS rfl rfl rfl (.inl rfl) ?_)
        refine ak (ar 27 (by kernel_rfl) rfl (decide_eq_false (by omega))) (av Tryz.call40 rfl (iL x.price _) ?_)
        rintro r w3 ⟨rfl, hB3⟩
        rw [hfp]
        replace hS := hS.grow hB3
        refine aa (ar 27 (by kernel_rfl) rfl (decide_eq_false (by omega))) (dX  rfl ?_)
        refine aa rfl (aJ (vb rfl (decide_eq_false (by omega))) rfl ?_)
        refine aa rfl (ah  rfl ?_)
        refine aW (au 33 (by kernel_rfl) rfl rfl) ?_
        refine aW (au 33 (by kernel_rfl) rfl rfl) ?_
        refine aW (au 33 (by kernel_rfl) rfl rfl) ?_
        refine aW (au 33 (by kernel_rfl) rfl rfl) ?_
        refine aa rfl (aJ (vb rfl rfl) rfl ?_)
        refine ai ?_
        repeat (with_reducible first | apply ag | apply ac | apply af | apply ae | apply ab)
        exact ⟨_, rfl, by assumption, by assumption, by assumption, by assumption, vb rfl rfl, hS⟩
      | true =>
        repeat (with_reducible first | apply ag | apply ac | apply af | apply ae | apply ab)
        refine aj ?_
        refine aa rfl (aH  hk4_6 dQ ?_)
        refine aw rfl (aB (k := 0)  rfl f0 hS rfl rfl rfl (.inr rfl) ?_)
        refine aa rfl (aG  rfl (hch.below hS.below) ⟨_, Tryz.underlying39⟩ ?_)
        refine aa rfl (cf  rfl rfl ?_)
        refine aa rfl (ah  rfl ?_)
        refine aa (ar 27 (by kernel_rfl) rfl (decide_eq_false (by omega))) (aH  hk4_6 fp ?_)
        refine aw (ar 27 (by kernel_rfl) rfl (decide_eq_false (by omega))) (aB (k := 0)  rfl ax hS rfl rfl rfl (.inl rfl) ?_)
        refine ak (ar 27 (by kernel_rfl) rfl (decide_eq_false (by omega))) (av Tryz.call40 rfl (iL x.price _) ?_)
        rintro r w3 ⟨rfl, hB3⟩
        rw [hfp]
        replace hS := hS.grow hB3
        refine aa (ar 27 (by kernel_rfl) rfl (decide_eq_false (by omega))) (dX  rfl ?_)
        refine aa rfl (aJ (vb rfl (decide_eq_false (by omega))) rfl ?_)
        refine aa rfl (ah  rfl ?_)
        refine aa (ar 33 (by kernel_rfl) rfl rfl) (aH  hk4_6 gR ?_)
        refine aw (ar 33 (by kernel_rfl) rfl rfl) (aB (k := 0)  rfl ax hS rfl rfl rfl (.inl rfl) ?_)
        refine ak (ar 33 (by kernel_rfl) rfl rfl) (av Tryz.call40 rfl (iL x.costs _) ?_)
        rintro r w4 ⟨rfl, hB4⟩
        replace hS := hS.grow hB4
        refine aa (ar 33 (by kernel_rfl) rfl rfl) (dX  rfl ?_)
        refine aa rfl (aJ (vb rfl rfl) rfl ?_)
        refine ai ?_
        repeat (with_reducible first | apply ag | apply ac | apply af | apply ae | apply ab)
        exact ⟨_, rfl, by assumption, by assumption, by assumption, by assumption, vb rfl (by simp), hS⟩
    clear hS h17 h18 h19
    rintro ρ w5 ⟨h17, h18, h19, h6, h38, hS⟩
    repeat (with_reducible first | apply ag | apply ac | apply af | apply ae | apply ab)
    have efi : il x = ((decide (x.charges.length ≤ 10) && (few x.price && few x.costs)) && x.charges.all fun c => few c.limit) := by unfold il; simp only [Bool.and_assoc]
    cases hpc : (decide (x.charges.length ≤ 10) && (few x.price && few x.costs)) with
    | false =>
      rw [hpc] at efi h38
      refine aD h38 rfl ?_
      repeat (with_reducible first | apply ag | apply ac | apply af | apply ae | apply ab)
      refine aj ?_
      refine aa rfl (am  rfl ?_)
      refine ai ?_
      repeat (with_reducible first | apply ag | apply ac | apply af | apply ae | apply ab)
      refine aE ?_
      repeat (with_reducible first | apply ap | apply ao)
      refine aR rfl rfl ?_
      exact ⟨vb rfl (f2 efi).symm, hS.below⟩
    | true =>
      rw [hpc] at efi h38
      refine aN h38 rfl ?_
      repeat (with_reducible first | apply ag | apply ac | apply af | apply ae | apply ab)
      refine aj ?_
      refine aa rfl (aH  h6 dQ ?_)
      refine aw rfl (aB (k := 0)  rfl f0 hS rfl rfl rfl (.inr rfl) ?_)
      refine aa rfl (aG  rfl (hch.below hS.below) ⟨_, Tryz.underlying39⟩ ?_)
      refine aa rfl (ah  rfl ?_)
      refine ai ?_
      repeat (with_reducible first | apply ag | apply af | apply ae | apply ab)
      refine a9 (fun ρ w' => (x.charges.all fun c => few c.limit) = true ∧ ρ 17 = vi_ ∧ ρ 18 = .int .i64 X.length ∧ ρ 19 = .int .i64 i ∧ St w w' []) ?_ ?_
      · repeat (with_reducible first | apply ag | apply ac | apply af | apply ae | apply ab)
        refine a5 (σ := Nat) (fun k ρ w' => k ≤ x.charges.length ∧ ((x.charges.take k).all fun c => few c.limit) = true ∧ ρ 17 = vi_ ∧ ρ 18 = .int .i64 X.length ∧ ρ 19 = .int .i64 i ∧ ρ 40 = .slice ca x.charges.length ccap ∧ ρ 41 = .int .i64 x.charges.length ∧ ρ 42 = .int .i64 k ∧ St w w' []) (fun k => x.charges.length - k) 0
          ⟨Nat.zero_le _, rfl, h17, h18, h19, rfl, rfl, rfl, hS.drop (List.nil_sublist _)⟩ ?_
        clear hS h17 h18 h19 h6 h38
        rintro k ρ w6 ⟨hk1, hok, h17, h18, h19, h40, h41, h42, hS⟩
        repeat (with_reducible first | apply ag | apply ac | apply af | apply ae | apply ab)
        refine aj ?_
        refine aa rfl (aV  h42 h41 ?_)
        refine ai ?_
        repeat (with_reducible first | apply ag | apply ac | apply af | apply ae | apply ab)
        by_cases hkl : k < x.charges.length
        · refine aD rfl (decide_eq_true (by omega)) ?_
          repeat (with_reducible first | apply ag | apply ac | apply af | apply ae | apply ab)
          obtain ⟨c, hc⟩ : ∃ c, c = x.charges.getD k zCh := ⟨_, rfl⟩
          obtain ⟨g1, g2⟩ := all_step (fun c => few c.limit) x.charges zCh hkl hok
          rw [← hc] at g1 g2
          repeat (with_reducible first | apply ag | apply ac | apply af | apply ae | apply ab)
          refine aj ?_
          refine aa rfl (aX (i := k)  h40 h42 (hch.below hS.below) (by omega) (by first | omega | (simp; done) | (simp; omega)) iK ?_)
          refine aw rfl (a6 (i := k) zCh  rfl f6 (hch.below hS.below) (by first | omega | (simp; done) | (simp; omega)) rfl rfl (.inl rfl) ?_)
          refine ak rfl (aZ  f6 hS ?_)
          intro b8 wz5 hS hBz5
          refine ak rfl (a8 (k := 0)  rfl rfl f6 hS rfl rfl rfl (Nat.le_of_ble_eq_true rfl) rfl ?_)
          intro wz6 hS
          refine ai ?_
          repeat (with_reducible first | apply ag | apply ac | apply af | apply ae | apply ab)
          replace hS : St w _ [(b8, 62, cS (x.charges.getD k zCh))] := hS
          rw [← hc] at hS
          repeat (with_reducible first | apply ag | apply ac | apply af | apply ae | apply ab)
          refine aj ?_
          refine aa rfl (aH  rfl fo_62_3 ?_)
          refine aw rfl (aB (k := 0)  rfl ax hS rfl rfl rfl (.inl rfl) ?_)
          refine ak rfl (av Tryz.call40 rfl (iL c.limit _) ?_)
          rintro _ wc7 ⟨rfl, hBc7⟩
          replace hS := hS.grow hBc7
          refine aa rfl (dX  rfl ?_)
          refine ai ?_
          repeat (with_reducible first | apply ag | apply ac | apply af | apply ae | apply ab)
          cases hfl : few c.limit with
          | false =>
            refine aD rfl (rfl) ?_
            repeat (with_reducible first | apply ag | apply ac | apply af | apply ae | apply ab)
            refine aj ?_
            refine aa rfl (am  rfl ?_)
            refine ai ?_
            repeat (with_reducible first | apply ag | apply ac | apply af | apply ae | apply ab)
            refine aE ?_
            repeat (with_reducible first | apply ap | apply ao)
            refine aR rfl rfl ?_
            exact ⟨vb rfl (f2 (by rw [efi, g2 hfl]; rfl)).symm, hS.below⟩
          | true =>
            refine aN rfl (rfl) ?_
            repeat (with_reducible first | apply ag | apply ac | apply af | apply ae | apply ab)
            refine aj ?_
            refine aa rfl (aK  h42 rfl (IntWalk.i64_in _ (by omega)) ?_)
            refine aa rfl (ah  rfl ?_)
            refine ai ?_
            repeat (with_reducible first | apply ag | apply ac | apply af | apply ae | apply ab)
            exact ⟨k + 1, _, rfl, ⟨hkl, g1 hfl, by assumption, by assumption, by assumption, by assumption, by assumption, vi rfl (by omega), hS.drop (List.nil_sublist _)⟩, by omega⟩
        · refine aN rfl (decide_eq_false (by omega)) ?_
          repeat (with_reducible first | apply ag | apply ac | apply af | apply ae | apply ab)
          refine aU ?_
          repeat (with_reducible first | apply aA | apply az | refine ay rfl ?_)
          repeat (with_reducible first | apply ag | apply ac | apply af | apply ae | apply ab)
          have e : x.charges.take k = x.charges := List.take_of_length_le (by omega)
          rw [e] at hok
          exact ⟨_, rfl, hok, h17, h18, h19, hS⟩
      clear hS h17 h18 h19 h6 h38
      rintro ρ w6 ⟨hall, h17, h18, h19, hS⟩
      repeat (with_reducible first | apply ag | apply ac | apply af | apply ae | apply ab)
      refine aj ?_
      refine aa rfl (aK  h19 rfl (IntWalk.i64_in _ (by omega)) ?_)
      refine aa rfl (ah  rfl ?_)
      refine ai ?_
      repeat (with_reducible first | apply ag | apply ac | apply af | apply ae | apply ab)
      exact ⟨i + 1, _, rfl, ⟨hlt, f1 (by rw [efi, hall]; rfl), by assumption, by assumption, vi rfl (by omega), hS⟩, by omega⟩
  · refine aN rfl (decide_eq_false (by omega)) ?_
    repeat (with_reducible first | apply ag | apply ac | apply af | apply ae | apply ab)
    refine aU ?_
    repeat (with_reducible first | apply aA | apply az | refine ay rfl ?_)
    repeat (with_reducible first | apply ag | apply ac | apply af | apply ae | apply ab)
    have e : X.take i = X := List.take_of_length_le (by omega)
    rw [e] at hok1
    repeat (with_reducible first | apply ag | apply ac | apply af | apply ae | apply ab)
    refine aj ?_
    refine aa rfl (am  rfl ?_)
    refine ai ?_
    repeat (with_reducible first | apply ag | apply ac | apply af | apply ae | apply ab)
    refine aE ?_
    repeat (with_reducible first | apply ap | apply ao)
    refine aR rfl rfl ?_
    exact ⟨vb rfl hok1.symm, hS.below⟩
theorem SameRats_selfR (va vb : Value) (A : List RR) (w : World) (ha : Sl aC 3 w va A) (hb : Sl aC 3 w vb A) :
    Ret Tryz.prog 22 #[va, vb] w fun v w' => v = .bool true ∧ Below w.heap.size w w' :=
  (SameRats_ok va vb A A w ha hb).mono fun _ _ ⟨h, hB⟩ => ⟨by rw [h, decide_eq_true rfl], hB⟩
set_option maxHeartbeats 4000000 in
theorem MarshalRaw_ok (vi_ vo vc : Value) (X : List It) (cvs : List Value) (owed : List RR) (C : List Int) (w : World) (hX : Its w vi_ X cvs) (ho : Sl aC 3 w vo owed) (hC : Sl enI 1 w vc C)
    (hT : At w ⟨2, 0, none⟩ (Kr .u8 tzTab)) :
    Ret Tryz.prog 4 #[vi_, vo, vc] w fun v w' => v = .bool true ∧ Below w.heap.size w w' := by
  have hM : MX = 1099511627776 := rfl
  have hcm := hC.maxLen
  have hS := St.init w
  refine enter Tryz.func4 rfl Tryz.ntmps4 rfl ?_
  repeat (with_reducible first | apply ag | apply ac | apply af | apply ae | apply ab)
  refine aj ?_
  refine aa rfl (am  rfl ?_)
  refine ai ?_
  repeat (with_reducible first | apply ag | apply ac | apply af | apply ae | apply ab)
  refine aj ?_
  refine aa rfl (ah  rfl ?_)
  refine aa rfl (ah  rfl ?_)
  refine ak rfl (av Tryz.call16 rfl (fewI_ok vi_ vo X cvs owed _ (hX.below hS.below) (ho.below hS.below)) ?_)
  rintro rf w1 ⟨rfl, hB1⟩
  replace hS := hS.grow hB1
  replace hC := hC.below hS.below
  replace hX := hX.below hS.below
  replace ho := ho.below hS.below
  replace hT := hT.below hS.below
  have hW := hS.below
  clear hS
  have hS := St.init w1
  cases hf : ji X owed with
  | false =>
    refine aa rfl (dX  rfl ?_)
    refine aa rfl (ah  rfl ?_)
    refine aW (au 25 (by kernel_rfl) rfl rfl) ?_
    refine aW (au 25 (by kernel_rfl) rfl rfl) ?_
    refine aW (au 25 (by kernel_rfl) rfl rfl) ?_
    refine aa rfl (aJ (vb rfl rfl) rfl ?_)
    refine ai ?_
    repeat (with_reducible first | apply ag | apply ac | apply af | apply ae | apply ab)
    refine aD rfl (rfl) ?_
    repeat (with_reducible first | apply ag | apply ac | apply af | apply ae | apply ab)
    refine aj ?_
    refine ak rfl (av Tryz.call15 rfl (awake_ok _ (hT.below hS.below)) ?_)
    rintro _ wc1 ⟨rfl, hBc1⟩
    replace hS := hS.grow hBc1
    refine aa rfl (am  rfl ?_)
    refine ai ?_
    repeat (with_reducible first | apply ag | apply ac | apply af | apply ae | apply ab)
    refine aE ?_
    repeat (with_reducible first | apply ap | apply ao)
    refine aR rfl rfl ?_
    exact ⟨rfl, bt hW hS.below⟩
  | true =>
  obtain ⟨hx4, ho6, hXB, hoB, _⟩ := fewI_B hf
  have hcap := fun w h1 h2 h3 h4 => Capacity_ok vi_ vo vc X cvs owed C 24 w h1 h2 h3 hXB hoB (by rw [hM]; decide) h4
  have hrcap := fun w h1 h2 h3 => rCapacity_ok vi_ vo vc X cvs owed C 24 w h1 h2 h3 hXB hoB (by rw [hM]; decide)
  have htot := fun w h1 h2 h3 => Totals_ok vi_ vo X cvs owed 24 w h1 h2 hXB hoB (by rw [hM]; decide) h3
  have hrtot := fun w h1 h2 => rTotals_ok vi_ vo X cvs owed 24 w h1 h2 hXB hoB (by rw [hM]; decide)
  have hgr := fun w h1 h2 => Greedy_ok vi_ vo X cvs owed 24 w h1 h2 hXB hoB (by rw [hM]; decide)
  have hrgr := fun w h1 h2 => rGreedy_ok vi_ vo X cvs owed 24 w h1 h2 hXB hoB (by rw [hM]; decide)
  have hdis := fun w h1 h2 h3 => Distribute_ok vi_ vo X cvs owed 24 w h1 h2 hXB hoB (by rw [hM]; decide) h3
  obtain ⟨cr, hcr⟩ : ∃ q, q = gH X owed C := ⟨_, rfl⟩
  obtain ⟨e1, he1⟩ : ∃ q, q = gy X owed C := ⟨_, rfl⟩
  obtain ⟨e2, he2⟩ : ∃ q, q = bS X owed := ⟨_, rfl⟩
  rw [← hcr, ← he1] at hcap hrcap
  rw [← he2] at htot hrtot hgr hrgr hdis
  by_cases hc10 : 10 < C.length
  · refine aa rfl (dX  rfl ?_)
    refine aa rfl (ah  rfl ?_)
    refine aa (ar 25 (by kernel_rfl) rfl rfl) (ah  rfl ?_)
    refine aa (ar 25 (by kernel_rfl) rfl rfl) (aG  rfl hC ⟨_, Tryz.underlying47⟩ ?_)
    refine aa (ar 25 (by kernel_rfl) rfl rfl) (cf  rfl rfl ?_)
    refine aa rfl (aJ (vb rfl rfl) rfl ?_)
    refine ai ?_
    repeat (with_reducible first | apply ag | apply ac | apply af | apply ae | apply ab)
    refine aD rfl (decide_eq_true (by omega)) ?_
    repeat (with_reducible first | apply ag | apply ac | apply af | apply ae | apply ab)
    refine aj ?_
    refine ak rfl (av Tryz.call15 rfl (awake_ok _ (hT.below hS.below)) ?_)
    rintro _ wc2 ⟨rfl, hBc2⟩
    replace hS := hS.grow hBc2
    refine aa rfl (am  rfl ?_)
    refine ai ?_
    repeat (with_reducible first | apply ag | apply ac | apply af | apply ae | apply ab)
    refine aE ?_
    repeat (with_reducible first | apply ap | apply ao)
    refine aR rfl rfl ?_
    exact ⟨rfl, bt hW hS.below⟩
  refine aa rfl (dX  rfl ?_)
  refine aa rfl (ah  rfl ?_)
  refine aa (ar 25 (by kernel_rfl) rfl rfl) (ah  rfl ?_)
  refine aa (ar 25 (by kernel_rfl) rfl rfl) (aG  rfl hC ⟨_, Tryz.underlying47⟩ ?_)
  refine aa (ar 25 (by kernel_rfl) rfl rfl) (cf  rfl rfl ?_)
  refine aa rfl (aJ (vb rfl rfl) rfl ?_)
  refine ai ?_
  repeat (with_reducible first | apply ag | apply ac | apply af | apply ae | apply ab)
  refine aN rfl (decide_eq_false (by omega)) ?_
  repeat (with_reducible first | apply ag | apply ac | apply af | apply ae | apply ab)
  refine aj ?_
  refine aa rfl (ah  rfl ?_)
  refine aa rfl (ah  rfl ?_)
  refine aa rfl (ah  rfl ?_)
  refine ak rfl (av Tryz.call17 rfl (hcap _ (hX.below hS.below) (ho.below hS.below) (hC.below hS.below) (hT.below hS.below)) ?_)
  rintro r3 w3 ⟨rfl, hB3⟩
  replace hS := hS.grow hB3
  replace hC := hC.below hS.below
  replace hX := hX.below hS.below
  replace ho := ho.below hS.below
  replace hT := hT.below hS.below
  replace hW := bt hW hS.below
  clear hS
  have hS := St.init w3
  refine aa rfl (ah  rfl ?_)
  refine aa rfl (bL  rfl rfl ?_)
  refine aa rfl (bL  rfl rfl ?_)
  refine ak rfl (aZ  ax hS ?_)
  intro b7 wz3 hS hBz3
  refine ak rfl (a8 (k := 0)  rfl rfl ax hS rfl rfl rfl (Nat.le_of_ble_eq_true rfl) rfl ?_)
  intro wz4 hS
  refine aa rfl (am  rfl ?_)
  refine ai ?_
  repeat (with_reducible first | apply ag | apply ac | apply af | apply ae | apply ab)
  replace hS : St w3 _ [(b7, 36, aC cr)] := hS
  repeat (with_reducible first | apply ag | apply ac | apply af | apply ae | apply ab)
  refine eE (fun ρ' => ρ' 0 = vi_ ∧ ρ' 1 = vo ∧ ρ' 2 = vc ∧ ρ' 7 = .pointer (some ⟨b7, 0, none⟩) ∧ ρ' 8 = .int .i64 e1 ∧ True) ⟨rfl, rfl, rfl, rfl, rfl, trivial⟩ ?_
  rintro ρk5 ⟨hk5_0, hk5_1, hk5_2, hk5_7, hk5_8, -⟩
  repeat (with_reducible first | apply ag | apply ac | apply af | apply ae | apply ab)
  refine aj ?_
  refine aa rfl (ah  hk5_0 ?_)
  refine aa rfl (ah  hk5_1 ?_)
  refine aa rfl (ah  hk5_2 ?_)
  refine ak rfl (av Tryz.call18 rfl (hrcap _ (hX.below hS.below) (ho.below hS.below) (hC.below hS.below)) ?_)
  rintro r4 w4 ⟨rfl, hB4⟩
  replace hS := hS.grow hB4
  have hat7 : At w4 ⟨b7, 0, none⟩ (aC cr) := hS.at (k := 0) rfl 0 3
  replace hX := hX.below hS.below
  replace ho := ho.below hS.below
  replace hT := hT.below hS.below
  replace hW := bt hW hS.below
  clear hS
  have hS := St.init w4
  refine aa rfl (ah  rfl ?_)
  refine aa rfl (bL  rfl rfl ?_)
  refine aa rfl (bL  rfl rfl ?_)
  refine ak rfl (aZ  ax hS ?_)
  intro b9 wz6 hS hBz6
  refine ak rfl (a8 (k := 0)  rfl rfl ax hS rfl rfl rfl (Nat.le_of_ble_eq_true rfl) rfl ?_)
  intro wz7 hS
  refine aa rfl (am  rfl ?_)
  refine ai ?_
  repeat (with_reducible first | apply ag | apply ac | apply af | apply ae | apply ab)
  replace hS : St w4 _ [(b9, 36, aC cr)] := hS
  repeat (with_reducible first | apply ag | apply ac | apply af | apply ae | apply ab)
  refine eE (fun ρ' => ρ' 0 = vi_ ∧ ρ' 1 = vo ∧ ρ' 7 = .pointer (some ⟨b7, 0, none⟩) ∧ ρ' 8 = .int .i64 e1 ∧ ρ' 9 = .pointer (some ⟨b9, 0, none⟩) ∧ ρ' 10 = .int .i64 e1 ∧ True) ⟨hk5_0, hk5_1, hk5_7, hk5_8, rfl, rfl, trivial⟩ ?_
  rintro ρk8 ⟨hk8_0, hk8_1, hk8_7, hk8_8, hk8_9, hk8_10, -⟩
  repeat (with_reducible first | apply ag | apply ac | apply af | apply ae | apply ab)
  refine aj ?_
  refine aa rfl (ah  hk8_0 ?_)
  refine aa rfl (ah  hk8_1 ?_)
  refine ak rfl (av Tryz.call8 rfl (htot _ (hX.below hS.below) (ho.below hS.below) (hT.below hS.below)) ?_)
  rintro r5 w5 ⟨⟨v11, rfl, h11⟩, hB5⟩
  replace hS := hS.grow hB5
  refine aa rfl (ah  rfl ?_)
  refine aa rfl (bL  rfl rfl ?_)
  refine aa rfl (bL  rfl rfl ?_)
  refine aa rfl (am  rfl ?_)
  refine aa rfl (am  rfl ?_)
  refine ai ?_
  repeat (with_reducible first | apply ag | apply ac | apply af | apply ae | apply ab)
  refine eE (fun ρ' => ρ' 0 = vi_ ∧ ρ' 1 = vo ∧ ρ' 7 = .pointer (some ⟨b7, 0, none⟩) ∧ ρ' 8 = .int .i64 e1 ∧ ρ' 9 = .pointer (some ⟨b9, 0, none⟩) ∧ ρ' 10 = .int .i64 e1 ∧ ρ' 11 = v11 ∧ ρ' 12 = .int .i64 e2 ∧ True) ⟨hk8_0, hk8_1, hk8_7, hk8_8, hk8_9, hk8_10, rfl, rfl, trivial⟩ ?_
  rintro ρk9 ⟨hk9_0, hk9_1, hk9_7, hk9_8, hk9_9, hk9_10, hk9_11, hk9_12, -⟩
  repeat (with_reducible first | apply ag | apply ac | apply af | apply ae | apply ab)
  refine aj ?_
  refine aa rfl (ah  hk9_0 ?_)
  refine aa rfl (ah  hk9_1 ?_)
  refine ak rfl (av Tryz.call19 rfl (hrtot _ (hX.below hS.below) (ho.below hS.below)) ?_)
  rintro r6 w6 ⟨⟨v13, rfl, h13⟩, hB6⟩
  replace hS := hS.grow hB6
  replace h11 := h11.below hB6
  refine aa rfl (ah  rfl ?_)
  refine aa rfl (bL  rfl rfl ?_)
  refine aa rfl (bL  rfl rfl ?_)
  refine aa rfl (am  rfl ?_)
  refine aa rfl (am  rfl ?_)
  refine ai ?_
  repeat (with_reducible first | apply ag | apply ac | apply af | apply ae | apply ab)
  refine eE (fun ρ' => ρ' 0 = vi_ ∧ ρ' 1 = vo ∧ ρ' 7 = .pointer (some ⟨b7, 0, none⟩) ∧ ρ' 8 = .int .i64 e1 ∧ ρ' 9 = .pointer (some ⟨b9, 0, none⟩) ∧ ρ' 10 = .int .i64 e1 ∧ ρ' 11 = v11 ∧ ρ' 12 = .int .i64 e2 ∧ ρ' 13 = v13 ∧ ρ' 14 = .int .i64 e2 ∧ True) ⟨hk9_0, hk9_1, hk9_7, hk9_8, hk9_9, hk9_10, hk9_11, hk9_12, rfl, rfl, trivial⟩ ?_
  rintro ρk10 ⟨hk10_0, hk10_1, hk10_7, hk10_8, hk10_9, hk10_10, hk10_11, hk10_12, hk10_13, hk10_14, -⟩
  repeat (with_reducible first | apply ag | apply ac | apply af | apply ae | apply ab)
  refine aj ?_
  refine aa rfl (ah  hk10_0 ?_)
  refine aa rfl (ah  hk10_1 ?_)
  refine ak rfl (av Tryz.call20 rfl (hgr _ (hX.below hS.below) (ho.below hS.below)) ?_)
  rintro r7 w7 ⟨⟨v15, rfl, h15⟩, hB7⟩
  replace hS := hS.grow hB7
  replace h11 := h11.below hB7
  replace h13 := h13.below hB7
  refine aa rfl (ah  rfl ?_)
  refine aa rfl (bL  rfl rfl ?_)
  refine aa rfl (bL  rfl rfl ?_)
  refine aa rfl (am  rfl ?_)
  refine aa rfl (am  rfl ?_)
  refine ai ?_
  repeat (with_reducible first | apply ag | apply ac | apply af | apply ae | apply ab)
  refine eE (fun ρ' => ρ' 0 = vi_ ∧ ρ' 1 = vo ∧ ρ' 7 = .pointer (some ⟨b7, 0, none⟩) ∧ ρ' 8 = .int .i64 e1 ∧ ρ' 9 = .pointer (some ⟨b9, 0, none⟩) ∧ ρ' 10 = .int .i64 e1 ∧ ρ' 11 = v11 ∧ ρ' 12 = .int .i64 e2 ∧ ρ' 13 = v13 ∧ ρ' 14 = .int .i64 e2 ∧ ρ' 15 = v15 ∧ ρ' 16 = .int .i64 e2 ∧ True) ⟨hk10_0, hk10_1, hk10_7, hk10_8, hk10_9, hk10_10, hk10_11, hk10_12, hk10_13, hk10_14, rfl, rfl, trivial⟩ ?_
  rintro ρk11 ⟨hk11_0, hk11_1, hk11_7, hk11_8, hk11_9, hk11_10, hk11_11, hk11_12, hk11_13, hk11_14, hk11_15, hk11_16, -⟩
  repeat (with_reducible first | apply ag | apply ac | apply af | apply ae | apply ab)
  refine aj ?_
  refine aa rfl (ah  hk11_0 ?_)
  refine aa rfl (ah  hk11_1 ?_)
  refine ak rfl (av Tryz.call21 rfl (hrgr _ (hX.below hS.below) (ho.below hS.below)) ?_)
  rintro r8 w8 ⟨⟨v17, rfl, h17⟩, hB8⟩
  replace hS := hS.grow hB8
  replace h11 := h11.below hB8
  replace h13 := h13.below hB8
  replace h15 := h15.below hB8
  refine aa rfl (ah  rfl ?_)
  refine aa rfl (bL  rfl rfl ?_)
  refine aa rfl (bL  rfl rfl ?_)
  refine aa rfl (am  rfl ?_)
  refine aa rfl (am  rfl ?_)
  refine ai ?_
  repeat (with_reducible first | apply ag | apply ac | apply af | apply ae | apply ab)
  refine eE (fun ρ' => ρ' 0 = vi_ ∧ ρ' 1 = vo ∧ ρ' 7 = .pointer (some ⟨b7, 0, none⟩) ∧ ρ' 8 = .int .i64 e1 ∧ ρ' 9 = .pointer (some ⟨b9, 0, none⟩) ∧ ρ' 10 = .int .i64 e1 ∧ ρ' 11 = v11 ∧ ρ' 12 = .int .i64 e2 ∧ ρ' 13 = v13 ∧ ρ' 14 = .int .i64 e2 ∧ ρ' 15 = v15 ∧ ρ' 16 = .int .i64 e2 ∧ ρ' 17 = v17 ∧ ρ' 18 = .int .i64 e2 ∧ True) ⟨hk11_0, hk11_1, hk11_7, hk11_8, hk11_9, hk11_10, hk11_11, hk11_12, hk11_13, hk11_14, hk11_15, hk11_16, rfl, rfl, trivial⟩ ?_
  rintro ρk12 ⟨hk12_0, hk12_1, hk12_7, hk12_8, hk12_9, hk12_10, hk12_11, hk12_12, hk12_13, hk12_14, hk12_15, hk12_16, hk12_17, hk12_18, -⟩
  repeat (with_reducible first | apply ag | apply ac | apply af | apply ae | apply ab)
  refine aj ?_
  refine aa rfl (ah  hk12_0 ?_)
  refine aa rfl (ah  hk12_1 ?_)
  refine ak rfl (av Tryz.call7 rfl (hdis _ (hX.below hS.below) (ho.below hS.below) (hT.below hS.below)) ?_)
  rintro r9 w9 ⟨⟨v19, rfl, _⟩, hB9⟩
  replace hS := hS.grow hB9
  replace h11 := h11.below hB9
  replace h13 := h13.below hB9
  replace h15 := h15.below hB9
  replace h17 := h17.below hB9
  refine aa rfl (ah  rfl ?_)
  refine aa rfl (bL  rfl rfl ?_)
  refine aa rfl (bL  rfl rfl ?_)
  refine aa rfl (am  rfl ?_)
  refine aa rfl (am  rfl ?_)
  refine ai ?_
  repeat (with_reducible first | apply ag | apply ac | apply af | apply ae | apply ab)
  refine eE (fun ρ' => ρ' 7 = .pointer (some ⟨b7, 0, none⟩) ∧ ρ' 8 = .int .i64 e1 ∧ ρ' 9 = .pointer (some ⟨b9, 0, none⟩) ∧ ρ' 10 = .int .i64 e1 ∧ ρ' 11 = v11 ∧ ρ' 12 = .int .i64 e2 ∧ ρ' 13 = v13 ∧ ρ' 14 = .int .i64 e2 ∧ ρ' 15 = v15 ∧ ρ' 16 = .int .i64 e2 ∧ ρ' 17 = v17 ∧ ρ' 18 = .int .i64 e2 ∧ ρ' 20 = .int .i64 e2 ∧ True) ⟨hk12_7, hk12_8, hk12_9, hk12_10, hk12_11, hk12_12, hk12_13, hk12_14, hk12_15, hk12_16, hk12_17, hk12_18, rfl, trivial⟩ ?_
  rintro ρk13 ⟨hk13_7, hk13_8, hk13_9, hk13_10, hk13_11, hk13_12, hk13_13, hk13_14, hk13_15, hk13_16, hk13_17, hk13_18, hk13_20, -⟩
  repeat (with_reducible first | apply ag | apply ac | apply af | apply ae | apply ab)
  refine aj ?_
  refine ak rfl (av Tryz.call15 rfl (awake_ok _ (hT.below hS.below)) ?_)
  rintro ra wa ⟨rfl, hBa⟩
  replace hS := hS.grow hBa
  replace h11 := h11.below hBa
  replace h13 := h13.below hBa
  replace h15 := h15.below hBa
  replace h17 := h17.below hBa
  refine aa rfl (ah  rfl ?_)
  refine aw (ar 76 (by kernel_rfl) rfl rfl) (gJ (v := bE cr)  hk13_7 ax (hat7.below hS.below) rfl rfl (.inl rfl) ?_)
  refine aw (ar 76 (by kernel_rfl) rfl rfl) (aB (k := 0)  hk13_9 ax hS rfl rfl rfl (.inl rfl) ?_)
  refine aa (ar 76 (by kernel_rfl) rfl rfl) (jl  rfl rfl ?_)
  refine aa rfl (aJ (vb rfl rfl) rfl ?_)
  refine aa rfl (ah  rfl ?_)
  refine aa (ar 81 (by kernel_rfl) rfl (decide_eq_true rfl)) (ah  hk13_8 ?_)
  refine aa (ar 81 (by kernel_rfl) rfl (decide_eq_true rfl)) (ah  hk13_10 ?_)
  refine aa (ar 81 (by kernel_rfl) rfl (decide_eq_true rfl)) (c6  rfl rfl ?_)
  refine aa rfl (aJ (vb rfl (decide_eq_true rfl)) rfl ?_)
  refine aa rfl (ah  rfl ?_)
  refine aa (ar 86 (by kernel_rfl) rfl (decide_eq_true rfl)) (ah  hk13_11 ?_)
  refine aa (ar 86 (by kernel_rfl) rfl (decide_eq_true rfl)) (ah  hk13_13 ?_)
  refine ak (ar 86 (by kernel_rfl) rfl (decide_eq_true rfl)) (av Tryz.call22 rfl (SameRats_selfR _ _ _ _ h11 h13) ?_)
  rintro rb wb ⟨rfl, hBb⟩
  replace hS := hS.grow hBb
  replace h15 := h15.below hBb
  replace h17 := h17.below hBb
  refine aa rfl (aJ (vb rfl (decide_eq_true rfl)) rfl ?_)
  refine aa rfl (ah  rfl ?_)
  refine aa (ar 91 (by kernel_rfl) rfl rfl) (ah  hk13_12 ?_)
  refine aa (ar 91 (by kernel_rfl) rfl rfl) (ah  hk13_14 ?_)
  refine aa (ar 91 (by kernel_rfl) rfl rfl) (c6  rfl rfl ?_)
  refine aa rfl (aJ (vb rfl rfl) rfl ?_)
  refine aa rfl (ah  rfl ?_)
  refine aa (ar 96 (by kernel_rfl) rfl (decide_eq_true rfl)) (ah  hk13_15 ?_)
  refine aa (ar 96 (by kernel_rfl) rfl (decide_eq_true rfl)) (ah  hk13_17 ?_)
  refine ak (ar 96 (by kernel_rfl) rfl (decide_eq_true rfl)) (av Tryz.call22 rfl (SameRats_selfR _ _ _ _ h15 h17) ?_)
  rintro rc wc ⟨rfl, hBc⟩
  replace hS := hS.grow hBc
  refine aa rfl (aJ (vb rfl (decide_eq_true rfl)) rfl ?_)
  refine aa rfl (ah  rfl ?_)
  refine aa (ar 101 (by kernel_rfl) rfl rfl) (ah  hk13_16 ?_)
  refine aa (ar 101 (by kernel_rfl) rfl rfl) (ah  hk13_18 ?_)
  refine aa (ar 101 (by kernel_rfl) rfl rfl) (c6  rfl rfl ?_)
  refine aa rfl (aJ (vb rfl rfl) rfl ?_)
  refine aa rfl (ah  rfl ?_)
  refine aa (ar 106 (by kernel_rfl) rfl (decide_eq_true rfl)) (ah  hk13_20 ?_)
  refine aa (ar 106 (by kernel_rfl) rfl (decide_eq_true rfl)) (ah  hk13_12 ?_)
  refine aa (ar 106 (by kernel_rfl) rfl (decide_eq_true rfl)) (c6  rfl rfl ?_)
  refine aa rfl (aJ (vb rfl (decide_eq_true rfl)) rfl ?_)
  refine aa rfl (am  rfl ?_)
  refine ai ?_
  repeat (with_reducible first | apply ag | apply ac | apply af | apply ae | apply ab)
  refine aE ?_
  repeat (with_reducible first | apply ap | apply ao)
  refine aR rfl rfl ?_
  exact ⟨vb rfl (decide_eq_true rfl), bt hW hS.below⟩
end Go.Proofs.YtmghobajmhdbfaaGreatDoor
