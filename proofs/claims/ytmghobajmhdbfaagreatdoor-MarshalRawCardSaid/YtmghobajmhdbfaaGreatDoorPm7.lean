/-
  Part 7 of the texts that the law's proof is made of: the framework and the walks.
-/
import Derived.Test.YtmghobajmhdbfaaGreatDoorPm6
import Derived.ProofKit
import Derived.OpenShut
import Derived.LaidMore
import Derived.Lay
import Derived.ChangeSlices
import Derived.Carry
import Derived.WideShapes
import Derived.Test.YtmghobajmhdbfaaGreatDoorTie
import Derived.SevenTiedAt
import Derived.Stop.Joined
namespace Go.Proofs.YtmghobajmhdbfaaGreatDoor
open Go Go.RowKit Go.Sx
def gL (X : List It) (owed : List RR) : List RR := if bS X owed = 0 then tab owed.length fun c => ofQ ((gall X owed owed.length).out c) else []
theorem procs_tab (X : List It) : bV X = tab X.length fun i => ofQ (prF X i) := by
  conv => lhs; rw [tab_of (bV X) zRR]
  rw [fD]
  exact bs fun i hi => gu X hi
theorem mask_bit {X : List It} {m c i : Nat} {R : List Nat} (hR : Masks X m X.length 0 R) (hc : c < m) (hi : i < X.length) : (R.getD c 0).testBit i = cD (X.getD i zIt) c := by
  rw [hR.bit c hc i, decide_eq_true hi, List.take_zero, List.any_nil, Bool.and_false, Bool.or_false, Bool.true_and]
theorem gY {x i : Nat} : (x &&& 2 ^ i = 0) ↔ x.testBit i = false := by
  constructor
  · intro h
    have := congrArg (fun y => y.testBit i) h
    simpa [Nat.testBit_and, Nat.testBit_two_pow] using this
  · intro h
    refine Nat.eq_of_testBit_eq fun j => ?_
    rw [Nat.testBit_and, Nat.testBit_two_pow, Nat.zero_testBit]
    by_cases e : i = j
    · subst e; rw [h]; rfl
    · rw [decide_eq_false e, Bool.and_false]
theorem gst_out {X : List It} {owed : List RR} {s : GS} {c i n : Nat} (h : cD (X.getD i zIt) c = true) : (tab n fun k => ofQ (s.out k)).set c (ofQ (s.out c + pay owed s c i)) = tab n fun k => ofQ ((gst X owed s c i).out k) := by
  rw [eU]
  refine bs fun k _ => ?_
  unfold gst
  rw [if_pos h]
  simp only
  split <;> rfl
theorem gst_p {X : List It} {owed : List RR} {s : GS} {c i n : Nat} (h : cD (X.getD i zIt) c = true) : (tab n fun k => ofQ (s.p k)).set i (ofQ (s.p i - pay owed s c i)) = tab n fun k => ofQ ((gst X owed s c i).p k) := by
  rw [eU]
  refine bs fun k _ => ?_
  unfold gst
  rw [if_pos h]
  simp only
  split <;> rfl
theorem gst_no {X : List It} {owed : List RR} {s : GS} {c i : Nat} (h : cD (X.getD i zIt) c = false) : gst X owed s c i = s := by
  unfold gst
  rw [if_neg (by rw [h]; decide)]
set_option maxHeartbeats 2000000 in
theorem Greedy_ok (vi_ vo : Value) (X : List It) (cvs : List Value) (owed : List RR) (K : Nat) (w : World) (hX : Its w vi_ X cvs) (ho : Sl aC 3 w vo owed) (hXB : ItB K X) (hoB : RB K owed) (hK : 100 * K + 100 ≤ MX) :
    Ret Tryz.prog 20 #[vi_, vo] w fun v w' => (∃ vt, v = .tuple #[vt, .int .i64 (bS X owed)] ∧ Sl aC 3 w' vt (gL X owed)) ∧ Below w.heap.size w w' := by
  have hM : MX = 1099511627776 := rfl
  have hom := ho.maxLen
  have hS := St.init w
  obtain ⟨m, hm⟩ : ∃ m, m = owed.length := ⟨_, rfl⟩
  obtain ⟨n, hn⟩ : ∃ n, n = X.length := ⟨_, rfl⟩
  have hzero : (List.replicate m zRR) = tab m fun k => ofQ ((gall X owed 0).out k) := by
    rw [fN]; exact bs fun i _ => by rw [show (gall X owed 0).out i = 0 from rfl, cI]; rfl
  refine enter Tryz.func20 rfl Tryz.ntmps20 rfl ?_
  repeat (with_reducible first | apply ag | apply ac | apply af | apply ae | apply ab)
  refine aj ?_
  refine aa rfl (am  rfl ?_)
  refine aa rfl (am  rfl ?_)
  refine ai ?_
  repeat (with_reducible first | apply ag | apply ac | apply af | apply ae | apply ab)
  refine aj ?_
  refine aa rfl (ah  rfl ?_)
  refine aa rfl (ah  rfl ?_)
  refine ak rfl (av Tryz.call25 rfl (gS vi_ vo X cvs owed _ (hX.below hS.below) (ho.below hS.below) (fa hXB (by omega)) (fY hoB (by omega))) ?_)
  rintro _ wc1 ⟨rfl, hBc1⟩
  replace hS := hS.grow hBc1
  refine aa rfl (am  rfl ?_)
  refine ai ?_
  repeat (with_reducible first | apply ag | apply ac | apply af | apply ae | apply ab)
  obtain ⟨e, he⟩ : ∃ e, e = bS X owed := ⟨_, rfl⟩
  rw [← he]
  repeat (with_reducible first | apply ag | apply ac | apply af | apply ae | apply ab)
  refine aj ?_
  refine aa rfl (ah  rfl ?_)
  refine aa rfl (e9  rfl rfl ?_)
  refine ai ?_
  repeat (with_reducible first | apply ag | apply ac | apply af | apply ae | apply ab)
  by_cases h0 : e = 0
  · refine aN rfl (decide_eq_false (by omega)) ?_
    repeat (with_reducible first | apply ag | apply ac | apply af | apply ae | apply ab)
    have hck := he.symm.trans h0
    obtain ⟨hX8, ho24, hng, hit, hcl⟩ := dm hck
    repeat (with_reducible first | apply ag | apply ac | apply af | apply ae | apply ab)
    refine aj ?_
    refine aa rfl (ah  rfl ?_)
    refine aa rfl (ah  rfl ?_)
    refine ak rfl (av Tryz.call26 rfl (gT vi_ vo X cvs owed K _ (hX.below hS.below) (ho.below hS.below) hXB hoB (by omega) hX8 ho24 hcl) ?_)
    rintro r w3 ⟨sP, sO, LP, LO, bI, R, rfl, hP, hO, hR, hS3⟩
    replace hS := hS.join hS3
    rw [List.append_nil] at hS
    obtain ⟨aP, cP, hsP⟩ := hP.len
    obtain ⟨aO, cO, hsO⟩ := hO.len
    have hpl := fD X
    have hol := ia owed
    rw [hpl, ← hn] at hsP
    subst hsP hsO
    rw [procs_tab, ← hn] at hP
    rw [← hm]
    rw [← hm] at hR
    refine ak rfl (aZ  eK hS ?_)
    intro b7 wz2 hS hBz2
    refine ak rfl (a8 (k := 0)  rfl rfl eK hS rfl rfl rfl (Nat.le_of_ble_eq_true rfl) rfl ?_)
    intro wz3 hS
    refine ai ?_
    repeat (with_reducible first | apply ag | apply ac | apply af | apply ae | apply ab)
    refine aj ?_
    refine aa rfl (ah  rfl ?_)
    refine aa rfl (aG  rfl (ho.below hS.below) ⟨_, Tryz.underlying24⟩ ?_)
    refine ak rfl (eu (enc := aC) (n := m) zRR  rfl rfl bH rfl (by omega) (by omega) (by omega) (by omega) hS ?_)
    intro b8 wz4 hS hBz4
    refine aa rfl (am  rfl ?_)
    refine ai ?_
    repeat (with_reducible first | apply ag | apply ac | apply af | apply ae | apply ab)
    rw [← hm]
    rw [hzero] at hS
    replace hS : St w _ ([(b8, 36, (tab m fun k => ofQ ((gall X owed 0).out k)).flatMap aC), (b7, 67, [.slice aP n cP, .slice aO (bU owed).length cO, .slice (some ⟨bI, 0, none⟩) m m]), (bI, 85, Kr .u64 R)] ++ LO ++ LP) := hS
    repeat (with_reducible first | apply ag | apply ac | apply af | apply ae | apply ab)
    refine aj ?_
    refine aa rfl (ah  rfl ?_)
    refine aa rfl (dC  rfl ⟨_, Tryz.underlying24⟩ ?_)
    refine aa rfl (ah  rfl ?_)
    refine ai ?_
    repeat (with_reducible first | apply ag | apply ac | apply af | apply ae | apply ab)
    refine a5 (σ := Nat) (fun c ρ w' => c ≤ m ∧ ρ 7 = .pointer (some ⟨b7, 0, none⟩) ∧ ρ 8 = .slice (some ⟨b8, 0, none⟩) m m ∧ ρ 25 = .int .i64 m ∧ ρ 26 = .int .i64 c ∧
        ∃ LP, Gl aC 36 3 (.slice aP n cP) (tab n fun k => ofQ ((gall X owed c).p k)) LP ∧
        St w w' ([(b8, 36, (tab m fun k => ofQ ((gall X owed c).out k)).flatMap aC), (b7, 67, [.slice aP n cP, .slice aO (bU owed).length cO, .slice (some ⟨bI, 0, none⟩) m m]), (bI, 85, Kr .u64 R)] ++ LO ++ LP)) (fun c => m - c) 0
      ⟨Nat.zero_le _, rfl, rfl, rfl, rfl, ⟨_, hP, hS⟩⟩ ?_
    clear hS hP
    rintro c ρ w4 ⟨hc, h7, h8, h25, h26, LP, hP, hS⟩
    repeat (with_reducible first | apply ag | apply ac | apply af | apply ae | apply ab)
    refine aj ?_
    refine aa rfl (aV  h26 h25 ?_)
    refine ai ?_
    repeat (with_reducible first | apply ag | apply ac | apply af | apply ae | apply ab)
    by_cases hlt : c < m
    · refine aD rfl (decide_eq_true (by omega)) ?_
      repeat (with_reducible first | apply ag | apply ac | apply af | apply ae | apply ab)
      have hcl2 : c < owed.length := by omega
      have hRl := hR.len
      repeat (with_reducible first | apply ag | apply ac | apply af | apply ae | apply ab)
      refine aj ?_
      refine aa rfl (ah  h26 ?_)
      refine aa rfl (am  rfl ?_)
      refine ai ?_
      repeat (with_reducible first | apply ag | apply ac | apply af | apply ae | apply ab)
      refine aj ?_
      refine aa rfl (aH  h7 eT ?_)
      refine aw rfl (aB (k := 1)  rfl cX hS rfl rfl rfl (.inr rfl) ?_)
      refine aa rfl (aG  rfl (hP.sl hS bg) ⟨_, Tryz.underlying24⟩ ?_)
      refine aa rfl (ah  rfl ?_)
      refine ai ?_
      repeat (with_reducible first | apply ag | apply af | apply ae | apply ab)
      rw [bp]
      refine a9 (fun ρ w' => ρ 7 = .pointer (some ⟨b7, 0, none⟩) ∧ ρ 8 = .slice (some ⟨b8, 0, none⟩) m m ∧ ρ 25 = .int .i64 m ∧ ρ 26 = .int .i64 c ∧
        ∃ LP, Gl aC 36 3 (.slice aP n cP) (tab n fun k => ofQ ((gall X owed (c + 1)).p k)) LP ∧
        St w w' ([(b8, 36, (tab m fun k => ofQ ((gall X owed (c + 1)).out k)).flatMap aC), (b7, 67, [.slice aP n cP, .slice aO (bU owed).length cO, .slice (some ⟨bI, 0, none⟩) m m]), (bI, 85, Kr .u64 R)] ++ LO ++ LP)) ?_ ?_
      · repeat (with_reducible first | apply ag | apply ac | apply af | apply ae | apply ab)
        refine a5 (σ := Nat) (fun i ρ w' => i ≤ n ∧ ρ 7 = .pointer (some ⟨b7, 0, none⟩) ∧ ρ 8 = .slice (some ⟨b8, 0, none⟩) m m ∧ ρ 25 = .int .i64 m ∧ ρ 26 = .int .i64 c ∧ ρ 9 = .int .i64 c ∧ ρ 31 = .int .i64 n ∧ ρ 32 = .int .i64 i ∧
            ∃ s LP, s = grow X owed c (gall X owed c) i ∧ Gl aC 36 3 (.slice aP n cP) (tab n fun k => ofQ (s.p k)) LP ∧
            St w w' ([(b8, 36, (tab m fun k => ofQ (s.out k)).flatMap aC), (b7, 67, [.slice aP n cP, .slice aO (bU owed).length cO, .slice (some ⟨bI, 0, none⟩) m m]), (bI, 85, Kr .u64 R)] ++ LO ++ LP)) (fun i => n - i) 0
          ⟨Nat.zero_le _, h7, h8, h25, h26, rfl, rfl, rfl, ⟨_, _, rfl, hP, hS⟩⟩ ?_
        clear hS hP h7 h8 h25 h26
        rintro i ρ w5 ⟨hi, h7, h8, h25, h26, h9, h31, h32, s, LP, hs, hP, hS⟩
        have htl := bp m fun k => ofQ (s.out k)
        have htn := bp n fun k => ofQ (s.p k)
        repeat (with_reducible first | apply ag | apply ac | apply af | apply ae | apply ab)
        refine aj ?_
        refine aa rfl (aV  h32 h31 ?_)
        refine ai ?_
        repeat (with_reducible first | apply ag | apply ac | apply af | apply ae | apply ab)
        by_cases hli : i < n
        · refine aD rfl (decide_eq_true (by omega)) ?_
          repeat (with_reducible first | apply ag | apply ac | apply af | apply ae | apply ab)
          have hiX : i < X.length := by omega
          have hbit := mask_bit hR hlt hiX
          have hRlt := hR.lt c hlt
          have hp2 : 2 ^ i < 256 := Nat.lt_of_lt_of_le (Nat.pow_lt_pow_right (by decide) (show i < 8 by omega)) (by decide)
          have htax : tax X.length owed s ≤ 40 * K + 40 := by rw [hs]; exact Nat.le_trans (tax_grow hcl2 (by omega)) (tax_gall hXB hoB hX8 ho24 (by omega))
          obtain ⟨hb1, hb2⟩ := tax_L hoB htax
          repeat (with_reducible first | apply ag | apply ac | apply af | apply ae | apply ab)
          refine aj ?_
          refine aa rfl (ah  h32 ?_)
          refine aa rfl (am  rfl ?_)
          refine ai ?_
          repeat (with_reducible first | apply ag | apply ac | apply af | apply ae | apply ab)
          refine bm [(0, .pure), (1, .read), (2, .pure), (3, .pure), (4, .read), (5, .pure), (6, .pure), (7, .pure), (8, .pure)] (by kernel_rfl) (by kernel_rfl) hS ?_
          intro wz5 hS hBz5
          refine al rfl rfl (aH  h7 iB ?_)
          refine aF rfl rfl (aB (k := 1)  rfl jr hS rfl rfl rfl (.inr rfl) ?_)
          refine al rfl rfl (ah  h9 ?_)
          refine al rfl rfl (a7 (i := c)  rfl rfl (by omega) (by first | omega | (simp; done) | (simp; omega)) iR ?_)
          refine aF rfl rfl (ct (k := 2) (i := c)  rfl jn hS rfl (by omega) (by first | omega | (simp; done) | (simp; omega)) ?_)
          refine al rfl rfl (ah  rfl ?_)
          refine al rfl rfl (ef  rfl rfl (by omega) (ee 1 i ((2 ^ i : Nat) : Int) (by show i ≤ 64; omega) (aQ _ ⟨by rw [Nat.one_mul], Int.natCast_nonneg _, by omega⟩)) ?_)
          refine al rfl rfl (gz  rfl rfl (r := ((R.getD c 0 &&& 2 ^ i : Nat) : Int)) (by exact go rfl _ _ (by show _ < 18446744073709551616; omega) (by show _ < 18446744073709551616; omega)) ?_)
          refine al rfl rfl (c6  rfl rfl ?_)
          refine bC ?_
          repeat (with_reducible first | apply ag | apply ac | apply af | apply ae | apply ab)
          by_cases hsec : cD (X.getD i zIt) c = true
          · have hne : ¬ R.getD c 0 &&& 2 ^ i = 0 := fun g => by rw [gY, hbit, hsec] at g; cases g
            refine aN rfl (decide_eq_false (by omega)) ?_
            repeat (with_reducible first | apply ag | apply ac | apply af | apply ae | apply ab)
            have hgo : (tab m fun k => ofQ (s.out k)).getD c zRR = ofQ (s.out c) := cE _ _ hlt
            have hgw : (bU owed).getD c zRR = ofQ (owF owed c) := owed_get owed hcl2
            have hgp : (tab n fun k => ofQ (s.p k)).getD i zRR = ofQ (s.p i) := cE _ _ hli
            have hLo := hb1 c hcl2
            have hLp := hb2 i hiX
            have hLw := ix hoB hcl2
            have hLx := jg (d3 owed s c) (s.p i)
            have hde : toQ ((bU owed).getD c zRR) - toQ ((tab m fun k => ofQ (s.out k)).getD c zRR) = d3 owed s c := by rw [hgw, hgo, toQ_ofQ, toQ_ofQ]; rfl
            refine a9 (fun ρ w' => ρ 7 = .pointer (some ⟨b7, 0, none⟩) ∧ ρ 8 = .slice (some ⟨b8, 0, none⟩) m m ∧ ρ 25 = .int .i64 m ∧ ρ 26 = .int .i64 c ∧ ρ 9 = .int .i64 c ∧ ρ 10 = .int .i64 i ∧ ρ 31 = .int .i64 n ∧ ρ 32 = .int .i64 i ∧ ∃ b11, ρ 11 = .pointer (some ⟨b11, 0, none⟩) ∧
              St w w' ([(b11, 36, aC (ofQ (pay owed s c i))), (b8, 36, (tab m fun k => ofQ (s.out k)).flatMap aC), (b7, 67, [.slice aP n cP, .slice aO (bU owed).length cO, .slice (some ⟨bI, 0, none⟩) m m]), (bI, 85, Kr .u64 R)] ++ LO ++ LP)) ?_ ?_
            · repeat (with_reducible first | apply ag | apply ac | apply af | apply ae | apply ab)
              refine c_float 16 [(0, .pure), (1, .read), (2, .pure), (3, .pure), (4, .read), (5, .pure), (6, .pure), (7, .pure), (8, .read), (10, .pure), (11, .read), (12, .pure), (13, .pure), (14, .read), (9, .grow), (15, .grow), (17, .free)] (by kernel_rfl) (by kernel_rfl) hS ?_
              intro wz6 hS hBz6
              refine cV (by kernel_rfl) rfl rfl (aH  h7 fk ?_)
              refine dO (by kernel_rfl) rfl rfl (aB (k := 1)  rfl cX hS rfl rfl rfl (.inr rfl) ?_)
              refine cV (by kernel_rfl) rfl rfl (ah  h9 ?_)
              refine cV (by kernel_rfl) rfl rfl (aX (i := c)  rfl rfl (hO.sl (hS.drop (List.sublist_append_left _ _)) bg) (by omega) (by first | omega | (simp; done) | (simp; omega)) bH ?_)
              refine dO (by kernel_rfl) rfl rfl (a6 (i := c) zRR  rfl ax (hO.sl (hS.drop (List.sublist_append_left _ _)) bg) (by first | omega | (simp; done) | (simp; omega)) rfl rfl (.inl rfl) ?_)
              refine cV (by kernel_rfl) rfl rfl (ah  h8 ?_)
              refine cV (by kernel_rfl) rfl rfl (ah  h9 ?_)
              refine cV (by kernel_rfl) rfl rfl (a7 (i := c)  rfl rfl (by omega) (by first | omega | (simp; done) | (simp; omega)) bH ?_)
              refine dO (by kernel_rfl) rfl rfl (gm (k := 0) (i := c) (enc := aC) zRR (fun _ => rfl)  rfl ax hS rfl (by first | omega | simp) (by first | omega | (simp; done) | (simp; omega)) rfl (.inl rfl) ?_)
              refine cV (by kernel_rfl) rfl rfl (aH  h7 eT ?_)
              refine dO (by kernel_rfl) rfl rfl (aB (k := 1)  rfl cX hS rfl rfl rfl (.inr rfl) ?_)
              refine cV (by kernel_rfl) rfl rfl (ah  rfl ?_)
              refine cV (by kernel_rfl) rfl rfl (aX (i := i)  rfl rfl (hP.sl hS bg) (by omega) (by first | omega | (simp; done) | (simp; omega)) bH ?_)
              refine dO (by kernel_rfl) rfl rfl (a6 (i := i) zRR  rfl ax (hP.sl hS bg) (by first | omega | (simp; done) | (simp; omega)) rfl rfl (.inl rfl) ?_)
              refine hJ rfl rfl ?_ ?_
              · refine aS rfl rfl (aZ  ax hS ?_)
                intro b11 wz7 hS hBz7
                refine ⟨hBz7, ?_⟩
                refine aS rfl rfl (av Tryz.call29 rfl (cK ((bU owed).getD c zRR) ((tab m fun k => ofQ (s.out k)).getD c zRR) _ (by rw [hgw, hgo, Lr_ofQ, Lr_ofQ]; omega)) ?_)
                rintro r w6 ⟨rfl, hB6⟩
                refine ⟨hB6, ?_⟩
                rw [hde]
                replace hS := hS.grow hB6
                refine aS rfl rfl (av Tryz.call47 rfl (fX (ofQ (d3 owed s c)) ((tab n fun k => ofQ (s.p k)).getD i zRR) _ (by rw [hgp, Lr_ofQ, Lr_ofQ]; omega)) ?_)
                rintro r w7 ⟨rfl, hB7⟩
                refine ⟨hB7, ?_⟩
                replace hS := hS.grow hB7
                rw [toQ_ofQ, hgp, toQ_ofQ]
                refine bJ rfl rfl (a8 (k := 0)  rfl rfl ax hS rfl rfl rfl (Nat.le_of_ble_eq_true rfl) rfl ?_)
                intro wz8 hS
                refine bC ?_
                repeat (with_reducible first | apply ag | apply ac | apply af | apply ae | apply ab)
                replace hS : St w _ ([(b11, 36, aC (ofQ (pay owed s c i))), (b8, 36, (tab m fun k => ofQ (s.out k)).flatMap aC), (b7, 67, [.slice aP n cP, .slice aO (bU owed).length cO, .slice (some ⟨bI, 0, none⟩) m m]), (bI, 85, Kr .u64 R)] ++ LO ++ LP) := hS
                exact ⟨_, rfl, h7, h8, h25, h26, h9, rfl, h31, h32, b11, rfl, hS⟩
              · refine av Tryz.call29 rfl (cK ((bU owed).getD c zRR) ((tab m fun k => ofQ (s.out k)).getD c zRR) _ (by rw [hgw, hgo, Lr_ofQ, Lr_ofQ]; omega)) ?_
                rintro r w6 ⟨rfl, hB6⟩
                refine ⟨hB6, ?_⟩
                rw [hde]
                replace hS := hS.grow hB6
                refine hJ rfl rfl ?_ ?_
                · refine aS rfl rfl (aZ  ax hS ?_)
                  intro b11 wz9 hS hBz9
                  refine ⟨hBz9, ?_⟩
                  refine aS rfl rfl (av Tryz.call47 rfl (fX (ofQ (d3 owed s c)) ((tab n fun k => ofQ (s.p k)).getD i zRR) _ (by rw [hgp, Lr_ofQ, Lr_ofQ]; omega)) ?_)
                  rintro r w7 ⟨rfl, hB7⟩
                  refine ⟨hB7, ?_⟩
                  replace hS := hS.grow hB7
                  rw [toQ_ofQ, hgp, toQ_ofQ]
                  refine bJ rfl rfl (a8 (k := 0)  rfl rfl ax hS rfl rfl rfl (Nat.le_of_ble_eq_true rfl) rfl ?_)
                  intro wz10 hS
                  refine bC ?_
                  repeat (with_reducible first | apply ag | apply ac | apply af | apply ae | apply ab)
                  replace hS : St w _ ([(b11, 36, aC (ofQ (pay owed s c i))), (b8, 36, (tab m fun k => ofQ (s.out k)).flatMap aC), (b7, 67, [.slice aP n cP, .slice aO (bU owed).length cO, .slice (some ⟨bI, 0, none⟩) m m]), (bI, 85, Kr .u64 R)] ++ LO ++ LP) := hS
                  exact ⟨_, rfl, h7, h8, h25, h26, h9, rfl, h31, h32, b11, rfl, hS⟩
                · refine av Tryz.call47 rfl (fX (ofQ (d3 owed s c)) ((tab n fun k => ofQ (s.p k)).getD i zRR) _ (by rw [hgp, Lr_ofQ, Lr_ofQ]; omega)) ?_
                  rintro r w7 ⟨rfl, hB7⟩
                  refine ⟨hB7, ?_⟩
                  replace hS := hS.grow hB7
                  rw [toQ_ofQ, hgp, toQ_ofQ]
                  refine wx_now (by kernel_rfl) ?_
                  refine aS rfl rfl (aZ  ax hS ?_)
                  intro b11 wz11 hS hBz11
                  refine ⟨hBz11, ?_⟩
                  refine bJ rfl rfl (a8 (k := 0)  rfl rfl ax hS rfl rfl rfl (Nat.le_of_ble_eq_true rfl) rfl ?_)
                  intro wz12 hS
                  refine bC ?_
                  repeat (with_reducible first | apply ag | apply ac | apply af | apply ae | apply ab)
                  replace hS : St w _ ([(b11, 36, aC (ofQ (pay owed s c i))), (b8, 36, (tab m fun k => ofQ (s.out k)).flatMap aC), (b7, 67, [.slice aP n cP, .slice aO (bU owed).length cO, .slice (some ⟨bI, 0, none⟩) m m]), (bI, 85, Kr .u64 R)] ++ LO ++ LP) := hS
                  exact ⟨_, rfl, h7, h8, h25, h26, h9, rfl, h31, h32, b11, rfl, hS⟩
            clear hS h7 h8 h25 h26 h9 h31 h32
            rintro ρ w7 ⟨h7, h8, h25, h26, h9, h10, h31, h32, b11, h11, hS⟩
            repeat (with_reducible first | apply ag | apply ac | apply af | apply ae | apply ab)
            refine bm [(0, .pure), (1, .pure), (2, .pure), (3, .pure), (4, .pure), (5, .read), (6, .read), (7, .grow), (8, .pure), (9, .free)] (by kernel_rfl) (by kernel_rfl) hS ?_
            intro wz13 hS hBz13
            refine al rfl rfl (ah  h8 ?_)
            refine al rfl rfl (ah  h9 ?_)
            refine al rfl rfl (ah  h8 ?_)
            refine al rfl rfl (ah  h9 ?_)
            refine al rfl rfl (a7 (i := c)  rfl rfl (by omega) (by first | omega | (simp; done) | (simp; omega)) bH ?_)
            refine aF rfl rfl (gm (k := 1) (i := c) (enc := aC) zRR (fun _ => rfl)  rfl ax hS rfl (by first | omega | simp) (by first | omega | (simp; done) | (simp; omega)) rfl (.inl rfl) ?_)
            refine aF rfl rfl (aB (k := 0)  h11 ax hS rfl rfl rfl (.inl rfl) ?_)
            refine aS rfl rfl (av Tryz.call14 rfl (iu ((tab m fun k => ofQ (s.out k)).getD c zRR) (ofQ (pay owed s c i)) _ (by rw [hgo, Lr_ofQ, Lr_ofQ]; unfold pay; unfold d3 at *; omega)) ?_)
            rintro r w8 ⟨rfl, hB8⟩
            refine ⟨hB8, ?_⟩
            replace hS := hS.grow hB8
            rw [hgo, toQ_ofQ, toQ_ofQ]
            refine al rfl rfl (a7 (i := c)  rfl rfl (by omega) (by first | omega | (simp; done) | (simp; omega)) bH ?_)
            refine bJ rfl rfl (fC (k := 1) (i := c) (enc := aC) (ofQ (s.out c + pay owed s c i)) (fun _ => rfl)  rfl rfl ax hS rfl (by first | omega | simp) (by first | omega | (simp; done) | (simp; omega)) rfl rfl ?_)
            intro wz14 hS
            refine bC ?_
            repeat (with_reducible first | apply ag | apply ac | apply af | apply ae | apply ab)
            replace hS : St w _ ([(b11, 36, aC (ofQ (pay owed s c i))), (b8, 36, ((tab m fun k => ofQ (s.out k)).set c (ofQ (s.out c + pay owed s c i))).flatMap aC), (b7, 67, [.slice aP n cP, .slice aO (bU owed).length cO, .slice (some ⟨bI, 0, none⟩) m m]), (bI, 85, Kr .u64 R)] ++ LO ++ LP) := hS
            rw [gst_out hsec] at hS
            repeat (with_reducible first | apply ag | apply ac | apply af | apply ae | apply ab)
            refine bm [(0, .pure), (1, .read), (2, .pure), (3, .pure), (4, .read), (5, .pure), (6, .pure), (7, .read), (8, .read), (9, .grow), (10, .pure), (11, .free)] (by kernel_rfl) (by kernel_rfl) hS ?_
            intro wz15 hS hBz15
            refine al rfl rfl (aH  h7 eT ?_)
            refine aF rfl rfl (aB (k := 2)  rfl cX hS rfl rfl rfl (.inr rfl) ?_)
            refine al rfl rfl (ah  h10 ?_)
            refine al rfl rfl (aH  h7 eT ?_)
            refine aF rfl rfl (aB (k := 2)  rfl cX hS rfl rfl rfl (.inr rfl) ?_)
            refine al rfl rfl (ah  h10 ?_)
            refine al rfl rfl (aX (i := i)  rfl rfl (hP.sl hS bg) (by omega) (by first | omega | (simp; done) | (simp; omega)) bH ?_)
            refine aF rfl rfl (a6 (i := i) zRR  rfl ax (hP.sl hS bg) (by first | omega | (simp; done) | (simp; omega)) rfl rfl (.inl rfl) ?_)
            refine aF rfl rfl (aB (k := 0)  h11 ax hS rfl rfl rfl (.inl rfl) ?_)
            refine aS rfl rfl (av Tryz.call29 rfl (cK ((tab n fun k => ofQ (s.p k)).getD i zRR) (ofQ (pay owed s c i)) _ (by rw [hgp, Lr_ofQ, Lr_ofQ]; unfold pay; unfold d3 at *; omega)) ?_)
            rintro r w9 ⟨rfl, hB9⟩
            refine ⟨hB9, ?_⟩
            replace hS := hS.grow hB9
            rw [hgp, toQ_ofQ, toQ_ofQ]
            refine al rfl rfl (aX (i := i)  rfl rfl (hP.sl hS bg) (by omega) (by first | omega | (simp; done) | (simp; omega)) bH ?_)
            refine bJ rfl rfl (s_stG (i := i) (ofQ (s.p i - pay owed s c i)) bg  rfl rfl ax hP hS (by omega) rfl rfl ?_)
            intro wz16 hS
            refine bC ?_
            repeat (with_reducible first | apply ag | apply ac | apply af | apply ae | apply ab)
            obtain ⟨LP2, hP, hS⟩ := hS
            rw [gst_p hsec] at hP
            repeat (with_reducible first | apply ag | apply ac | apply af | apply ae | apply ab)
            refine aj ?_
            refine aa rfl (aK  h32 rfl (IntWalk.i64_in _ (by omega)) ?_)
            refine aa rfl (ah  rfl ?_)
            refine ai ?_
            repeat (with_reducible first | apply ag | apply ac | apply af | apply ae | apply ab)
            have hg : grow X owed c (gall X owed c) (i + 1) = gst X owed s c i := by
              show gst X owed (grow X owed c (gall X owed c) i) c i = _
              rw [← hs]
            exact ⟨i + 1, _, rfl, ⟨hli, h7, h8, h25, h26, h9, h31, vi rfl (by omega), ⟨_, LP2, hg.symm, hP, hS.drop (List.sublist_cons_self _ _)⟩⟩, by omega⟩
          · have hse : cD (X.getD i zIt) c = false := Bool.eq_false_iff.2 hsec
            have hne : R.getD c 0 &&& 2 ^ i = 0 := by rw [gY, hbit, hse]
            refine aD rfl (decide_eq_true (by omega)) ?_
            repeat (with_reducible first | apply ag | apply ac | apply af | apply ae | apply ab)
            refine aU ?_
            repeat (with_reducible first | apply aA | apply az | refine ay rfl ?_)
            repeat (with_reducible first | apply ag | apply ac | apply af | apply ae | apply ab)
            refine aj ?_
            refine aa rfl (aK  h32 rfl (IntWalk.i64_in _ (by omega)) ?_)
            refine aa rfl (ah  rfl ?_)
            refine ai ?_
            repeat (with_reducible first | apply ag | apply ac | apply af | apply ae | apply ab)
            have hg : grow X owed c (gall X owed c) (i + 1) = s := by
              show gst X owed (grow X owed c (gall X owed c) i) c i = s
              rw [← hs]; exact gst_no hse
            exact ⟨i + 1, _, rfl, ⟨hli, h7, h8, h25, h26, h9, h31, vi rfl (by omega), ⟨s, LP, hg.symm, hP, hS⟩⟩, by omega⟩
        · refine aN rfl (decide_eq_false (by omega)) ?_
          repeat (with_reducible first | apply ag | apply ac | apply af | apply ae | apply ab)
          refine aU ?_
          repeat (with_reducible first | apply aA | apply az | refine ay rfl ?_)
          repeat (with_reducible first | apply ag | apply ac | apply af | apply ae | apply ab)
          obtain rfl : i = n := by omega
          have hg : gall X owed (c + 1) = s := by
            show grow X owed c (gall X owed c) X.length = s
            rw [hs, ← hn]
          rw [← hg] at hP hS
          exact ⟨_, rfl, h7, h8, h25, h26, ⟨LP, hP, hS⟩⟩
      clear hS hP
      rintro ρ w5 ⟨h7, h8, h25, h26, LP, hP, hS⟩
      repeat (with_reducible first | apply ag | apply ac | apply af | apply ae | apply ab)
      refine aj ?_
      refine aa rfl (aK  h26 rfl (IntWalk.i64_in _ (by omega)) ?_)
      refine aa rfl (ah  rfl ?_)
      refine ai ?_
      repeat (with_reducible first | apply ag | apply ac | apply af | apply ae | apply ab)
      exact ⟨c + 1, _, rfl, ⟨hlt, h7, h8, h25, vi rfl (by omega), ⟨LP, hP, hS⟩⟩, by omega⟩
    · refine aN rfl (decide_eq_false (by omega)) ?_
      repeat (with_reducible first | apply ag | apply ac | apply af | apply ae | apply ab)
      refine aU ?_
      repeat (with_reducible first | apply aA | apply az | refine ay rfl ?_)
      repeat (with_reducible first | apply ag | apply ac | apply af | apply ae | apply ab)
      obtain rfl : c = m := by omega
      repeat (with_reducible first | apply ag | apply ac | apply af | apply ae | apply ab)
      refine aj ?_
      refine aa rfl (ah  h8 ?_)
      refine aa rfl (am  rfl ?_)
      refine aa rfl (am  rfl ?_)
      refine ai ?_
      repeat (with_reducible first | apply ag | apply ac | apply af | apply ae | apply ab)
      refine aE ?_
      repeat (with_reducible first | apply ap | apply ao)
      refine dw rfl rfl rfl ?_
      have hsl := hS.sle (k := 0) (enc := aC) (n := c) (cap := c) rfl bg (by rw [bp]; exact Nat.le_refl _) (Nat.le_refl _) (by omega)
      rw [List.take_of_length_le (by rw [bp]; exact Nat.le_refl _)] at hsl
      refine ⟨⟨_, by rw [h0]; rfl, ?_⟩, hS.below⟩
      have ht : gL X owed = tab c fun k => ofQ ((gall X owed c).out k) := by rw [hm]; exact if_pos hck
      rw [ht]
      exact hsl
  · refine aD rfl (decide_eq_true (by omega)) ?_
    repeat (with_reducible first | apply ag | apply ac | apply af | apply ae | apply ab)
    refine aj ?_
    refine aa rfl (ah  rfl ?_)
    refine aa rfl (am  rfl ?_)
    refine aa rfl (am  rfl ?_)
    refine ai ?_
    repeat (with_reducible first | apply ag | apply ac | apply af | apply ae | apply ab)
    refine aE ?_
    repeat (with_reducible first | apply ap | apply ao)
    refine dw rfl rfl rfl ?_
    refine ⟨⟨_, rfl, ?_⟩, hS.below⟩
    have ht : gL X owed = [] := if_neg fun g => h0 (he.trans g)
    rw [ht]
    exact Sl.nil _ _ _
end Go.Proofs.YtmghobajmhdbfaaGreatDoor
namespace Go.Proofs.YtmghobajmhdbfaaGreatDoor
open Go Go.RowKit Go.Sx
theorem gV {w : World} {v : Value} {X : List It} {cvs : List Value} (hX : Its w v X cvs) {i : Nat} (hi : i < X.length) : ∃ ca ccap, (X.zip cvs).getD i (zIt, undef) = (X.getD i zIt, .slice ca (X.getD i zIt).charges.length ccap) ∧ Sl cS 6 w (.slice ca (X.getD i zIt).charges.length ccap) (X.getD i zIt).charges := by
  have hch := hX.ch i hi
  obtain ⟨ca, ccap, hcve, _⟩ := hch.form
  have hzg := hX.zget hi
  rw [hcve] at hch hzg
  exact ⟨ca, ccap, hzg, hch⟩
theorem bit_one (x i : Nat) : (x / 2 ^ i &&& 1) = (x.testBit i).toNat := by
  rw [Nat.and_one_is_mod, ← Nat.shiftRight_eq_div_pow]
  have h : x.testBit i = decide ((x >>> i) % 2 = 1) := by rw [Nat.testBit_eq_decide_div_mod_eq, Nat.shiftRight_eq_div_pow]
  rw [h]
  by_cases g : (x >>> i) % 2 = 1
  · rw [decide_eq_true g, g]; rfl
  · rw [decide_eq_false g]
    show _ = 0
    omega
theorem bit_val {x i : Nat} (hx : x < 2 ^ 63) : dg .and .i64 ((x / 2 ^ i : Nat) : Int) 1 = (((x.testBit i).toNat : Nat) : Int) := by
  rw [← bit_one]
  exact and_i64 _ 1 (Nat.lt_of_le_of_lt (Nat.div_le_self _ _) hx) (by decide)
theorem minQ_comm (p q : Rat) : dK p q = dK q p := by
  unfold dK
  split <;> split <;> grind
def iU (X : List It) (cut c i : Nat) : Bool := (List.range i).any fun i => !cut.testBit i && cD (X.getD i zIt) c
theorem outsP_succ (X : List It) (cut c i : Nat) : iU X cut c (i + 1) = (iU X cut c i || (!cut.testBit i && cD (X.getD i zIt) c)) := by
  unfold iU
  rw [List.range_succ, List.any_append]
  simp
def dl (f : Nat → Rat) (cut : Nat) : Rat := if cut = 0 then 0 else eq f cut
theorem bestF_succ (f : Nat → Rat) (cut : Nat) : dl f (cut + 1) = if cut = 0 ∨ f cut < dl f cut then f cut else dl f cut := by
  unfold dl
  rw [if_neg (Nat.succ_ne_zero _)]
  by_cases h : cut = 0
  · subst h
    rw [if_pos (.inl rfl), mins_one]
  · simp only [if_neg h]
    show dK (eq f cut) (f cut) = _
    unfold dK
    by_cases g : f cut < eq f cut
    · rw [if_pos (Or.inr g), if_neg (Rat.not_le.2 g)]
    · rw [if_neg (show ¬ (cut = 0 ∨ f cut < eq f cut) from fun q => q.elim h g), if_pos (Rat.not_lt.1 g)]
set_option maxHeartbeats 2000000 in
theorem rcapacity_ok (vi_ vo vs : Value) (X : List It) (cvs : List Value) (owed : List RR) (S : List Bool) (K : Nat) (w : World) (hX : Its w vi_ X cvs) (ho : Sl aC 3 w vo owed) (hSl : Sl enB 1 w vs S) (hSm : S.length = owed.length) (hXB : ItB K X) (hoB : RB K owed) (hK : 100 * K + 100 ≤ MX) (hX8 : X.length ≤ 8) (ho24 : owed.length ≤ 24) :
    Ret Tryz.prog 45 #[vi_, vo, vs] w fun v w' => v = bE (ofQ (dL X owed fun c => S.getD c false)) ∧ Below w.heap.size w w' := by
  have hM : MX = 1099511627776 := rfl
  have hzl := hX.zlen
  obtain ⟨n, hn⟩ : ∃ n, n = X.length := ⟨_, rfl⟩
  obtain ⟨m, hm⟩ : ∃ m, m = owed.length := ⟨_, rfl⟩
  obtain ⟨N, hN⟩ : ∃ N, N = 2 ^ n := ⟨_, rfl⟩
  have hN256 : N ≤ 256 := by rw [hN]; exact Nat.pow_le_pow_right (n := 2) (by decide) (show n ≤ 8 by omega)
  obtain ⟨f, hf⟩ : ∃ f, f = cJ X owed (fun c => S.getD c false) := ⟨_, rfl⟩
  have hLf : ∀ cut, L (f cut) ≤ 40 * K + 45 := fun cut => by rw [hf]; exact iy hXB hoB hX8 ho24 _ cut
  have hLb : ∀ cut, L (dl f cut) ≤ 40 * K + 45 := fun cut => by
    unfold dl
    split
    · rw [gK]; omega
    · exact L_mins f _ _ (fun i _ => hLf i)
  have hb0 : aC zRR = aC (ofQ (dl f 0)) := by rw [show dl f 0 = 0 from rfl, cI]; rfl
  have hS := St.init w
  refine enter Tryz.func45 rfl Tryz.ntmps45 rfl ?_
  repeat (with_reducible first | apply ag | apply ac | apply af | apply ae | apply ab)
  refine aj ?_
  refine ak rfl (aZ  ax hS ?_)
  intro b6 wz1 hS hBz1
  refine ai ?_
  repeat (with_reducible first | apply ag | apply ac | apply af | apply ae | apply ab)
  refine aj ?_
  refine aa rfl (ce  rfl eJ ?_)
  refine ak rfl (aZ  ax hS ?_)
  intro b7 wz2 hS hBz2
  refine ak rfl (a8 (k := 0)  rfl rfl ax hS rfl rfl rfl (Nat.le_of_ble_eq_true rfl) rfl ?_)
  intro wz3 hS
  refine ai ?_
  repeat (with_reducible first | apply ag | apply ac | apply af | apply ae | apply ab)
  replace hS : St w _ [(b7, 36, aC zRR), (b6, 36, aC zRR)] := hS
  replace hS : St w _ [(b7, 36, aC (ofQ (dl f 0))), (b6, 36, aC zRR)] := hS.cast (by rw [← hb0])
  repeat (with_reducible first | apply ag | apply ac | apply af | apply ae | apply ab)
  refine aj ?_
  refine aa rfl (am  rfl ?_)
  refine ai ?_
  repeat (with_reducible first | apply ag | apply ac | apply af | apply ae | apply ab)
  refine a5 (σ := Nat) (fun cut ρ w' => cut ≤ N ∧ ρ 0 = vi_ ∧ ρ 1 = vo ∧ ρ 2 = vs ∧ ρ 6 = .pointer (some ⟨b6, 0, none⟩) ∧ ρ 7 = .pointer (some ⟨b7, 0, none⟩) ∧ ρ 8 = .int .i64 cut ∧
      St w w' [(b7, 36, aC (ofQ (dl f cut))), (b6, 36, aC zRR)]) (fun cut => N - cut) 0
    ⟨Nat.zero_le _, rfl, rfl, rfl, rfl, rfl, rfl, hS⟩ ?_
  clear hS
  rintro cut ρ w2 ⟨hc, h0, h1, h2, h6, h7, h8, hS⟩
  repeat (with_reducible first | apply ag | apply ac | apply af | apply ae | apply ab)
  refine aj ?_
  refine aa rfl (ah  h8 ?_)
  refine aa rfl (ah  h0 ?_)
  refine aa rfl (aG  rfl (hX.sl.below hS.below) ⟨_, Tryz.underlying26⟩ ?_)
  refine aa rfl (aL  rfl Tryz.underlying85 ⟨_, Tryz.underlying3⟩ (r := ((n : Nat) : Int)) (by rw [hzl, ← hn]; exact aQ _ ⟨rfl, by omega, by omega⟩) ?_)
  refine aa rfl (ef  rfl rfl (by omega) (ee 1 n ((N : Nat) : Int) (by show _ ≤ 64; omega) (eG _ ⟨by rw [Nat.one_mul, hN], by omega, by omega⟩)) ?_)
  refine aa rfl (aV  rfl rfl ?_)
  refine ai ?_
  repeat (with_reducible first | apply ag | apply ac | apply af | apply ae | apply ab)
  by_cases hlt : cut < N
  · refine aD rfl (decide_eq_true (by omega)) ?_
    repeat (with_reducible first | apply ag | apply ac | apply af | apply ae | apply ab)
    refine aj ?_
    refine aa rfl (ce  rfl eJ ?_)
    refine ak rfl (aZ  ax hS ?_)
    intro b9 wz4 hS hBz4
    refine ak rfl (a8 (k := 0)  rfl rfl ax hS rfl rfl rfl (Nat.le_of_ble_eq_true rfl) rfl ?_)
    intro wz5 hS
    refine ai ?_
    repeat (with_reducible first | apply ag | apply ac | apply af | apply ae | apply ab)
    replace hS : St w _ [(b9, 36, aC zRR), (b7, 36, aC (ofQ (dl f cut))), (b6, 36, aC zRR)] := hS
    repeat (with_reducible first | apply ag | apply ac | apply af | apply ae | apply ab)
    refine aj ?_
    refine aa rfl (am  rfl ?_)
    refine ai ?_
    repeat (with_reducible first | apply ag | apply af | apply ae | apply ab)
    refine a9 (fun ρ w' => ρ 0 = vi_ ∧ ρ 1 = vo ∧ ρ 2 = vs ∧ ρ 6 = .pointer (some ⟨b6, 0, none⟩) ∧ ρ 7 = .pointer (some ⟨b7, 0, none⟩) ∧ ρ 8 = .int .i64 cut ∧ ρ 9 = .pointer (some ⟨b9, 0, none⟩) ∧
      St w w' [(b9, 36, aC (ofQ (dy X cut))), (b7, 36, aC (ofQ (dl f cut))), (b6, 36, aC zRR)]) ?_ ?_
    · repeat (with_reducible first | apply ag | apply ac | apply af | apply ae | apply ab)
      refine a5 (σ := Nat) (fun i ρ w' => i ≤ n ∧ ρ 0 = vi_ ∧ ρ 1 = vo ∧ ρ 2 = vs ∧ ρ 6 = .pointer (some ⟨b6, 0, none⟩) ∧ ρ 7 = .pointer (some ⟨b7, 0, none⟩) ∧ ρ 8 = .int .i64 cut ∧ ρ 9 = .pointer (some ⟨b9, 0, none⟩) ∧ ρ 10 = .int .i64 i ∧
          St w w' [(b9, 36, aC (ofQ (sumIf i (fun i => cut.testBit i) (prF X)))), (b7, 36, aC (ofQ (dl f cut))), (b6, 36, aC zRR)]) (fun i => n - i) 0
        ⟨Nat.zero_le _, h0, h1, h2, h6, h7, h8, rfl, rfl, by rw [show sumIf 0 (fun i => cut.testBit i) (prF X) = 0 from rfl, cI]; exact hS⟩ ?_
      clear hS h0 h1 h2 h6 h7 h8
      rintro i ρ w3 ⟨hi, h0, h1, h2, h6, h7, h8, h9, h10, hS⟩
      repeat (with_reducible first | apply ag | apply ac | apply af | apply ae | apply ab)
      refine aj ?_
      refine aa rfl (ah  h10 ?_)
      refine aa rfl (ah  h0 ?_)
      refine aa rfl (aG  rfl (hX.sl.below hS.below) ⟨_, Tryz.underlying26⟩ ?_)
      refine aa rfl (aV  rfl rfl ?_)
      refine ai ?_
      repeat (with_reducible first | apply ag | apply ac | apply af | apply ae | apply ab)
      by_cases hli : i < n
      · refine aD rfl (decide_eq_true (by omega)) ?_
        repeat (with_reducible first | apply ag | apply ac | apply af | apply ae | apply ab)
        have hiX : i < X.length := by omega
        repeat (with_reducible first | apply ag | apply ac | apply af | apply ae | apply ab)
        refine aj ?_
        refine aa rfl (ah  h8 ?_)
        refine aa rfl (ah  h10 ?_)
        refine aa rfl (aL  rfl Tryz.underlying85 ⟨_, Tryz.underlying3⟩ (r := ((i : Nat) : Int)) (by exact aQ _ ⟨rfl, by omega, by omega⟩) ?_)
        refine aa rfl (dk  rfl rfl (by omega) (dp cut i (by show _ ≤ 64; omega)) ?_)
        refine aa rfl (gz  rfl rfl (r := (((cut.testBit i).toNat : Nat) : Int)) (by exact bit_val (by omega)) ?_)
        refine aa rfl (c6  rfl rfl ?_)
        refine ai ?_
        repeat (with_reducible first | apply ag | apply af | apply ae | apply ab)
        refine a9 (fun ρ w' => ρ 0 = vi_ ∧ ρ 1 = vo ∧ ρ 2 = vs ∧ ρ 6 = .pointer (some ⟨b6, 0, none⟩) ∧ ρ 7 = .pointer (some ⟨b7, 0, none⟩) ∧ ρ 8 = .int .i64 cut ∧ ρ 9 = .pointer (some ⟨b9, 0, none⟩) ∧ ρ 10 = .int .i64 i ∧
          St w w' [(b9, 36, aC (ofQ (sumIf (i + 1) (fun i => cut.testBit i) (prF X)))), (b7, 36, aC (ofQ (dl f cut))), (b6, 36, aC zRR)]) ?_ ?_
        · repeat (with_reducible first | apply ag | apply ac | apply af | apply ae | apply ab)
          by_cases hb : cut.testBit i = true
          · refine aD rfl (decide_eq_true (by rw [hb]; rfl)) ?_
            repeat (with_reducible first | apply ag | apply ac | apply af | apply ae | apply ab)
            obtain ⟨ca, ccap, hzg, hch⟩ := gV hX hiX
            have hxB := hXB _ (cb X i zIt hiX)
            have hL1 := im i (fun i => cut.testBit i) (prF X) (2 * K + 1) (fun j hj => ij hXB (by omega))
            have hL2 : i * (2 * K + 1 + 1) ≤ 8 * (2 * K + 1 + 1) := Nat.mul_le_mul_right _ (by omega)
            have hL3 := ij hXB hiX
            have hsu : sumIf (i + 1) (fun i => cut.testBit i) (prF X) = sumIf i (fun i => cut.testBit i) (prF X) + prF X i := by rw [sumIf, if_pos hb]
            repeat (with_reducible first | apply ag | apply ac | apply af | apply ae | apply ab)
            refine bm [(0, .read), (1, .pure), (2, .pure), (3, .pure), (4, .read), (5, .grow), (6, .grow), (7, .free)] (by kernel_rfl) (by kernel_rfl) hS ?_
            intro wz6 hS hBz6
            refine aF rfl rfl (aB (k := 0)  h9 ax hS rfl rfl rfl (.inl rfl) ?_)
            refine al rfl rfl (ah  h0 ?_)
            refine al rfl rfl (ah  h10 ?_)
            refine al rfl rfl (aX (i := i)  rfl rfl (hX.sl.below hS.below) (by omega) (by first | omega | (simp; done) | (simp; omega)) g8 ?_)
            refine aF rfl rfl (a6 (v := fq (X.getD i zIt) (.slice ca (X.getD i zIt).charges.length ccap)) (i := i) (zIt, undef)  rfl eD (hX.sl.below hS.below) (by omega) rfl (by rw [hzg]; rfl) (.inl rfl) ?_)
            refine aS rfl rfl (av Tryz.call48 rfl (rProceeds_ok (X.getD i zIt) ca (X.getD i zIt).charges.length ccap _ (by have := hxB.1; have := hxB.2.1; omega)) ?_)
            rintro r w4 ⟨rfl, hB4⟩
            refine ⟨hB4, ?_⟩
            replace hS := hS.grow hB4
            refine aS rfl rfl (av Tryz.call51 rfl (iv (sumIf i (fun i => cut.testBit i) (prF X)) (prF X i) _ (by omega)) ?_)
            rintro r w5 ⟨rfl, hB5⟩
            refine ⟨hB5, ?_⟩
            replace hS := hS.grow hB5
            rw [← hsu]
            refine bJ rfl rfl (a8 (k := 0)  h9 rfl ax hS rfl rfl rfl (Nat.le_of_ble_eq_true rfl) rfl ?_)
            intro wz7 hS
            refine bC ?_
            repeat (with_reducible first | apply ag | apply ac | apply af | apply ae | apply ab)
            exact ⟨_, rfl, h0, h1, h2, h6, h7, h8, h9, h10, hS⟩
          · refine aN rfl (decide_eq_false (by rw [Bool.eq_false_iff.2 hb]; decide)) ?_
            repeat (with_reducible first | apply ag | apply ac | apply af | apply ae | apply ab)
            refine ⟨_, rfl, h0, h1, h2, h6, h7, h8, h9, h10, hS.cast ?_⟩
            rw [sumIf, if_neg hb, Rat.add_zero]
        clear hS h0 h1 h2 h6 h7 h8 h9 h10
        rintro ρ w3 ⟨h0, h1, h2, h6, h7, h8, h9, h10, hS⟩
        repeat (with_reducible first | apply ag | apply ac | apply af | apply ae | apply ab)
        refine aj ?_
        refine aa rfl (ah  h10 ?_)
        refine aa rfl (aK  rfl rfl (IntWalk.i64_in _ (by omega)) ?_)
        refine aa rfl (am  rfl ?_)
        refine ai ?_
        repeat (with_reducible first | apply ag | apply ac | apply af | apply ae | apply ab)
        exact ⟨i + 1, _, rfl, ⟨hli, h0, h1, h2, h6, h7, h8, h9, vi rfl (by omega), hS⟩, by omega⟩
      · refine aN rfl (decide_eq_false (by omega)) ?_
        repeat (with_reducible first | apply ag | apply ac | apply af | apply ae | apply ab)
        refine aU ?_
        repeat (with_reducible first | apply aA | apply az | refine ay rfl ?_)
        repeat (with_reducible first | apply ag | apply ac | apply af | apply ae | apply ab)
        obtain rfl : i = n := by omega
        refine ⟨_, rfl, h0, h1, h2, h6, h7, h8, h9, hS.cast ?_⟩
        unfold dy
        rw [← hn]
    clear hS h0 h1 h2 h6 h7 h8
    rintro ρ w3 ⟨h0, h1, h2, h6, h7, h8, h9, hS⟩
    repeat (with_reducible first | apply ag | apply ac | apply af | apply ae | apply ab)
    refine aj ?_
    refine aa rfl (am  rfl ?_)
    refine ai ?_
    repeat (with_reducible first | apply ag | apply af | apply ae | apply ab)
    refine a9 (fun ρ w' => ρ 0 = vi_ ∧ ρ 1 = vo ∧ ρ 2 = vs ∧ ρ 6 = .pointer (some ⟨b6, 0, none⟩) ∧ ρ 7 = .pointer (some ⟨b7, 0, none⟩) ∧ ρ 8 = .int .i64 cut ∧ ρ 9 = .pointer (some ⟨b9, 0, none⟩) ∧ St w w' [(b9, 36, aC (ofQ (f cut))), (b7, 36, aC (ofQ (dl f cut))), (b6, 36, aC zRR)]) ?_ ?_
    · repeat (with_reducible first | apply ag | apply ac | apply af | apply ae | apply ab)
      refine a5 (σ := Nat) (fun c ρ w' => c ≤ m ∧ ρ 0 = vi_ ∧ ρ 1 = vo ∧ ρ 2 = vs ∧ ρ 6 = .pointer (some ⟨b6, 0, none⟩) ∧ ρ 7 = .pointer (some ⟨b7, 0, none⟩) ∧ ρ 8 = .int .i64 cut ∧ ρ 9 = .pointer (some ⟨b9, 0, none⟩) ∧ ρ 11 = .int .i64 c ∧
          St w w' [(b9, 36, aC (ofQ (dy X cut + sumIf (c) (fun c => S.getD c false && cG X cut c) (owF owed)))), (b7, 36, aC (ofQ (dl f cut))), (b6, 36, aC zRR)]) (fun c => m - c) 0
        ⟨Nat.zero_le _, h0, h1, h2, h6, h7, h8, h9, rfl, by rw [show sumIf 0 (fun c => S.getD c false && cG X cut c) (owF owed) = 0 from rfl, Rat.add_zero]; exact hS⟩ ?_
      clear hS h0 h1 h2 h6 h7 h8 h9
      rintro c ρ w4 ⟨hcm, h0, h1, h2, h6, h7, h8, h9, h11, hS⟩
      repeat (with_reducible first | apply ag | apply ac | apply af | apply ae | apply ab)
      refine aj ?_
      refine aa rfl (ah  h11 ?_)
      refine aa rfl (ah  h1 ?_)
      refine aa rfl (aG  rfl (ho.below hS.below) ⟨_, Tryz.underlying24⟩ ?_)
      refine aa rfl (aV  rfl rfl ?_)
      refine ai ?_
      repeat (with_reducible first | apply ag | apply ac | apply af | apply ae | apply ab)
      by_cases hlc : c < m
      · refine aD rfl (decide_eq_true (by omega)) ?_
        repeat (with_reducible first | apply ag | apply ac | apply af | apply ae | apply ab)
        have hco : c < owed.length := by omega
        repeat (with_reducible first | apply ag | apply ac | apply af | apply ae | apply ab)
        refine aj ?_
        refine aa rfl (am  rfl ?_)
        refine ai ?_
        repeat (with_reducible first | apply ag | apply ac | apply af | apply ae | apply ab)
        refine aj ?_
        refine aa rfl (am  rfl ?_)
        refine ai ?_
        repeat (with_reducible first | apply ag | apply af | apply ae | apply ab)
        refine a9 (fun ρ w' => ρ 0 = vi_ ∧ ρ 1 = vo ∧ ρ 2 = vs ∧ ρ 6 = .pointer (some ⟨b6, 0, none⟩) ∧ ρ 7 = .pointer (some ⟨b7, 0, none⟩) ∧ ρ 8 = .int .i64 cut ∧ ρ 9 = .pointer (some ⟨b9, 0, none⟩) ∧ ρ 11 = .int .i64 c ∧ ρ 12 = .bool (cG X cut c) ∧
            St w w' [(b9, 36, aC (ofQ (dy X cut + sumIf (c) (fun c => S.getD c false && cG X cut c) (owF owed)))), (b7, 36, aC (ofQ (dl f cut))), (b6, 36, aC zRR)]) ?_ ?_
        · repeat (with_reducible first | apply ag | apply ac | apply af | apply ae | apply ab)
          refine a5 (σ := Nat) (fun i ρ w' => i ≤ n ∧ ρ 0 = vi_ ∧ ρ 1 = vo ∧ ρ 2 = vs ∧ ρ 6 = .pointer (some ⟨b6, 0, none⟩) ∧ ρ 7 = .pointer (some ⟨b7, 0, none⟩) ∧ ρ 8 = .int .i64 cut ∧ ρ 9 = .pointer (some ⟨b9, 0, none⟩) ∧ ρ 11 = .int .i64 c ∧ ρ 12 = .bool (iU X cut c i) ∧ ρ 13 = .int .i64 i ∧
              St w w' [(b9, 36, aC (ofQ (dy X cut + sumIf (c) (fun c => S.getD c false && cG X cut c) (owF owed)))), (b7, 36, aC (ofQ (dl f cut))), (b6, 36, aC zRR)]) (fun i => n - i) 0
            ⟨Nat.zero_le _, h0, h1, h2, h6, h7, h8, h9, h11, rfl, rfl, hS⟩ ?_
          clear hS h0 h1 h2 h6 h7 h8 h9 h11
          rintro i ρ w5 ⟨hi, h0, h1, h2, h6, h7, h8, h9, h11, h12, h13, hS⟩
          repeat (with_reducible first | apply ag | apply ac | apply af | apply ae | apply ab)
          refine aj ?_
          refine aa rfl (ah  h13 ?_)
          refine aa rfl (ah  h0 ?_)
          refine aa rfl (aG  rfl (hX.sl.below hS.below) ⟨_, Tryz.underlying26⟩ ?_)
          refine aa rfl (aV  rfl rfl ?_)
          refine ai ?_
          repeat (with_reducible first | apply ag | apply ac | apply af | apply ae | apply ab)
          by_cases hli : i < n
          · refine aD rfl (decide_eq_true (by omega)) ?_
            repeat (with_reducible first | apply ag | apply ac | apply af | apply ae | apply ab)
            have hiX : i < X.length := by omega
            have hsu := outsP_succ X cut c i
            obtain ⟨ca, ccap, hzg, hch⟩ := gV hX hiX
            refine a9 (fun ρ w' => ρ 0 = vi_ ∧ ρ 1 = vo ∧ ρ 2 = vs ∧ ρ 6 = .pointer (some ⟨b6, 0, none⟩) ∧ ρ 7 = .pointer (some ⟨b7, 0, none⟩) ∧ ρ 8 = .int .i64 cut ∧ ρ 9 = .pointer (some ⟨b9, 0, none⟩) ∧ ρ 11 = .int .i64 c ∧ ρ 12 = .bool (iU X cut c (i + 1)) ∧ ρ 13 = .int .i64 i ∧
              St w w' [(b9, 36, aC (ofQ (dy X cut + sumIf (c) (fun c => S.getD c false && cG X cut c) (owF owed)))), (b7, 36, aC (ofQ (dl f cut))), (b6, 36, aC zRR)]) ?_ ?_
            · repeat (with_reducible first | apply ag | apply ac | apply af | apply ae | apply ab)
              by_cases hp : iU X cut c i = true
              · repeat (with_reducible first | apply ag | apply ac | apply af | apply ae | apply ab)
                refine aj ?_
                refine aa rfl (ah  h12 ?_)
                refine aa rfl (ah  rfl ?_)
                refine aW (au 56 (by kernel_rfl) rfl hp) ?_
                refine aW (au 56 (by kernel_rfl) rfl hp) ?_
                refine aW (au 56 (by kernel_rfl) rfl hp) ?_
                refine aW (au 56 (by kernel_rfl) rfl hp) ?_
                refine aW (au 56 (by kernel_rfl) rfl hp) ?_
                refine aW (au 56 (by kernel_rfl) rfl hp) ?_
                refine aW (au 56 (by kernel_rfl) rfl hp) ?_
                refine aW (eF 63 (by kernel_rfl) rfl) ?_
                refine aW (eF 63 (by kernel_rfl) rfl) ?_
                refine aW (eF 63 (by kernel_rfl) rfl) ?_
                refine aW (eF 63 (by kernel_rfl) rfl) ?_
                refine aW (eF 63 (by kernel_rfl) rfl) ?_
                refine aW (eF 63 (by kernel_rfl) rfl) ?_
                refine aW (au 56 (by kernel_rfl) rfl hp) ?_
                refine aa rfl (aJ (vb rfl hp) rfl ?_)
                refine aa rfl (am  rfl ?_)
                refine ai ?_
                repeat (with_reducible first | apply ag | apply ac | apply af | apply ae | apply ab)
                refine ⟨_, rfl, h0, h1, h2, h6, h7, h8, h9, h11, vb rfl (by rw [hsu, hp]; rfl), h13, hS⟩
              · have hpf := Bool.eq_false_iff.2 hp
                by_cases hb : cut.testBit i = true
                · repeat (with_reducible first | apply ag | apply ac | apply af | apply ae | apply ab)
                  refine aj ?_
                  refine aa rfl (ah  h12 ?_)
                  refine aa rfl (ah  rfl ?_)
                  refine aa (ar 56 (by kernel_rfl) rfl hpf) (ah  h8 ?_)
                  refine aa (ar 56 (by kernel_rfl) rfl hpf) (ah  h13 ?_)
                  refine aa (ar 56 (by kernel_rfl) rfl hpf) (aL  rfl Tryz.underlying85 ⟨_, Tryz.underlying3⟩ (r := ((i : Nat) : Int)) (by exact aQ _ ⟨rfl, by omega, by omega⟩) ?_)
                  refine aa (ar 56 (by kernel_rfl) rfl hpf) (dk  rfl rfl (by omega) (dp cut i (by show _ ≤ 64; omega)) ?_)
                  refine aa (ar 56 (by kernel_rfl) rfl hpf) (gz  rfl rfl (r := (((cut.testBit i).toNat : Nat) : Int)) (by exact bit_val (by omega)) ?_)
                  refine aa (ar 56 (by kernel_rfl) rfl hpf) (c6  rfl rfl ?_)
                  refine aa (ar 56 (by kernel_rfl) rfl hpf) (ah  rfl ?_)
                  refine aW (au 63 (by kernel_rfl) rfl (decide_eq_false (by rw [hb]; decide))) ?_
                  refine aW (au 63 (by kernel_rfl) rfl (decide_eq_false (by rw [hb]; decide))) ?_
                  refine aW (au 63 (by kernel_rfl) rfl (decide_eq_false (by rw [hb]; decide))) ?_
                  refine aW (au 63 (by kernel_rfl) rfl (decide_eq_false (by rw [hb]; decide))) ?_
                  refine aW (au 63 (by kernel_rfl) rfl (decide_eq_false (by rw [hb]; decide))) ?_
                  refine aW (au 63 (by kernel_rfl) rfl (decide_eq_false (by rw [hb]; decide))) ?_
                  refine aa (ar 56 (by kernel_rfl) rfl hpf) (aJ (vb rfl (decide_eq_false (by rw [hb]; decide))) rfl ?_)
                  refine aa rfl (aJ (vb rfl hpf) rfl ?_)
                  refine aa rfl (am  rfl ?_)
                  refine ai ?_
                  repeat (with_reducible first | apply ag | apply ac | apply af | apply ae | apply ab)
                  refine ⟨_, rfl, h0, h1, h2, h6, h7, h8, h9, h11, vb rfl (by rw [hsu, hpf, hb]; rfl), h13, hS⟩
                · have hbf := Bool.eq_false_iff.2 hb
                  repeat (with_reducible first | apply ag | apply ac | apply af | apply ae | apply ab)
                  refine aj ?_
                  refine aa rfl (ah  h12 ?_)
                  refine aa rfl (ah  rfl ?_)
                  refine aa (ar 56 (by kernel_rfl) rfl hpf) (ah  h8 ?_)
                  refine aa (ar 56 (by kernel_rfl) rfl hpf) (ah  h13 ?_)
                  refine aa (ar 56 (by kernel_rfl) rfl hpf) (aL  rfl Tryz.underlying85 ⟨_, Tryz.underlying3⟩ (r := ((i : Nat) : Int)) (by exact aQ _ ⟨rfl, by omega, by omega⟩) ?_)
                  refine aa (ar 56 (by kernel_rfl) rfl hpf) (dk  rfl rfl (by omega) (dp cut i (by show _ ≤ 64; omega)) ?_)
                  refine aa (ar 56 (by kernel_rfl) rfl hpf) (gz  rfl rfl (r := (((cut.testBit i).toNat : Nat) : Int)) (by exact bit_val (by omega)) ?_)
                  refine aa (ar 56 (by kernel_rfl) rfl hpf) (c6  rfl rfl ?_)
                  refine aa (ar 56 (by kernel_rfl) rfl hpf) (ah  rfl ?_)
                  refine aa (ar 63 (by kernel_rfl) rfl (decide_eq_true (by rw [hbf]; rfl))) (ah  h0 ?_)
                  refine aa (ar 63 (by kernel_rfl) rfl (decide_eq_true (by rw [hbf]; rfl))) (ah  h13 ?_)
                  refine aa (ar 63 (by kernel_rfl) rfl (decide_eq_true (by rw [hbf]; rfl))) (aX (i := i)  rfl rfl (hX.sl.below hS.below) (by omega) (by first | omega | (simp; done) | (simp; omega)) g8 ?_)
                  refine aw (ar 63 (by kernel_rfl) rfl (decide_eq_true (by rw [hbf]; rfl))) (a6 (v := fq (X.getD i zIt) (.slice ca (X.getD i zIt).charges.length ccap)) (i := i) (zIt, undef)  rfl eD (hX.sl.below hS.below) (by omega) rfl (by rw [hzg]; rfl) (.inl rfl) ?_)
                  refine aa (ar 63 (by kernel_rfl) rfl (decide_eq_true (by rw [hbf]; rfl))) (ah  h11 ?_)
                  refine ak (ar 63 (by kernel_rfl) rfl (decide_eq_true (by rw [hbf]; rfl))) (av Tryz.call13 rfl (Secures_ok (X.getD i zIt) _ c _ (hch.below hS.below)) ?_)
                  rintro _ wc8 ⟨rfl, hBc8⟩
                  replace hS := hS.grow hBc8
                  refine aa (ar 56 (by kernel_rfl) rfl hpf) (aJ (vb rfl (decide_eq_true (by rw [hbf]; rfl))) rfl ?_)
                  refine aa rfl (aJ (vb rfl hpf) rfl ?_)
                  refine aa rfl (am  rfl ?_)
                  refine ai ?_
                  repeat (with_reducible first | apply ag | apply ac | apply af | apply ae | apply ab)
                  refine ⟨_, rfl, h0, h1, h2, h6, h7, h8, h9, h11, vb rfl (by rw [hsu, hpf, hbf]; rfl), h13, hS⟩
            clear hS h0 h1 h2 h6 h7 h8 h9 h11 h12 h13
            rintro ρ w5 ⟨h0, h1, h2, h6, h7, h8, h9, h11, h12, h13, hS⟩
            repeat (with_reducible first | apply ag | apply ac | apply af | apply ae | apply ab)
            refine aj ?_
            refine aa rfl (ah  h13 ?_)
            refine aa rfl (aK  rfl rfl (IntWalk.i64_in _ (by omega)) ?_)
            refine aa rfl (am  rfl ?_)
            refine ai ?_
            repeat (with_reducible first | apply ag | apply ac | apply af | apply ae | apply ab)
            exact ⟨i + 1, _, rfl, ⟨hli, h0, h1, h2, h6, h7, h8, h9, h11, h12, vi rfl (by omega), hS⟩, by omega⟩
          · refine aN rfl (decide_eq_false (by omega)) ?_
            repeat (with_reducible first | apply ag | apply ac | apply af | apply ae | apply ab)
            refine aU ?_
            repeat (with_reducible first | apply aA | apply az | refine ay rfl ?_)
            repeat (with_reducible first | apply ag | apply ac | apply af | apply ae | apply ab)
            obtain rfl : i = n := by omega
            refine ⟨_, rfl, h0, h1, h2, h6, h7, h8, h9, h11, vb h12 (by rw [hn]; rfl), hS⟩
        clear hS h0 h1 h2 h6 h7 h8 h9 h11
        rintro ρ w5 ⟨h0, h1, h2, h6, h7, h8, h9, h11, h12, hS⟩
        obtain ⟨sb, hsb⟩ : ∃ sb, sb = S.getD c false := ⟨_, rfl⟩
        repeat (with_reducible first | apply ag | apply ac | apply af | apply ae | apply ab)
        refine a9 (fun ρ w' => ρ 0 = vi_ ∧ ρ 1 = vo ∧ ρ 2 = vs ∧ ρ 6 = .pointer (some ⟨b6, 0, none⟩) ∧ ρ 7 = .pointer (some ⟨b7, 0, none⟩) ∧ ρ 8 = .int .i64 cut ∧ ρ 9 = .pointer (some ⟨b9, 0, none⟩) ∧ ρ 11 = .int .i64 c ∧ ρ 78 = .bool (sb && cG X cut c) ∧
            St w w' [(b9, 36, aC (ofQ (dy X cut + sumIf (c) (fun c => S.getD c false && cG X cut c) (owF owed)))), (b7, 36, aC (ofQ (dl f cut))), (b6, 36, aC zRR)]) ?_ ?_
        · repeat (with_reducible first | apply ag | apply ac | apply af | apply ae | apply ab)
          by_cases hs : sb = true
          · repeat (with_reducible first | apply ag | apply ac | apply af | apply ae | apply ab)
            refine aj ?_
            refine aa rfl (ah  h2 ?_)
            refine aa rfl (ah  h11 ?_)
            refine aa rfl (aX (i := c)  rfl rfl (hSl.below hS.below) (by omega) (by first | omega | (simp; done) | (simp; omega)) fm ?_)
            refine aw rfl (a6 (v := .bool sb) (i := c) false  rfl dq (hSl.below hS.below) (by omega) rfl (by rw [← hsb]; rfl) (.inr rfl) ?_)
            refine aa rfl (ah  rfl ?_)
            refine aa (ar 76 (by kernel_rfl) rfl hs) (ah  h12 ?_)
            refine aa rfl (aJ (vb rfl hs) rfl ?_)
            refine ai ?_
            repeat (with_reducible first | apply ag | apply ac | apply af | apply ae | apply ab)
            refine ⟨_, rfl, h0, h1, h2, h6, h7, h8, h9, h11, vb rfl (by rw [hs]; rfl), hS⟩
          · repeat (with_reducible first | apply ag | apply ac | apply af | apply ae | apply ab)
            refine aj ?_
            refine aa rfl (ah  h2 ?_)
            refine aa rfl (ah  h11 ?_)
            refine aa rfl (aX (i := c)  rfl rfl (hSl.below hS.below) (by omega) (by first | omega | (simp; done) | (simp; omega)) fm ?_)
            refine aw rfl (a6 (v := .bool sb) (i := c) false  rfl dq (hSl.below hS.below) (by omega) rfl (by rw [← hsb]; rfl) (.inr rfl) ?_)
            refine aa rfl (ah  rfl ?_)
            refine aW (au 76 (by kernel_rfl) rfl (Bool.eq_false_iff.2 hs)) ?_
            refine aa rfl (aJ (vb rfl (Bool.eq_false_iff.2 hs)) rfl ?_)
            refine ai ?_
            repeat (with_reducible first | apply ag | apply ac | apply af | apply ae | apply ab)
            refine ⟨_, rfl, h0, h1, h2, h6, h7, h8, h9, h11, vb rfl (by rw [Bool.eq_false_iff.2 hs]; rfl), hS⟩
        clear hS h0 h1 h2 h6 h7 h8 h9 h11 h12
        rintro ρ w5 ⟨h0, h1, h2, h6, h7, h8, h9, h11, h78, hS⟩
        repeat (with_reducible first | apply ag | apply ac | apply af | apply ae | apply ab)
        by_cases hso : (sb && cG X cut c) = true
        · refine aD h78 hso ?_
          repeat (with_reducible first | apply ag | apply ac | apply af | apply ae | apply ab)
          have hsu : dy X cut + sumIf (c + 1) (fun c => S.getD c false && cG X cut c) (owF owed) = dy X cut + sumIf (c) (fun c => S.getD c false && cG X cut c) (owF owed) + owF owed c := by
            rw [sumIf, if_pos (by rw [← hsb]; exact hso)]; grind
          have hL1 := L_payF hXB hX8 cut
          have hL2 := im c (fun c => S.getD c false && cG X cut c) (owF owed) K (fun j hj => ix hoB (by omega))
          have hL3 : c * (K + 1) ≤ 24 * (K + 1) := Nat.mul_le_mul_right _ (by omega)
          have hL4 := jh (dy X cut) (sumIf c (fun c => S.getD c false && cG X cut c) (owF owed))
          have hL5 := ix hoB hco
          have hL6 := hoB _ (cb owed c zRR hco)
          repeat (with_reducible first | apply ag | apply ac | apply af | apply ae | apply ab)
          refine bm [(0, .read), (1, .pure), (2, .pure), (3, .pure), (4, .read), (5, .grow), (6, .grow), (7, .free)] (by kernel_rfl) (by kernel_rfl) hS ?_
          intro wz9 hS hBz9
          refine aF rfl rfl (aB (k := 0)  h9 ax hS rfl rfl rfl (.inl rfl) ?_)
          refine al rfl rfl (ah  h1 ?_)
          refine al rfl rfl (ah  h11 ?_)
          refine al rfl rfl (aX (i := c)  rfl rfl (ho.below hS.below) (by omega) (by first | omega | (simp; done) | (simp; omega)) bH ?_)
          refine aF rfl rfl (a6 (i := c) zRR  rfl ax (ho.below hS.below) (by first | omega | (simp; done) | (simp; omega)) rfl rfl (.inl rfl) ?_)
          refine aS rfl rfl (av Tryz.call49 rfl (iE (owed.getD c zRR) _ (by omega)) ?_)
          rintro r w6 ⟨rfl, hB6⟩
          refine ⟨hB6, ?_⟩
          replace hS := hS.grow hB6
          refine aS rfl rfl (av Tryz.call51 rfl (iv (dy X cut + sumIf (c) (fun c => S.getD c false && cG X cut c) (owF owed)) (owF owed c) _ (by omega)) ?_)
          rintro r w7 ⟨rfl, hB7⟩
          refine ⟨hB7, ?_⟩
          replace hS := hS.grow hB7
          rw [← hsu]
          refine bJ rfl rfl (a8 (k := 0)  h9 rfl ax hS rfl rfl rfl (Nat.le_of_ble_eq_true rfl) rfl ?_)
          intro wz10 hS
          refine bC ?_
          repeat (with_reducible first | apply ag | apply ac | apply af | apply ae | apply ab)
          refine aj ?_
          refine aa rfl (ah  h11 ?_)
          refine aa rfl (aK  rfl rfl (IntWalk.i64_in _ (by omega)) ?_)
          refine aa rfl (am  rfl ?_)
          refine ai ?_
          repeat (with_reducible first | apply ag | apply ac | apply af | apply ae | apply ab)
          exact ⟨c + 1, _, rfl, ⟨hlc, h0, h1, h2, h6, h7, h8, h9, vi rfl (by omega), hS⟩, by omega⟩
        · refine aN h78 (Bool.eq_false_iff.2 hso) ?_
          repeat (with_reducible first | apply ag | apply ac | apply af | apply ae | apply ab)
          refine aj ?_
          refine aa rfl (ah  h11 ?_)
          refine aa rfl (aK  rfl rfl (IntWalk.i64_in _ (by omega)) ?_)
          refine aa rfl (am  rfl ?_)
          refine ai ?_
          repeat (with_reducible first | apply ag | apply ac | apply af | apply ae | apply ab)
          refine ⟨c + 1, _, rfl, ⟨hlc, h0, h1, h2, h6, h7, h8, h9, vi rfl (by omega), hS.cast ?_⟩, by omega⟩
          rw [sumIf, if_neg (by rw [← hsb]; exact hso), Rat.add_zero]
      · refine aN rfl (decide_eq_false (by omega)) ?_
        repeat (with_reducible first | apply ag | apply ac | apply af | apply ae | apply ab)
        refine aU ?_
        repeat (with_reducible first | apply aA | apply az | refine ay rfl ?_)
        repeat (with_reducible first | apply ag | apply ac | apply af | apply ae | apply ab)
        obtain rfl : c = m := by omega
        refine ⟨_, rfl, h0, h1, h2, h6, h7, h8, h9, hS.cast ?_⟩
        rw [hf, dP, ← hm]
    clear hS h0 h1 h2 h6 h7 h8 h9
    rintro ρ w4 ⟨h0, h1, h2, h6, h7, h8, h9, hS⟩
    have hbs := bestF_succ f cut
    have hLf1 := hLf cut
    have hLb1 := hLb cut
    repeat (with_reducible first | apply ag | apply ac | apply af | apply ae | apply ab)
    refine a9 (fun ρ w' => ρ 0 = vi_ ∧ ρ 1 = vo ∧ ρ 2 = vs ∧ ρ 6 = .pointer (some ⟨b6, 0, none⟩) ∧ ρ 7 = .pointer (some ⟨b7, 0, none⟩) ∧ ρ 8 = .int .i64 cut ∧ ρ 9 = .pointer (some ⟨b9, 0, none⟩) ∧ ρ 92 = .bool (decide (cut = 0 ∨ f cut < dl f cut)) ∧ St w w' [(b9, 36, aC (ofQ (f cut))), (b7, 36, aC (ofQ (dl f cut))), (b6, 36, aC zRR)]) ?_ ?_
    · repeat (with_reducible first | apply ag | apply ac | apply af | apply ae | apply ab)
      by_cases hc0 : cut = 0
      · repeat (with_reducible first | apply ag | apply ac | apply af | apply ae | apply ab)
        refine aj ?_
        refine aa rfl (ah  h8 ?_)
        refine aa rfl (c6  rfl rfl ?_)
        refine aa rfl (ah  rfl ?_)
        refine aW (au 88 (by kernel_rfl) rfl (decide_eq_true (by omega))) ?_
        refine aW (au 88 (by kernel_rfl) rfl (decide_eq_true (by omega))) ?_
        refine aW (au 88 (by kernel_rfl) rfl (decide_eq_true (by omega))) ?_
        refine aa rfl (aJ (vb rfl (decide_eq_true (by omega))) rfl ?_)
        refine ai ?_
        repeat (with_reducible first | apply ag | apply ac | apply af | apply ae | apply ab)
        exact ⟨_, rfl, h0, h1, h2, h6, h7, h8, h9, vb rfl (decide_eq_true (.inl hc0)).symm, hS⟩
      · repeat (with_reducible first | apply ag | apply ac | apply af | apply ae | apply ab)
        refine aj ?_
        refine aa rfl (ah  h8 ?_)
        refine aa rfl (c6  rfl rfl ?_)
        refine aa rfl (ah  rfl ?_)
        refine aw (ar 88 (by kernel_rfl) rfl (decide_eq_false (by omega))) (aB (k := 0)  h9 ax hS rfl rfl rfl (.inl rfl) ?_)
        refine aw (ar 88 (by kernel_rfl) rfl (decide_eq_false (by omega))) (aB (k := 1)  h7 ax hS rfl rfl rfl (.inl rfl) ?_)
        refine ak (ar 88 (by kernel_rfl) rfl (decide_eq_false (by omega))) (av Tryz.call71 rfl (rLess_ok (f cut) (dl f cut) _ (by omega)) ?_)
        rintro _ wc11 ⟨rfl, hBc11⟩
        replace hS := hS.grow hBc11
        refine aa rfl (aJ (vb rfl (decide_eq_false (by omega))) rfl ?_)
        refine ai ?_
        repeat (with_reducible first | apply ag | apply ac | apply af | apply ae | apply ab)
        exact ⟨_, rfl, h0, h1, h2, h6, h7, h8, h9, vb rfl (decide_eq_decide.2 ⟨.inr, fun q => q.resolve_left hc0⟩), hS⟩
    clear hS h0 h1 h2 h6 h7 h8 h9
    rintro ρ w5 ⟨h0, h1, h2, h6, h7, h8, h9, h92, hS⟩
    repeat (with_reducible first | apply ag | apply ac | apply af | apply ae | apply ab)
    by_cases hbt : cut = 0 ∨ f cut < dl f cut
    · refine aD h92 (decide_eq_true hbt) ?_
      repeat (with_reducible first | apply ag | apply ac | apply af | apply ae | apply ab)
      rw [if_pos hbt] at hbs
      repeat (with_reducible first | apply ag | apply ac | apply af | apply ae | apply ab)
      refine aj ?_
      refine aw rfl (aB (k := 0)  h9 ax hS rfl rfl rfl (.inl rfl) ?_)
      refine ak rfl (a8 (k := 1)  h7 rfl ax hS rfl rfl rfl (Nat.le_of_ble_eq_true rfl) rfl ?_)
      intro wz12 hS
      refine ai ?_
      repeat (with_reducible first | apply ag | apply ac | apply af | apply ae | apply ab)
      refine aj ?_
      refine aa rfl (ah  h8 ?_)
      refine aa rfl (aK  rfl rfl (IntWalk.i64_in _ (by omega)) ?_)
      refine aa rfl (am  rfl ?_)
      refine ai ?_
      repeat (with_reducible first | apply ag | apply ac | apply af | apply ae | apply ab)
      exact ⟨cut + 1, _, rfl, ⟨hlt, h0, h1, h2, h6, h7, vi rfl (by omega), (hS.drop (List.sublist_cons_self _ _)).cast (by rw [hbs]; rfl)⟩, by omega⟩
    · refine aN h92 (decide_eq_false hbt) ?_
      repeat (with_reducible first | apply ag | apply ac | apply af | apply ae | apply ab)
      rw [if_neg hbt] at hbs
      repeat (with_reducible first | apply ag | apply ac | apply af | apply ae | apply ab)
      refine aj ?_
      refine aa rfl (ah  h8 ?_)
      refine aa rfl (aK  rfl rfl (IntWalk.i64_in _ (by omega)) ?_)
      refine aa rfl (am  rfl ?_)
      refine ai ?_
      repeat (with_reducible first | apply ag | apply ac | apply af | apply ae | apply ab)
      exact ⟨cut + 1, _, rfl, ⟨hlt, h0, h1, h2, h6, h7, vi rfl (by omega), (hS.drop (List.sublist_cons_self _ _)).cast (by rw [hbs])⟩, by omega⟩
  · refine aN rfl (decide_eq_false (by omega)) ?_
    repeat (with_reducible first | apply ag | apply ac | apply af | apply ae | apply ab)
    refine aU ?_
    repeat (with_reducible first | apply aA | apply az | refine ay rfl ?_)
    repeat (with_reducible first | apply ag | apply ac | apply af | apply ae | apply ab)
    obtain rfl : cut = N := by omega
    have hN0 : cut ≠ 0 := by rw [hN]; exact Nat.ne_of_gt (Nat.two_pow_pos n)
    have hb : dl f cut = dL X owed fun c => S.getD c false := by
      unfold dl dL
      rw [if_neg hN0, hf, hN, hn]
    rw [hb] at hS
    repeat (with_reducible first | apply ag | apply ac | apply af | apply ae | apply ab)
    refine aj ?_
    refine aw rfl (aB (k := 0)  h7 ax hS rfl rfl rfl (.inl rfl) ?_)
    refine ak rfl (a8 (k := 1)  h6 rfl ax hS rfl rfl rfl (Nat.le_of_ble_eq_true rfl) rfl ?_)
    intro wz13 hS
    refine ai ?_
    repeat (with_reducible first | apply ag | apply ac | apply af | apply ae | apply ab)
    refine aE ?_
    repeat (with_reducible first | apply ap | apply ao)
    refine bN (k := 1) rfl h6 ax hS rfl rfl ?_
    exact ⟨rfl, hS.below⟩
end Go.Proofs.YtmghobajmhdbfaaGreatDoor
namespace Go.Proofs.YtmghobajmhdbfaaGreatDoor
open Go Go.RowKit Go.Sx
theorem e8 {X : List It} {owed : List RR} {s t : Nat → Bool} (h : ∀ c, c < owed.length → s c = t c) : dL X owed s = dL X owed t := by
  have : cJ X owed s = cJ X owed t := funext fun j => fc X owed h j
  unfold dL
  rw [this]
def ik (k c : Nat) : Bool := decide (c < k)
theorem setT_set {m k : Nat} (_ : k < m) : (tab m (ik k)).set k true = tab m (ik (k + 1)) := by
  rw [eU]
  refine bs fun i _ => ?_
  unfold ik
  by_cases e : i = k
  · subst e; simp
  · rw [if_neg e]; exact decide_eq_decide.2 (by omega)
theorem capQ_setT (X : List It) (owed : List RR) (k : Nat) : dL X owed (fun c => (tab owed.length (ik (k + 1))).getD c false) = bR X owed (k + 1) := by
  unfold bR
  rw [if_neg (Nat.succ_ne_zero _)]
  exact e8 fun c hc => cE _ _ hc
def totP (X : List It) (owed : List RR) (k : Nat) : List RR := tab k fun c => ofQ (bR X owed (c + 1) - bR X owed c)
theorem totP_succ (X : List It) (owed : List RR) (k : Nat) : totP X owed (k + 1) = totP X owed k ++ [ofQ (bR X owed (k + 1) - bR X owed k)] := tab_succ _ _
set_option maxHeartbeats 1000000 in
theorem rTotals_ok (vi_ vo : Value) (X : List It) (cvs : List Value) (owed : List RR) (K : Nat) (w : World) (hX : Its w vi_ X cvs) (ho : Sl aC 3 w vo owed) (hXB : ItB K X) (hoB : RB K owed) (hK : 100 * K + 100 ≤ MX) :
    Ret Tryz.prog 19 #[vi_, vo] w fun v w' => (∃ vt, v = .tuple #[vt, .int .i64 (bS X owed)] ∧ Sl aC 3 w' vt (jd X owed)) ∧ Below w.heap.size w w' := by
  have hM : MX = 1099511627776 := rfl
  have hom := ho.maxLen
  have hS := St.init w
  obtain ⟨m, hm⟩ : ∃ m, m = owed.length := ⟨_, rfl⟩
  have hzero : (List.replicate m false) = tab m (ik 0) := by rw [fN]; exact bs fun i _ => by simp [ik]
  have hz : aC zRR = aC (ofQ (bR X owed 0)) := by unfold bR; rw [if_pos rfl, cI]; rfl
  refine enter Tryz.func19 rfl Tryz.ntmps19 rfl ?_
  repeat (with_reducible first | apply ag | apply ac | apply af | apply ae | apply ab)
  refine aj ?_
  refine aa rfl (am  rfl ?_)
  refine aa rfl (am  rfl ?_)
  refine ai ?_
  repeat (with_reducible first | apply ag | apply ac | apply af | apply ae | apply ab)
  refine aj ?_
  refine aa rfl (ah  rfl ?_)
  refine aa rfl (ah  rfl ?_)
  refine ak rfl (av Tryz.call44 rfl (rCheck_ok vi_ vo X cvs owed _ (hX.below hS.below) (ho.below hS.below) (fa hXB (by omega)) (fY hoB (by omega))) ?_)
  rintro _ wc1 ⟨rfl, hBc1⟩
  replace hS := hS.grow hBc1
  refine aa rfl (am  rfl ?_)
  refine ai ?_
  repeat (with_reducible first | apply ag | apply ac | apply af | apply ae | apply ab)
  obtain ⟨e, he⟩ : ∃ e, e = bS X owed := ⟨_, rfl⟩
  rw [← he]
  repeat (with_reducible first | apply ag | apply ac | apply af | apply ae | apply ab)
  refine aj ?_
  refine aa rfl (ah  rfl ?_)
  refine aa rfl (e9  rfl rfl ?_)
  refine ai ?_
  repeat (with_reducible first | apply ag | apply ac | apply af | apply ae | apply ab)
  by_cases h0 : e = 0
  · refine aN rfl (decide_eq_false (by omega)) ?_
    repeat (with_reducible first | apply ag | apply ac | apply af | apply ae | apply ab)
    have hck := he.symm.trans h0
    obtain ⟨hX8, ho24, hng, hit, hcl⟩ := dm hck
    repeat (with_reducible first | apply ag | apply ac | apply af | apply ae | apply ab)
    refine aj ?_
    refine aa rfl (am  rfl ?_)
    refine ai ?_
    repeat (with_reducible first | apply ag | apply ac | apply af | apply ae | apply ab)
    refine aj ?_
    refine aa rfl (ah  rfl ?_)
    refine aa rfl (aG  rfl (ho.below hS.below) ⟨_, Tryz.underlying24⟩ ?_)
    refine ak rfl (eu (enc := enB) (n := m) false  rfl rfl fm rfl (by omega) (by omega) (by omega) (by omega) hS ?_)
    intro b8 wz2 hS hBz2
    refine aa rfl (am  rfl ?_)
    refine ai ?_
    repeat (with_reducible first | apply ag | apply ac | apply af | apply ae | apply ab)
    rw [← hm]
    repeat (with_reducible first | apply ag | apply ac | apply af | apply ae | apply ab)
    refine aj ?_
    refine aa rfl (ce  rfl eJ ?_)
    refine ak rfl (aZ  ax hS ?_)
    intro b9 wz3 hS hBz3
    refine ak rfl (a8 (k := 0)  rfl rfl ax hS rfl rfl rfl (Nat.le_of_ble_eq_true rfl) rfl ?_)
    intro wz4 hS
    refine ai ?_
    repeat (with_reducible first | apply ag | apply ac | apply af | apply ae | apply ab)
    rw [hzero] at hS
    replace hS : St w _ [(b9, 36, aC zRR), (b8, 4, (tab m (ik 0)).flatMap enB)] := hS
    rw [hz] at hS
    repeat (with_reducible first | apply ag | apply ac | apply af | apply ae | apply ab)
    refine aj ?_
    refine aa rfl (am  rfl ?_)
    refine ai ?_
    repeat (with_reducible first | apply ag | apply ac | apply af | apply ae | apply ab)
    refine a5 (σ := Nat) (fun c ρ w' => c ≤ m ∧ ρ 0 = vi_ ∧ ρ 1 = vo ∧ ρ 8 = .slice (some ⟨b8, 0, none⟩) m m ∧ ρ 9 = .pointer (some ⟨b9, 0, none⟩) ∧ ρ 10 = .int .i64 c ∧
        ∃ sT LT, ρ 7 = sT ∧ Gl aC 36 3 sT (totP X owed c) LT ∧ St w w' ([(b9, 36, aC (ofQ (bR X owed c))), (b8, 4, (tab m (ik c)).flatMap enB)] ++ LT)) (fun c => m - c) 0
      ⟨Nat.zero_le _, rfl, rfl, rfl, rfl, rfl, ⟨_, [], rfl, Gl.nil _ _ _, by rw [List.append_nil]; exact hS⟩⟩ ?_
    clear hS
    rintro c ρ w4 ⟨hc, h0', h1, h8, h9, h10, sT, LT, h7, hG, hS⟩
    have htl := bp m (ik c)
    repeat (with_reducible first | apply ag | apply ac | apply af | apply ae | apply ab)
    refine aj ?_
    refine aa rfl (ah  h10 ?_)
    refine aa rfl (ah  h1 ?_)
    refine aa rfl (aG  rfl (ho.below hS.below) ⟨_, Tryz.underlying24⟩ ?_)
    refine aa rfl (aV  rfl rfl ?_)
    refine ai ?_
    repeat (with_reducible first | apply ag | apply ac | apply af | apply ae | apply ab)
    by_cases hlt : c < m
    · refine aD rfl (decide_eq_true (by omega)) ?_
      repeat (with_reducible first | apply ag | apply ac | apply af | apply ae | apply ab)
      have hst := setT_set hlt
      have hL1 := iz hXB hoB hX8 ho24 (c + 1)
      have hL2 := iz hXB hoB hX8 ho24 c
      have hpl : (totP X owed c).length = c := bp _ _
      repeat (with_reducible first | apply ag | apply ac | apply af | apply ae | apply ab)
      refine aj ?_
      refine aa rfl (ah  h8 ?_)
      refine aa rfl (ah  h10 ?_)
      refine aa rfl (a7 (i := c)  rfl rfl (by omega) (by first | omega | (simp; done) | (simp; omega)) fm ?_)
      refine ak rfl (fC (k := 1) (i := c) (enc := enB) true (fun _ => rfl)  rfl rfl dq hS rfl (by first | omega | simp) (by first | omega | (simp; done) | (simp; omega)) rfl rfl ?_)
      intro wz5 hS
      refine ai ?_
      repeat (with_reducible first | apply ag | apply ac | apply af | apply ae | apply ab)
      replace hS : St w _ ([(b9, 36, aC (ofQ (bR X owed c))), (b8, 4, ((tab m (ik c)).set c true).flatMap enB)] ++ LT) := hS
      rw [hst] at hS
      repeat (with_reducible first | apply ag | apply ac | apply af | apply ae | apply ab)
      refine aj ?_
      refine aa rfl (ah  h0' ?_)
      refine aa rfl (ah  h1 ?_)
      refine aa rfl (ah  h8 ?_)
      have hsl : Sl enB 1 _ (.slice (some ⟨b8, 0, none⟩) m m) _ := hS.sle (k := 1) (enc := enB) (n := m) (cap := m) rfl enB_len (by rw [bp]; exact Nat.le_refl _) (Nat.le_refl _) (by omega)
      rw [List.take_of_length_le (by rw [bp]; exact Nat.le_refl _)] at hsl
      refine ak rfl (av Tryz.call45 rfl (rcapacity_ok vi_ vo _ X cvs owed (tab m (ik (c + 1))) K _ (hX.below hS.below) (ho.below hS.below) hsl (by rw [bp]; exact hm) hXB hoB hK hX8 ho24) ?_)
      rintro r w5 ⟨rfl, hB5⟩
      replace hS := hS.grow hB5
      have hcq := capQ_setT X owed c
      rw [← hm] at hcq
      rw [hcq]
      refine ak rfl (aZ  ax hS ?_)
      intro b11 wz6 hS hBz6
      refine ak rfl (a8 (k := 0)  rfl rfl ax hS rfl rfl rfl (Nat.le_of_ble_eq_true rfl) rfl ?_)
      intro wz7 hS
      refine ai ?_
      repeat (with_reducible first | apply ag | apply ac | apply af | apply ae | apply ab)
      replace hS : St w _ ([(b11, 36, aC (ofQ (bR X owed (c + 1)))), (b9, 36, aC (ofQ (bR X owed c))), (b8, 4, (tab m (ik (c + 1))).flatMap enB)] ++ LT) := hS
      repeat (with_reducible first | apply ag | apply ac | apply af | apply ae | apply ab)
      refine aj ?_
      refine aa rfl (ah  h7 ?_)
      refine aw rfl (aB (k := 0)  rfl ax hS rfl rfl rfl (.inl rfl) ?_)
      refine aw rfl (aB (k := 1)  h9 ax hS rfl rfl rfl (.inl rfl) ?_)
      refine ak rfl (av Tryz.call46 rfl (e6 (bR X owed (c + 1)) (bR X owed c) _ (by omega)) ?_)
      rintro r w6 ⟨rfl, hB6⟩
      replace hS := hS.grow hB6
      replace hS : St w _ ([(b11, 36, aC (ofQ (bR X owed (c + 1)))), (b9, 36, aC (ofQ (bR X owed c))), (b8, 4, (tab m (ik (c + 1))).flatMap enB)] ++ LT) := hS
      refine ak rfl (dJ (vs := [bE (ofQ (bR X owed (c + 1) - bR X owed c))])  rfl bH rfl (by decide) (by decide) (by decide) (by simp [Value.cells, bE]) rfl hS ?_)
      intro bx wz8 hS hBz8
      refine ak rfl (eH [ofQ (bR X owed (c + 1) - bR X owed c)]  rfl rfl bH (by decide) hG hS rfl rfl bg (fB [ofQ (bR X owed (c + 1) - bR X owed c)]) (by first | omega | (simp only [List.length_cons, List.length_nil]; omega)) (by first | omega | (simp only [List.length_cons, List.length_nil]; omega)) ?_)
      intro va9 La9 wa9 hG hS hga9
      refine aa rfl (am  rfl ?_)
      refine ai ?_
      repeat (with_reducible first | apply ag | apply ac | apply af | apply ae | apply ab)
      rw [← totP_succ] at hG
      repeat (with_reducible first | apply ag | apply ac | apply af | apply ae | apply ab)
      refine aj ?_
      refine aw rfl (aB (k := 0)  rfl ax hS rfl rfl rfl (.inl rfl) ?_)
      refine ak rfl (a8 (k := 1)  h9 rfl ax hS rfl rfl rfl (Nat.le_of_ble_eq_true rfl) rfl ?_)
      intro wz10 hS
      refine ai ?_
      repeat (with_reducible first | apply ag | apply ac | apply af | apply ae | apply ab)
      replace hS : St w _ ((b11, 36, aC (ofQ (bR X owed (c + 1)))) :: ([(b9, 36, aC (ofQ (bR X owed (c + 1)))), (b8, 4, (tab m (ik (c + 1))).flatMap enB)] ++ _)) := hS
      repeat (with_reducible first | apply ag | apply ac | apply af | apply ae | apply ab)
      refine aj ?_
      refine aa rfl (ah  h10 ?_)
      refine aa rfl (aK  rfl rfl (IntWalk.i64_in _ (by omega)) ?_)
      refine aa rfl (am  rfl ?_)
      refine ai ?_
      repeat (with_reducible first | apply ag | apply ac | apply af | apply ae | apply ab)
      exact ⟨c + 1, _, rfl, ⟨hlt, h0', h1, h8, h9, vi rfl (by omega), ⟨_, _, rfl, hG, hS.drop (List.sublist_cons_self _ _)⟩⟩, by omega⟩
    · refine aN rfl (decide_eq_false (by omega)) ?_
      repeat (with_reducible first | apply ag | apply ac | apply af | apply ae | apply ab)
      refine aU ?_
      repeat (with_reducible first | apply aA | apply az | refine ay rfl ?_)
      repeat (with_reducible first | apply ag | apply ac | apply af | apply ae | apply ab)
      obtain rfl : c = m := by omega
      repeat (with_reducible first | apply ag | apply ac | apply af | apply ae | apply ab)
      refine aj ?_
      refine aa rfl (ah  h7 ?_)
      refine aa rfl (am  rfl ?_)
      refine aa rfl (am  rfl ?_)
      refine ai ?_
      repeat (with_reducible first | apply ag | apply ac | apply af | apply ae | apply ab)
      refine aE ?_
      repeat (with_reducible first | apply ap | apply ao)
      refine dw rfl rfl rfl ?_
      refine ⟨⟨_, by rw [h0]; rfl, ?_⟩, hS.below⟩
      have ht : jd X owed = totP X owed c := by rw [hm]; exact if_pos hck
      rw [ht]
      exact hG.sl hS bg
  · refine aD rfl (decide_eq_true (by omega)) ?_
    repeat (with_reducible first | apply ag | apply ac | apply af | apply ae | apply ab)
    refine aj ?_
    refine aa rfl (ah  rfl ?_)
    refine aa rfl (am  rfl ?_)
    refine aa rfl (am  rfl ?_)
    refine ai ?_
    repeat (with_reducible first | apply ag | apply ac | apply af | apply ae | apply ab)
    refine aE ?_
    repeat (with_reducible first | apply ap | apply ao)
    refine dw rfl rfl rfl ?_
    refine ⟨⟨_, rfl, ?_⟩, hS.below⟩
    have ht : jd X owed = [] := if_neg fun g => h0 (he.trans g)
    rw [ht]
    exact Sl.nil _ _ _
end Go.Proofs.YtmghobajmhdbfaaGreatDoor
namespace Go.Proofs.YtmghobajmhdbfaaGreatDoor
open Go Go.RowKit Go.Sx
set_option maxHeartbeats 1000000 in
theorem rCapacity_ok (vi_ vo vc : Value) (X : List It) (cvs : List Value) (owed : List RR) (L : List Int) (K : Nat) (w : World) (hX : Its w vi_ X cvs) (ho : Sl aC 3 w vo owed) (hL : Sl enI 1 w vc L) (hXB : ItB K X) (hoB : RB K owed) (hK : 100 * K + 100 ≤ MX) :
    Ret Tryz.prog 18 #[vi_, vo, vc] w fun v w' => v = .tuple #[bE (gH X owed L), .int .i64 (gy X owed L)] ∧ Below w.heap.size w w' := by
  have hM : MX = 1099511627776 := rfl
  have hLm := hL.maxLen
  have hom := ho.maxLen
  obtain ⟨m, hm⟩ : ∃ m, m = owed.length := ⟨_, rfl⟩
  have hzero : (List.replicate m false) = tab m (inT L 0) := by rw [fN]; exact bs fun i _ => rfl
  have hS := St.init w
  refine enter Tryz.func18 rfl Tryz.ntmps18 rfl ?_
  repeat (with_reducible first | apply ag | apply ac | apply af | apply ae | apply ab)
  refine aj ?_
  refine ak rfl (aZ  ax hS ?_)
  intro b6 wz1 hS hBz1
  refine aa rfl (am  rfl ?_)
  refine ai ?_
  repeat (with_reducible first | apply ag | apply ac | apply af | apply ae | apply ab)
  refine aj ?_
  refine aa rfl (ah  rfl ?_)
  refine aa rfl (ah  rfl ?_)
  refine ak rfl (av Tryz.call44 rfl (rCheck_ok vi_ vo X cvs owed _ (hX.below hS.below) (ho.below hS.below) (fa hXB (by omega)) (fY hoB (by omega))) ?_)
  rintro _ wc2 ⟨rfl, hBc2⟩
  replace hS := hS.grow hBc2
  refine aa rfl (am  rfl ?_)
  refine ai ?_
  repeat (with_reducible first | apply ag | apply ac | apply af | apply ae | apply ab)
  obtain ⟨e, he⟩ : ∃ e, e = bS X owed := ⟨_, rfl⟩
  rw [← he]
  repeat (with_reducible first | apply ag | apply ac | apply af | apply ae | apply ab)
  refine aj ?_
  refine aa rfl (ah  rfl ?_)
  refine aa rfl (e9  rfl rfl ?_)
  refine ai ?_
  repeat (with_reducible first | apply ag | apply ac | apply af | apply ae | apply ab)
  by_cases h0 : e = 0
  · refine aN rfl (decide_eq_false (by omega)) ?_
    repeat (with_reducible first | apply ag | apply ac | apply af | apply ae | apply ab)
    have hck := he.symm.trans h0
    obtain ⟨hX8, ho24, hng, hit, hcl⟩ := dm hck
    repeat (with_reducible first | apply ag | apply ac | apply af | apply ae | apply ab)
    refine aj ?_
    refine aa rfl (ah  rfl ?_)
    refine aa rfl (aG  rfl (ho.below hS.below) ⟨_, Tryz.underlying24⟩ ?_)
    refine ak rfl (eu (enc := enB) (n := m) false  rfl rfl fm rfl (by omega) (by omega) (by omega) (by omega) hS ?_)
    intro b9 wz3 hS hBz3
    refine aa rfl (am  rfl ?_)
    refine ai ?_
    repeat (with_reducible first | apply ag | apply ac | apply af | apply ae | apply ab)
    rw [← hm]
    rw [hzero] at hS
    replace hS : St w _ [(b9, 4, (tab m (inT L 0)).flatMap enB), (b6, 36, aC zRR)] := hS
    repeat (with_reducible first | apply ag | apply ac | apply af | apply ae | apply ab)
    refine aj ?_
    refine aa rfl (am  rfl ?_)
    refine ai ?_
    repeat (with_reducible first | apply ag | apply ac | apply af | apply ae | apply ab)
    refine a5 (σ := Nat) (fun k ρ w' => k ≤ L.length ∧ (L.take k).any (fun c => decide (c < 0 ∨ (m : Int) ≤ c)) = false ∧ ρ 0 = vi_ ∧ ρ 1 = vo ∧ ρ 2 = vc ∧ ρ 6 = .pointer (some ⟨b6, 0, none⟩) ∧ ρ 9 = .slice (some ⟨b9, 0, none⟩) m m ∧ ρ 10 = .int .i64 k ∧
        St w w' [(b9, 4, (tab m (inT L k)).flatMap enB), (b6, 36, aC zRR)]) (fun k => L.length - k) 0
      ⟨Nat.zero_le _, rfl, rfl, rfl, rfl, rfl, rfl, rfl, hS⟩ ?_
    clear hS
    rintro k ρ w4 ⟨hk1, hok, h0', h1, h2, h6, h9, h10, hS⟩
    have htl := bp m (inT L k)
    repeat (with_reducible first | apply ag | apply ac | apply af | apply ae | apply ab)
    refine aj ?_
    refine aa rfl (ah  h10 ?_)
    refine aa rfl (ah  h2 ?_)
    refine aa rfl (aG  rfl (hL.below hS.below) ⟨_, Tryz.underlying47⟩ ?_)
    refine aa rfl (aV  rfl rfl ?_)
    refine ai ?_
    repeat (with_reducible first | apply ag | apply ac | apply af | apply ae | apply ab)
    by_cases hk : k < L.length
    · refine aD rfl (decide_eq_true (by omega)) ?_
      repeat (with_reducible first | apply ag | apply ac | apply af | apply ae | apply ab)
      obtain ⟨c, hc⟩ : ∃ c, c = L.getD k 0 := ⟨_, rfl⟩
      obtain ⟨e1, e2⟩ := any_take_step (fun c => decide (c < 0 ∨ (m : Int) ≤ c)) L 0 hk hok
      rw [← hc] at e1 e2
      refine a9 (fun ρ w' => ρ 0 = vi_ ∧ ρ 1 = vo ∧ ρ 2 = vc ∧ ρ 6 = .pointer (some ⟨b6, 0, none⟩) ∧ ρ 9 = .slice (some ⟨b9, 0, none⟩) m m ∧ ρ 10 = .int .i64 k ∧ ρ 40 = .bool (decide (c < 0 ∨ (m : Int) ≤ c)) ∧
        St w w' [(b9, 4, (tab m (inT L k)).flatMap enB), (b6, 36, aC zRR)]) ?_ ?_
      · repeat (with_reducible first | apply ag | apply ac | apply af | apply ae | apply ab)
        by_cases hp : c < 0
        · repeat (with_reducible first | apply ag | apply ac | apply af | apply ae | apply ab)
          refine aj ?_
          refine aa rfl (ah  h2 ?_)
          refine aa rfl (ah  h10 ?_)
          refine aa rfl (aX (i := k)  rfl rfl (hL.below hS.below) (by omega) (by first | omega | (simp; done) | (simp; omega)) cN ?_)
          refine aw rfl (a6 (v := .int .i64 c) (i := k) 0  rfl dM (hL.below hS.below) (by omega) rfl (by rw [← hc]; rfl) (.inr rfl) ?_)
          refine aa rfl (aV  rfl rfl ?_)
          refine aa rfl (ah  rfl ?_)
          refine aW (au 32 (by kernel_rfl) rfl (decide_eq_true hp)) ?_
          refine aW (au 32 (by kernel_rfl) rfl (decide_eq_true hp)) ?_
          refine aW (au 32 (by kernel_rfl) rfl (decide_eq_true hp)) ?_
          refine aW (au 32 (by kernel_rfl) rfl (decide_eq_true hp)) ?_
          refine aW (au 32 (by kernel_rfl) rfl (decide_eq_true hp)) ?_
          refine aW (au 32 (by kernel_rfl) rfl (decide_eq_true hp)) ?_
          refine aW (au 32 (by kernel_rfl) rfl (decide_eq_true hp)) ?_
          refine aa rfl (aJ (vb rfl (decide_eq_true hp)) rfl ?_)
          refine ai ?_
          repeat (with_reducible first | apply ag | apply ac | apply af | apply ae | apply ab)
          exact ⟨_, rfl, h0', h1, h2, h6, h9, h10, vb rfl (decide_eq_true (.inl hp)).symm, hS⟩
        · repeat (with_reducible first | apply ag | apply ac | apply af | apply ae | apply ab)
          refine aj ?_
          refine aa rfl (ah  h2 ?_)
          refine aa rfl (ah  h10 ?_)
          refine aa rfl (aX (i := k)  rfl rfl (hL.below hS.below) (by omega) (by first | omega | (simp; done) | (simp; omega)) cN ?_)
          refine aw rfl (a6 (v := .int .i64 c) (i := k) 0  rfl dM (hL.below hS.below) (by omega) rfl (by rw [← hc]; rfl) (.inr rfl) ?_)
          refine aa rfl (aV  rfl rfl ?_)
          refine aa rfl (ah  rfl ?_)
          refine aa (ar 32 (by kernel_rfl) rfl (decide_eq_false hp)) (ah  h2 ?_)
          refine aa (ar 32 (by kernel_rfl) rfl (decide_eq_false hp)) (ah  h10 ?_)
          refine aa (ar 32 (by kernel_rfl) rfl (decide_eq_false hp)) (aX (i := k)  rfl rfl (hL.below hS.below) (by omega) (by first | omega | (simp; done) | (simp; omega)) cN ?_)
          refine aw (ar 32 (by kernel_rfl) rfl (decide_eq_false hp)) (a6 (v := .int .i64 c) (i := k) 0  rfl dM (hL.below hS.below) (by omega) rfl (by rw [← hc]; rfl) (.inr rfl) ?_)
          refine aa (ar 32 (by kernel_rfl) rfl (decide_eq_false hp)) (ah  h1 ?_)
          refine aa (ar 32 (by kernel_rfl) rfl (decide_eq_false hp)) (aG  rfl (ho.below hS.below) ⟨_, Tryz.underlying24⟩ ?_)
          refine aa (ar 32 (by kernel_rfl) rfl (decide_eq_false hp)) (df  rfl rfl ?_)
          refine aa rfl (aJ (vb rfl (decide_eq_false hp)) rfl ?_)
          refine ai ?_
          repeat (with_reducible first | apply ag | apply ac | apply af | apply ae | apply ab)
          exact ⟨_, rfl, h0', h1, h2, h6, h9, h10, vb rfl (by rw [decide_eq_decide, ← hm]; omega), hS⟩
      clear hS h0' h1 h2 h6 h9 h10
      rintro ρ w5 ⟨h0', h1, h2, h6, h9, h10, h40, hS⟩
      repeat (with_reducible first | apply ag | apply ac | apply af | apply ae | apply ab)
      by_cases hb : c < 0 ∨ (m : Int) ≤ c
      · refine aD h40 (decide_eq_true hb) ?_
        repeat (with_reducible first | apply ag | apply ac | apply af | apply ae | apply ab)
        have hE : gy X owed L = 1 := by unfold gy; rw [if_pos hck, ← hm, if_pos (e2 (decide_eq_true hb))]
        have hR : gH X owed L = zRR := by unfold gH; rw [hE]; rfl
        rw [hE, hR]
        repeat (with_reducible first | apply ag | apply ac | apply af | apply ae | apply ab)
        refine aj ?_
        refine aa rfl (ce  rfl eJ ?_)
        refine ak rfl (a8 (k := 1)  h6 rfl ax hS rfl rfl rfl (Nat.le_of_ble_eq_true rfl) rfl ?_)
        intro wz4 hS
        refine aa rfl (am  rfl ?_)
        refine ai ?_
        repeat (with_reducible first | apply ag | apply ac | apply af | apply ae | apply ab)
        refine aE ?_
        repeat (with_reducible first | apply ap | apply ao)
        refine eg (k := 1) rfl h6 rfl ax hS rfl rfl ?_
        exact ⟨rfl, hS.below⟩
      refine aN h40 (decide_eq_false hb) ?_
      repeat (with_reducible first | apply ag | apply ac | apply af | apply ae | apply ab)
      obtain ⟨c0, hc0⟩ : ∃ c0 : Nat, c = (c0 : Int) := ⟨_, (Int.toNat_of_nonneg (by omega)).symm⟩
      have hst := inT_step (m := m) hk (hc.symm.trans hc0)
      repeat (with_reducible first | apply ag | apply ac | apply af | apply ae | apply ab)
      refine aj ?_
      refine aa rfl (ah  h9 ?_)
      refine aa rfl (ah  h2 ?_)
      refine aa rfl (ah  h10 ?_)
      refine aa rfl (aX (i := k)  rfl rfl (hL.below hS.below) (by omega) (by first | omega | (simp; done) | (simp; omega)) cN ?_)
      refine aw rfl (a6 (v := .int .i64 c) (i := k) 0  rfl dM (hL.below hS.below) (by omega) rfl (by rw [← hc]; rfl) (.inr rfl) ?_)
      refine aa rfl (a7 (i := c0)  rfl rfl (by omega) (by first | omega | (simp; done) | (simp; omega)) fm ?_)
      refine ak rfl (fC (k := 0) (i := c0) (enc := enB) true (fun _ => rfl)  rfl rfl dq hS rfl (by first | omega | simp) (by first | omega | (simp; done) | (simp; omega)) rfl rfl ?_)
      intro wz5 hS
      refine ai ?_
      repeat (with_reducible first | apply ag | apply ac | apply af | apply ae | apply ab)
      refine aj ?_
      refine aa rfl (ah  h10 ?_)
      refine aa rfl (aK  rfl rfl (IntWalk.i64_in _ (by omega)) ?_)
      refine aa rfl (am  rfl ?_)
      refine ai ?_
      repeat (with_reducible first | apply ag | apply ac | apply af | apply ae | apply ab)
      exact ⟨k + 1, _, rfl, ⟨hk, e1 (decide_eq_false hb), h0', h1, h2, h6, h9, vi rfl (by omega), hS.cast (by show [_, _] = _; rw [hst])⟩, by omega⟩
    · refine aN rfl (decide_eq_false (by omega)) ?_
      repeat (with_reducible first | apply ag | apply ac | apply af | apply ae | apply ab)
      refine aU ?_
      repeat (with_reducible first | apply aA | apply az | refine ay rfl ?_)
      repeat (with_reducible first | apply ag | apply ac | apply af | apply ae | apply ab)
      obtain rfl : k = L.length := by omega
      rw [List.take_length] at hok
      have hE : gy X owed L = 0 := by unfold gy; rw [if_pos hck, ← hm, hok]; rfl
      have hRes : gH X owed L = ofQ (dL X owed (dz L)) := by unfold gH; rw [if_pos hE]
      have hin : inT L L.length = dz L := by funext c; unfold inT; rw [List.take_length]
      rw [hin] at hS
      rw [hE, hRes]
      repeat (with_reducible first | apply ag | apply ac | apply af | apply ae | apply ab)
      refine aj ?_
      refine aa rfl (ah  h0' ?_)
      refine aa rfl (ah  h1 ?_)
      refine aa rfl (ah  h9 ?_)
      have hsl : Sl enB 1 _ (.slice (some ⟨b9, 0, none⟩) m m) _ := hS.sle (k := 0) (enc := enB) (n := m) (cap := m) rfl enB_len (by rw [bp]; exact Nat.le_refl _) (Nat.le_refl _) (by omega)
      rw [List.take_of_length_le (by rw [bp]; exact Nat.le_refl _)] at hsl
      refine ak rfl (av Tryz.call45 rfl (rcapacity_ok vi_ vo _ X cvs owed (tab m (dz L)) K _ (hX.below hS.below) (ho.below hS.below) hsl (by rw [bp]; exact hm) hXB hoB hK hX8 ho24) ?_)
      rintro r w5 ⟨rfl, hB5⟩
      replace hS := hS.grow hB5
      have hcq : dL X owed (fun c => (tab m (dz L)).getD c false) = dL X owed (dz L) := e8 fun c hc => cE _ _ (by omega)
      rw [hcq]
      refine ak rfl (a8 (k := 1)  h6 rfl ax hS rfl rfl rfl (Nat.le_of_ble_eq_true rfl) rfl ?_)
      intro wz6 hS
      refine aa rfl (am  rfl ?_)
      refine ai ?_
      repeat (with_reducible first | apply ag | apply ac | apply af | apply ae | apply ab)
      refine aE ?_
      repeat (with_reducible first | apply ap | apply ao)
      refine eg (k := 1) rfl h6 rfl ax hS rfl rfl ?_
      exact ⟨rfl, hS.below⟩
  · refine aD rfl (decide_eq_true (by omega)) ?_
    repeat (with_reducible first | apply ag | apply ac | apply af | apply ae | apply ab)
    have hne : ¬ bS X owed = 0 := fun g => h0 (he.trans g)
    have hE : gy X owed L = e := by unfold gy; rw [if_neg hne, he]
    have hR : gH X owed L = zRR := by unfold gH; rw [if_neg (by rw [hE]; exact h0)]
    rw [hE, hR]
    repeat (with_reducible first | apply ag | apply ac | apply af | apply ae | apply ab)
    refine aj ?_
    refine aa rfl (ce  rfl eJ ?_)
    refine aa rfl (ah  rfl ?_)
    refine ak rfl (a8 (k := 0)  rfl rfl ax hS rfl rfl rfl (Nat.le_of_ble_eq_true rfl) rfl ?_)
    intro wz7 hS
    refine aa rfl (am  rfl ?_)
    refine ai ?_
    repeat (with_reducible first | apply ag | apply ac | apply af | apply ae | apply ab)
    refine aE ?_
    repeat (with_reducible first | apply ap | apply ao)
    refine eg (k := 0) rfl rfl rfl ax hS rfl rfl ?_
    exact ⟨rfl, hS.below⟩
end Go.Proofs.YtmghobajmhdbfaaGreatDoor
namespace Go.Proofs.YtmghobajmhdbfaaGreatDoor
open Go Go.RowKit Go.Sx
theorem grow_out {X : List It} {owed : List RR} {c : Nat} {s : GS} {i k : Nat} (h : k ≠ c) : (grow X owed c s i).out k = s.out k := by
  induction i with
  | zero => rfl
  | succ i ih =>
    show (gst X owed (grow X owed c s i) c i).out k = _
    unfold gst
    split
    · show (if k = c then _ else _) = _
      rw [if_neg h, ih]
    · exact ih
theorem gall_zero {X : List It} {owed : List RR} {c k : Nat} (h : c ≤ k) : (gall X owed c).out k = 0 := by
  induction c with
  | zero => rfl
  | succ c ih =>
    show (grow X owed c (gall X owed c) X.length).out k = 0
    rw [grow_out (by omega)]
    exact ih (by omega)
def gP (X : List It) (owed : List RR) (c : Nat) : List RR := tab c fun k => ofQ ((gall X owed c).out k)
theorem gP_succ (X : List It) (owed : List RR) (c : Nat) : gP X owed (c + 1) = gP X owed c ++ [ofQ ((gall X owed (c + 1)).out c)] := by
  unfold gP
  rw [tab_succ, bs (f := fun k => ofQ ((gall X owed (c + 1)).out k)) (g := fun k => ofQ ((gall X owed c).out k)) fun i hi => ?_]
  show ofQ ((grow X owed c (gall X owed c) X.length).out i) = _
  rw [grow_out (by omega)]
theorem permEnd (A B C : List Blk) : (A ++ B ++ C).Perm (A ++ C ++ B) := by
  rw [List.append_assoc, List.append_assoc]
  exact List.Perm.append_left _ List.perm_append_comm
theorem gst_outc {X : List It} {owed : List RR} {s : GS} {c i : Nat} (h : cD (X.getD i zIt) c = true) : (gst X owed s c i).out c = s.out c + pay owed s c i := by
  unfold gst
  rw [if_pos h]
  exact if_pos rfl
set_option maxHeartbeats 2000000 in
theorem rGreedy_ok (vi_ vo : Value) (X : List It) (cvs : List Value) (owed : List RR) (K : Nat) (w : World) (hX : Its w vi_ X cvs) (ho : Sl aC 3 w vo owed) (hXB : ItB K X) (hoB : RB K owed) (hK : 100 * K + 100 ≤ MX) :
    Ret Tryz.prog 21 #[vi_, vo] w fun v w' => (∃ vt, v = .tuple #[vt, .int .i64 (bS X owed)] ∧ Sl aC 3 w' vt (gL X owed)) ∧ Below w.heap.size w w' := by
  have hM : MX = 1099511627776 := rfl
  have hom := ho.maxLen
  have hzl := hX.zlen
  have hS := St.init w
  obtain ⟨m, hm⟩ : ∃ m, m = owed.length := ⟨_, rfl⟩
  obtain ⟨n, hn⟩ : ∃ n, n = X.length := ⟨_, rfl⟩
  refine enter Tryz.func21 rfl Tryz.ntmps21 rfl ?_
  repeat (with_reducible first | apply ag | apply ac | apply af | apply ae | apply ab)
  refine aj ?_
  refine aa rfl (am  rfl ?_)
  refine aa rfl (am  rfl ?_)
  refine ai ?_
  repeat (with_reducible first | apply ag | apply ac | apply af | apply ae | apply ab)
  refine aj ?_
  refine aa rfl (ah  rfl ?_)
  refine aa rfl (ah  rfl ?_)
  refine ak rfl (av Tryz.call44 rfl (rCheck_ok vi_ vo X cvs owed _ (hX.below hS.below) (ho.below hS.below) (fa hXB (by omega)) (fY hoB (by omega))) ?_)
  rintro _ wc1 ⟨rfl, hBc1⟩
  replace hS := hS.grow hBc1
  refine aa rfl (am  rfl ?_)
  refine ai ?_
  repeat (with_reducible first | apply ag | apply ac | apply af | apply ae | apply ab)
  obtain ⟨e, he⟩ : ∃ e, e = bS X owed := ⟨_, rfl⟩
  rw [← he]
  repeat (with_reducible first | apply ag | apply ac | apply af | apply ae | apply ab)
  refine aj ?_
  refine aa rfl (ah  rfl ?_)
  refine aa rfl (e9  rfl rfl ?_)
  refine ai ?_
  repeat (with_reducible first | apply ag | apply ac | apply af | apply ae | apply ab)
  by_cases h0 : e = 0
  · refine aN rfl (decide_eq_false (by omega)) ?_
    repeat (with_reducible first | apply ag | apply ac | apply af | apply ae | apply ab)
    have hck := he.symm.trans h0
    obtain ⟨hX8, ho24, hng, hit, hcl⟩ := dm hck
    repeat (with_reducible first | apply ag | apply ac | apply af | apply ae | apply ab)
    refine aj ?_
    refine aa rfl (am  rfl ?_)
    refine ai ?_
    repeat (with_reducible first | apply ag | apply ac | apply af | apply ae | apply ab)
    refine aj ?_
    refine aa rfl (am  rfl ?_)
    refine ai ?_
    repeat (with_reducible first | apply ag | apply af | apply ae | apply ab)
    refine a9 (fun ρ w' => ρ 0 = vi_ ∧ ρ 1 = vo ∧ ∃ sL LL, ρ 7 = sL ∧ Gl aC 36 3 sL (bV X) LL ∧ St w w' ([] ++ LL)) ?_ ?_
    · repeat (with_reducible first | apply ag | apply ac | apply af | apply ae | apply ab)
      refine a5 (σ := Nat) (fun i ρ w' => i ≤ n ∧ ρ 0 = vi_ ∧ ρ 1 = vo ∧ ρ 8 = .int .i64 i ∧ ∃ sL LL, ρ 7 = sL ∧ Gl aC 36 3 sL (bV (X.take i)) LL ∧ St w w' ([] ++ LL)) (fun i => n - i) 0
        ⟨Nat.zero_le _, rfl, rfl, rfl, ⟨_, [], rfl, Gl.nil _ _ _, hS⟩⟩ ?_
      clear hS
      rintro i ρ w3 ⟨hi, h0', h1, h8, sL, LL, h7, hG, hS⟩
      repeat (with_reducible first | apply ag | apply ac | apply af | apply ae | apply ab)
      refine aj ?_
      refine aa rfl (ah  h8 ?_)
      refine aa rfl (ah  h0' ?_)
      refine aa rfl (aG  rfl (hX.sl.below hS.below) ⟨_, Tryz.underlying26⟩ ?_)
      refine aa rfl (aV  rfl rfl ?_)
      refine ai ?_
      repeat (with_reducible first | apply ag | apply ac | apply af | apply ae | apply ab)
      by_cases hli : i < n
      · refine aD rfl (decide_eq_true (by omega)) ?_
        repeat (with_reducible first | apply ag | apply ac | apply af | apply ae | apply ab)
        have hiX : i < X.length := by omega
        obtain ⟨ca, ccap, hzg, hch⟩ := gV hX hiX
        have hxB := hXB _ (cb X i zIt hiX)
        have hpl : (bV (X.take i)).length = i := by rw [fD, List.length_take]; omega
        repeat (with_reducible first | apply ag | apply ac | apply af | apply ae | apply ab)
        refine aj ?_
        refine aa rfl (ah  h7 ?_)
        refine aa rfl (ah  h0' ?_)
        refine aa rfl (ah  h8 ?_)
        refine aa rfl (aX (i := i)  rfl rfl (hX.sl.below hS.below) (by omega) (by first | omega | (simp; done) | (simp; omega)) g8 ?_)
        refine aw rfl (a6 (v := fq (X.getD i zIt) (.slice ca (X.getD i zIt).charges.length ccap)) (i := i) (zIt, undef)  rfl eD (hX.sl.below hS.below) (by omega) rfl (by rw [hzg]; rfl) (.inl rfl) ?_)
        refine ak rfl (av Tryz.call48 rfl (rProceeds_ok (X.getD i zIt) ca (X.getD i zIt).charges.length ccap _ (by have := hxB.1; have := hxB.2.1; omega)) ?_)
        rintro r w4 ⟨rfl, hB4⟩
        replace hS := hS.grow hB4
        refine ak rfl (dJ (vs := [bE (ofQ (d7 (X.getD i zIt)))])  rfl bH rfl (by decide) (by decide) (by decide) (by simp [Value.cells, bE]) rfl hS ?_)
        intro bx wz2 hS hBz2
        refine ak rfl (eH [ofQ (d7 (X.getD i zIt))]  rfl rfl bH (by decide) hG hS rfl rfl bg (fB [ofQ (d7 (X.getD i zIt))]) (by first | omega | (simp only [List.length_cons, List.length_nil]; omega)) (by first | omega | (simp only [List.length_cons, List.length_nil]; omega)) ?_)
        intro va3 La3 wa3 hG hS hga3
        refine aa rfl (am  rfl ?_)
        refine ai ?_
        repeat (with_reducible first | apply ag | apply ac | apply af | apply ae | apply ab)
        rw [← procs_take X hiX] at hG
        repeat (with_reducible first | apply ag | apply ac | apply af | apply ae | apply ab)
        refine aj ?_
        refine aa rfl (ah  h8 ?_)
        refine aa rfl (aK  rfl rfl (IntWalk.i64_in _ (by omega)) ?_)
        refine aa rfl (am  rfl ?_)
        refine ai ?_
        repeat (with_reducible first | apply ag | apply ac | apply af | apply ae | apply ab)
        exact ⟨i + 1, _, rfl, ⟨hli, h0', h1, vi rfl (by omega), ⟨_, _, rfl, hG, hS⟩⟩, by omega⟩
      · refine aN rfl (decide_eq_false (by omega)) ?_
        repeat (with_reducible first | apply ag | apply ac | apply af | apply ae | apply ab)
        refine aU ?_
        repeat (with_reducible first | apply aA | apply az | refine ay rfl ?_)
        repeat (with_reducible first | apply ag | apply ac | apply af | apply ae | apply ab)
        obtain rfl : i = n := by omega
        rw [hn, List.take_length] at hG
        exact ⟨_, rfl, h0', h1, ⟨_, _, h7, hG, hS⟩⟩
    clear hS
    rintro ρ w3 ⟨h0', h1, sL, LL, h7, hG, hS⟩
    rw [procs_tab] at hG
    repeat (with_reducible first | apply ag | apply ac | apply af | apply ae | apply ab)
    refine aj ?_
    refine aa rfl (am  rfl ?_)
    refine ai ?_
    repeat (with_reducible first | apply ag | apply ac | apply af | apply ae | apply ab)
    refine aj ?_
    refine aa rfl (am  rfl ?_)
    refine ai ?_
    repeat (with_reducible first | apply ag | apply ac | apply af | apply ae | apply ab)
    refine a5 (σ := Nat) (fun c ρ w' => c ≤ m ∧ ρ 0 = vi_ ∧ ρ 1 = vo ∧ ρ 7 = sL ∧ ρ 10 = .int .i64 c ∧ ∃ sO LO LL, ρ 9 = sO ∧ Gl aC 36 3 sO (gP X owed c) LO ∧ Gl aC 36 3 sL (tab X.length fun k => ofQ ((gall X owed c).p k)) LL ∧ St w w' (LO ++ LL)) (fun c => m - c) 0
      ⟨Nat.zero_le _, h0', h1, h7, rfl, ⟨_, [], LL, rfl, Gl.nil _ _ _, hG, hS⟩⟩ ?_
    clear hS hG h0' h1 h7
    rintro c ρ w4 ⟨hc, h0', h1, h7, h10, sO, LO, LL, h9, hO, hG, hS⟩
    repeat (with_reducible first | apply ag | apply ac | apply af | apply ae | apply ab)
    refine aj ?_
    refine aa rfl (ah  h10 ?_)
    refine aa rfl (ah  h1 ?_)
    refine aa rfl (aG  rfl (ho.below hS.below) ⟨_, Tryz.underlying24⟩ ?_)
    refine aa rfl (aV  rfl rfl ?_)
    refine ai ?_
    repeat (with_reducible first | apply ag | apply ac | apply af | apply ae | apply ab)
    by_cases hlt : c < m
    · refine aD rfl (decide_eq_true (by omega)) ?_
      repeat (with_reducible first | apply ag | apply ac | apply af | apply ae | apply ab)
      have hcl2 : c < owed.length := by omega
      have hoc := hoB _ (cb owed c zRR hcl2)
      repeat (with_reducible first | apply ag | apply ac | apply af | apply ae | apply ab)
      refine aj ?_
      refine aa rfl (ah  h1 ?_)
      refine aa rfl (ah  h10 ?_)
      refine aa rfl (aX (i := c)  rfl rfl (ho.below hS.below) (by omega) (by first | omega | (simp; done) | (simp; omega)) bH ?_)
      refine aw rfl (a6 (i := c) zRR  rfl ax (ho.below hS.below) (by first | omega | (simp; done) | (simp; omega)) rfl rfl (.inl rfl) ?_)
      refine ak rfl (av Tryz.call49 rfl (iE (owed.getD c zRR) _ (by omega)) ?_)
      rintro r w5 ⟨rfl, hB5⟩
      replace hS := hS.grow hB5
      refine ak rfl (aZ  ax hS ?_)
      intro b11 wz4 hS hBz4
      refine ak rfl (a8 (k := 0)  rfl rfl ax hS rfl rfl rfl (Nat.le_of_ble_eq_true rfl) rfl ?_)
      intro wz5 hS
      refine ai ?_
      repeat (with_reducible first | apply ag | apply ac | apply af | apply ae | apply ab)
      refine aj ?_
      refine aa rfl (ce  rfl eJ ?_)
      refine ak rfl (aZ  ax hS ?_)
      intro b12 wz6 hS hBz6
      refine ak rfl (a8 (k := 0)  rfl rfl ax hS rfl rfl rfl (Nat.le_of_ble_eq_true rfl) rfl ?_)
      intro wz7 hS
      refine ai ?_
      repeat (with_reducible first | apply ag | apply ac | apply af | apply ae | apply ab)
      replace hS : St w _ ([(b12, 36, aC zRR), (b11, 36, aC (ofQ (owF owed c)))] ++ LO ++ LL) := hS
      repeat (with_reducible first | apply ag | apply ac | apply af | apply ae | apply ab)
      refine aj ?_
      refine aa rfl (am  rfl ?_)
      refine ai ?_
      repeat (with_reducible first | apply ag | apply af | apply ae | apply ab)
      refine a9 (fun ρ w' => ρ 0 = vi_ ∧ ρ 1 = vo ∧ ρ 7 = sL ∧ ρ 10 = .int .i64 c ∧ ρ 9 = sO ∧ ρ 12 = .pointer (some ⟨b12, 0, none⟩) ∧ ∃ LL, Gl aC 36 3 sL (tab X.length fun k => ofQ ((gall X owed (c + 1)).p k)) LL ∧
          St w w' ([(b12, 36, aC (ofQ ((gall X owed (c + 1)).out c))), (b11, 36, aC (ofQ (owF owed c)))] ++ LO ++ LL)) ?_ ?_
      · repeat (with_reducible first | apply ag | apply ac | apply af | apply ae | apply ab)
        refine a5 (σ := Nat) (fun i ρ w' => i ≤ n ∧ ρ 0 = vi_ ∧ ρ 1 = vo ∧ ρ 7 = sL ∧ ρ 10 = .int .i64 c ∧ ρ 9 = sO ∧ ρ 11 = .pointer (some ⟨b11, 0, none⟩) ∧ ρ 12 = .pointer (some ⟨b12, 0, none⟩) ∧ ρ 13 = .int .i64 i ∧
            ∃ s LL, s = grow X owed c (gall X owed c) i ∧ Gl aC 36 3 sL (tab X.length fun k => ofQ (s.p k)) LL ∧
            St w w' ([(b12, 36, aC (ofQ (s.out c))), (b11, 36, aC (ofQ (owF owed c)))] ++ LO ++ LL)) (fun i => n - i) 0
          ⟨Nat.zero_le _, h0', h1, h7, h10, h9, rfl, rfl, rfl, ⟨_, LL, rfl, hG, by rw [show (grow X owed c (gall X owed c) 0).out c = 0 from gall_zero (Nat.le_refl _), cI]; exact hS⟩⟩ ?_
        clear hS hG h0' h1 h7 h10 h9
        rintro i ρ w6 ⟨hi, h0', h1, h7, h10, h9, h11, h12, h13, s, LL, hs, hG, hS⟩
        have htn := bp X.length fun k => ofQ (s.p k)
        repeat (with_reducible first | apply ag | apply ac | apply af | apply ae | apply ab)
        refine aj ?_
        refine aa rfl (ah  h13 ?_)
        refine aa rfl (ah  h0' ?_)
        refine aa rfl (aG  rfl (hX.sl.below hS.below) ⟨_, Tryz.underlying26⟩ ?_)
        refine aa rfl (aV  rfl rfl ?_)
        refine ai ?_
        repeat (with_reducible first | apply ag | apply ac | apply af | apply ae | apply ab)
        by_cases hli : i < n
        · refine aD rfl (decide_eq_true (by omega)) ?_
          repeat (with_reducible first | apply ag | apply ac | apply af | apply ae | apply ab)
          have hiX : i < X.length := by omega
          obtain ⟨ca, ccap, hzg, hch⟩ := gV hX hiX
          have htax : tax X.length owed s ≤ 40 * K + 40 := by rw [hs]; exact Nat.le_trans (tax_grow hcl2 (by omega)) (tax_gall hXB hoB hX8 ho24 (by omega))
          obtain ⟨hb1, hb2⟩ := tax_L hoB htax
          repeat (with_reducible first | apply ag | apply ac | apply af | apply ae | apply ab)
          refine aj ?_
          refine aa rfl (ah  h0' ?_)
          refine aa rfl (ah  h13 ?_)
          refine aa rfl (aX (i := i)  rfl rfl (hX.sl.below hS.below) (by omega) (by first | omega | (simp; done) | (simp; omega)) g8 ?_)
          refine aw rfl (a6 (v := fq (X.getD i zIt) (.slice ca (X.getD i zIt).charges.length ccap)) (i := i) (zIt, undef)  rfl eD (hX.sl.below hS.below) (by omega) rfl (by rw [hzg]; rfl) (.inl rfl) ?_)
          refine aa rfl (ah  h10 ?_)
          refine ak rfl (av Tryz.call13 rfl (Secures_ok (X.getD i zIt) _ c _ (hch.below hS.below)) ?_)
          rintro r w7 ⟨rfl, hB7⟩
          replace hS := hS.grow hB7
          refine aa rfl (dX  rfl ?_)
          refine ai ?_
          repeat (with_reducible first | apply ag | apply ac | apply af | apply ae | apply ab)
          by_cases hsec : cD (X.getD i zIt) c = true
          · refine aN rfl ((by rw [hsec]; rfl)) ?_
            repeat (with_reducible first | apply ag | apply ac | apply af | apply ae | apply ab)
            have hgp : (tab X.length fun k => ofQ (s.p k)).getD i zRR = ofQ (s.p i) := cE _ _ hiX
            have hLo := hb1 c hcl2
            have hLp := hb2 i hiX
            have hLw := ix hoB hcl2
            have hLx := jg (d3 owed s c) (s.p i)
            have hpay : dK (s.p i) (owF owed c - s.out c) = pay owed s c i := minQ_comm _ _
            have hLx2 : L (pay owed s c i) ≤ max (L (d3 owed s c)) (L (s.p i)) := hLx
            have hde : L (owF owed c - s.out c) = L (d3 owed s c) := rfl
            refine a9 (fun ρ w' => ρ 0 = vi_ ∧ ρ 1 = vo ∧ ρ 7 = sL ∧ ρ 10 = .int .i64 c ∧ ρ 9 = sO ∧ ρ 11 = .pointer (some ⟨b11, 0, none⟩) ∧ ρ 12 = .pointer (some ⟨b12, 0, none⟩) ∧ ρ 13 = .int .i64 i ∧ ∃ b14, ρ 14 = .pointer (some ⟨b14, 0, none⟩) ∧
              St w w' ([(b14, 36, aC (ofQ (pay owed s c i))), (b12, 36, aC (ofQ (s.out c))), (b11, 36, aC (ofQ (owF owed c)))] ++ LO ++ LL)) ?_ ?_
            · repeat (with_reducible first | apply ag | apply ac | apply af | apply ae | apply ab)
              refine c_float 8 [(0, .pure), (1, .pure), (2, .pure), (3, .read), (4, .read), (5, .read), (6, .grow), (7, .grow), (9, .free)] (by kernel_rfl) (by kernel_rfl) hS ?_
              intro wz8 hS hBz8
              refine cV (by kernel_rfl) rfl rfl (ah  h7 ?_)
              refine cV (by kernel_rfl) rfl rfl (ah  h13 ?_)
              refine cV (by kernel_rfl) rfl rfl (aX (i := i)  rfl rfl (hG.sl hS bg) (by omega) (by first | omega | (simp; done) | (simp; omega)) bH ?_)
              refine dO (by kernel_rfl) rfl rfl (a6 (i := i) zRR  rfl ax (hG.sl hS bg) (by first | omega | (simp; done) | (simp; omega)) rfl rfl (.inl rfl) ?_)
              refine dO (by kernel_rfl) rfl rfl (aB (k := 1)  h11 ax hS rfl rfl rfl (.inl rfl) ?_)
              refine dO (by kernel_rfl) rfl rfl (aB (k := 0)  h12 ax hS rfl rfl rfl (.inl rfl) ?_)
              refine hJ rfl rfl ?_ ?_
              · refine aS rfl rfl (aZ  ax hS ?_)
                intro b14 wz9 hS hBz9
                refine ⟨hBz9, ?_⟩
                refine aS rfl rfl (av Tryz.call46 rfl (e6 (owF owed c) (s.out c) _ (by omega)) ?_)
                rintro r w8 ⟨rfl, hB8⟩
                refine ⟨hB8, ?_⟩
                replace hS := hS.grow hB8
                rw [hgp]
                refine aS rfl rfl (av Tryz.call50 rfl (rLesser_ok (s.p i) (owF owed c - s.out c) _ (by omega)) ?_)
                rintro r w9 ⟨rfl, hB9⟩
                refine ⟨hB9, ?_⟩
                replace hS := hS.grow hB9
                rw [hpay]
                refine bJ rfl rfl (a8 (k := 0)  rfl rfl ax hS rfl rfl rfl (Nat.le_of_ble_eq_true rfl) rfl ?_)
                intro wz10 hS
                refine bC ?_
                repeat (with_reducible first | apply ag | apply ac | apply af | apply ae | apply ab)
                replace hS : St w _ ([(b14, 36, aC (ofQ (pay owed s c i))), (b12, 36, aC (ofQ (s.out c))), (b11, 36, aC (ofQ (owF owed c)))] ++ LO ++ LL) := hS
                exact ⟨_, rfl, h0', h1, h7, h10, h9, h11, h12, h13, b14, rfl, hS⟩
              · refine av Tryz.call46 rfl (e6 (owF owed c) (s.out c) _ (by omega)) ?_
                rintro r w8 ⟨rfl, hB8⟩
                refine ⟨hB8, ?_⟩
                replace hS := hS.grow hB8
                rw [hgp]
                refine hJ rfl rfl ?_ ?_
                · refine aS rfl rfl (aZ  ax hS ?_)
                  intro b14 wz11 hS hBz11
                  refine ⟨hBz11, ?_⟩
                  refine aS rfl rfl (av Tryz.call50 rfl (rLesser_ok (s.p i) (owF owed c - s.out c) _ (by omega)) ?_)
                  rintro r w9 ⟨rfl, hB9⟩
                  refine ⟨hB9, ?_⟩
                  replace hS := hS.grow hB9
                  rw [hpay]
                  refine bJ rfl rfl (a8 (k := 0)  rfl rfl ax hS rfl rfl rfl (Nat.le_of_ble_eq_true rfl) rfl ?_)
                  intro wz12 hS
                  refine bC ?_
                  repeat (with_reducible first | apply ag | apply ac | apply af | apply ae | apply ab)
                  replace hS : St w _ ([(b14, 36, aC (ofQ (pay owed s c i))), (b12, 36, aC (ofQ (s.out c))), (b11, 36, aC (ofQ (owF owed c)))] ++ LO ++ LL) := hS
                  exact ⟨_, rfl, h0', h1, h7, h10, h9, h11, h12, h13, b14, rfl, hS⟩
                · refine av Tryz.call50 rfl (rLesser_ok (s.p i) (owF owed c - s.out c) _ (by omega)) ?_
                  rintro r w9 ⟨rfl, hB9⟩
                  refine ⟨hB9, ?_⟩
                  replace hS := hS.grow hB9
                  rw [hpay]
                  refine wx_now (by kernel_rfl) ?_
                  refine aS rfl rfl (aZ  ax hS ?_)
                  intro b14 wz13 hS hBz13
                  refine ⟨hBz13, ?_⟩
                  refine bJ rfl rfl (a8 (k := 0)  rfl rfl ax hS rfl rfl rfl (Nat.le_of_ble_eq_true rfl) rfl ?_)
                  intro wz14 hS
                  refine bC ?_
                  repeat (with_reducible first | apply ag | apply ac | apply af | apply ae | apply ab)
                  replace hS : St w _ ([(b14, 36, aC (ofQ (pay owed s c i))), (b12, 36, aC (ofQ (s.out c))), (b11, 36, aC (ofQ (owF owed c)))] ++ LO ++ LL) := hS
                  exact ⟨_, rfl, h0', h1, h7, h10, h9, h11, h12, h13, b14, rfl, hS⟩
            clear hS h0' h1 h7 h10 h9 h11 h12 h13
            rintro ρ w7 ⟨h0', h1, h7, h10, h9, h11, h12, h13, b14, h14, hS⟩
            repeat (with_reducible first | apply ag | apply ac | apply af | apply ae | apply ab)
            refine aj ?_
            refine aw rfl (aB (k := 1)  h12 ax hS rfl rfl rfl (.inl rfl) ?_)
            refine aw rfl (aB (k := 0)  h14 ax hS rfl rfl rfl (.inl rfl) ?_)
            refine ak rfl (av Tryz.call51 rfl (iv (s.out c) (pay owed s c i) _ (by omega)) ?_)
            rintro r w8 ⟨rfl, hB8⟩
            replace hS := hS.grow hB8
            refine ak rfl (a8 (k := 1)  h12 rfl ax hS rfl rfl rfl (Nat.le_of_ble_eq_true rfl) rfl ?_)
            intro wz15 hS
            refine ai ?_
            repeat (with_reducible first | apply ag | apply ac | apply af | apply ae | apply ab)
            replace hS : St w _ ([(b14, 36, aC (ofQ (pay owed s c i))), (b12, 36, aC (ofQ (s.out c + pay owed s c i))), (b11, 36, aC (ofQ (owF owed c)))] ++ LO ++ LL) := hS
            rw [← gst_outc hsec] at hS
            repeat (with_reducible first | apply ag | apply ac | apply af | apply ae | apply ab)
            refine bm [(0, .pure), (1, .pure), (2, .pure), (3, .pure), (4, .pure), (5, .read), (6, .read), (7, .grow), (8, .pure), (9, .free)] (by kernel_rfl) (by kernel_rfl) hS ?_
            intro wz16 hS hBz16
            refine al rfl rfl (ah  h7 ?_)
            refine al rfl rfl (ah  h13 ?_)
            refine al rfl rfl (ah  h7 ?_)
            refine al rfl rfl (ah  h13 ?_)
            refine al rfl rfl (aX (i := i)  rfl rfl (hG.sl hS bg) (by omega) (by first | omega | (simp; done) | (simp; omega)) bH ?_)
            refine aF rfl rfl (a6 (i := i) zRR  rfl ax (hG.sl hS bg) (by first | omega | (simp; done) | (simp; omega)) rfl rfl (.inl rfl) ?_)
            refine aF rfl rfl (aB (k := 0)  h14 ax hS rfl rfl rfl (.inl rfl) ?_)
            rw [hgp]
            refine aS rfl rfl (av Tryz.call46 rfl (e6 (s.p i) (pay owed s c i) _ (by omega)) ?_)
            rintro r w9 ⟨rfl, hB9⟩
            refine ⟨hB9, ?_⟩
            replace hS := hS.grow hB9
            refine al rfl rfl (aX (i := i)  rfl rfl (hG.sl hS bg) (by omega) (by first | omega | (simp; done) | (simp; omega)) bH ?_)
            refine bJ rfl rfl (s_stG (i := i) (ofQ (s.p i - pay owed s c i)) bg  rfl rfl ax hG hS (by omega) rfl rfl ?_)
            intro wz17 hS
            refine bC ?_
            repeat (with_reducible first | apply ag | apply ac | apply af | apply ae | apply ab)
            obtain ⟨LL2, hG, hS⟩ := hS
            rw [gst_p hsec] at hG
            repeat (with_reducible first | apply ag | apply ac | apply af | apply ae | apply ab)
            refine aj ?_
            refine aa rfl (ah  h13 ?_)
            refine aa rfl (aK  rfl rfl (IntWalk.i64_in _ (by omega)) ?_)
            refine aa rfl (am  rfl ?_)
            refine ai ?_
            repeat (with_reducible first | apply ag | apply ac | apply af | apply ae | apply ab)
            have hg : grow X owed c (gall X owed c) (i + 1) = gst X owed s c i := by
              show gst X owed (grow X owed c (gall X owed c) i) c i = _
              rw [← hs]
            exact ⟨i + 1, _, rfl, ⟨hli, h0', h1, h7, h10, h9, h11, h12, vi rfl (by omega), ⟨_, LL2, hg.symm, hG, hS.drop (List.sublist_cons_self _ _)⟩⟩, by omega⟩
          · have hse : cD (X.getD i zIt) c = false := Bool.eq_false_iff.2 hsec
            refine aD rfl ((by rw [hse]; rfl)) ?_
            repeat (with_reducible first | apply ag | apply ac | apply af | apply ae | apply ab)
            refine aU ?_
            repeat (with_reducible first | apply aA | apply az | refine ay rfl ?_)
            repeat (with_reducible first | apply ag | apply ac | apply af | apply ae | apply ab)
            refine aj ?_
            refine aa rfl (ah  h13 ?_)
            refine aa rfl (aK  rfl rfl (IntWalk.i64_in _ (by omega)) ?_)
            refine aa rfl (am  rfl ?_)
            refine ai ?_
            repeat (with_reducible first | apply ag | apply ac | apply af | apply ae | apply ab)
            have hg : grow X owed c (gall X owed c) (i + 1) = s := by
              show gst X owed (grow X owed c (gall X owed c) i) c i = s
              rw [← hs]; exact gst_no hse
            exact ⟨i + 1, _, rfl, ⟨hli, h0', h1, h7, h10, h9, h11, h12, vi rfl (by omega), ⟨s, LL, hg.symm, hG, hS⟩⟩, by omega⟩
        · refine aN rfl (decide_eq_false (by omega)) ?_
          repeat (with_reducible first | apply ag | apply ac | apply af | apply ae | apply ab)
          refine aU ?_
          repeat (with_reducible first | apply aA | apply az | refine ay rfl ?_)
          repeat (with_reducible first | apply ag | apply ac | apply af | apply ae | apply ab)
          obtain rfl : i = n := by omega
          have hg : gall X owed (c + 1) = s := by
            show grow X owed c (gall X owed c) X.length = s
            rw [hs, ← hn]
          rw [← hg] at hG hS
          exact ⟨_, rfl, h0', h1, h7, h10, h9, h12, ⟨LL, hG, hS⟩⟩
      clear hS hG h0' h1 h7 h10 h9
      rintro ρ w6 ⟨h0', h1, h7, h10, h9, h12, LL, hG, hS⟩
      replace hS := hS.perm (permEnd _ _ _)
      have hpl : (gP X owed c).length = c := bp _ _
      repeat (with_reducible first | apply ag | apply ac | apply af | apply ae | apply ab)
      refine aj ?_
      refine aa rfl (ah  h9 ?_)
      refine aw rfl (aB (k := 0)  h12 ax hS rfl rfl rfl (.inl rfl) ?_)
      refine ak rfl (dJ (vs := [bE (ofQ ((gall X owed (c + 1)).out c))])  rfl bH rfl (by decide) (by decide) (by decide) (by simp [Value.cells, bE]) rfl hS ?_)
      intro bx wz18 hS hBz18
      refine ak rfl (eH [ofQ ((gall X owed (c + 1)).out c)]  rfl rfl bH (by decide) hO hS rfl rfl bg (fB [ofQ ((gall X owed (c + 1)).out c)]) (by first | omega | (simp only [List.length_cons, List.length_nil]; omega)) (by first | omega | (simp only [List.length_cons, List.length_nil]; omega)) ?_)
      intro va19 La19 wa19 hO hS hga19
      refine aa rfl (am  rfl ?_)
      refine ai ?_
      repeat (with_reducible first | apply ag | apply ac | apply af | apply ae | apply ab)
      rw [← gP_succ] at hO
      repeat (with_reducible first | apply ag | apply ac | apply af | apply ae | apply ab)
      refine aj ?_
      refine aa rfl (ah  h10 ?_)
      refine aa rfl (aK  rfl rfl (IntWalk.i64_in _ (by omega)) ?_)
      refine aa rfl (am  rfl ?_)
      refine ai ?_
      repeat (with_reducible first | apply ag | apply ac | apply af | apply ae | apply ab)
      exact ⟨c + 1, _, rfl, ⟨hlt, h0', h1, h7, vi rfl (by omega), ⟨_, _, LL, rfl, hO, hG, (hS.drop (H' := LL ++ _) (.cons _ (.cons _ (List.Sublist.refl _)))).perm List.perm_append_comm⟩⟩, by omega⟩
    · refine aN rfl (decide_eq_false (by omega)) ?_
      repeat (with_reducible first | apply ag | apply ac | apply af | apply ae | apply ab)
      refine aU ?_
      repeat (with_reducible first | apply aA | apply az | refine ay rfl ?_)
      repeat (with_reducible first | apply ag | apply ac | apply af | apply ae | apply ab)
      obtain rfl : c = m := by omega
      repeat (with_reducible first | apply ag | apply ac | apply af | apply ae | apply ab)
      refine aj ?_
      refine aa rfl (ah  h9 ?_)
      refine aa rfl (am  rfl ?_)
      refine aa rfl (am  rfl ?_)
      refine ai ?_
      repeat (with_reducible first | apply ag | apply ac | apply af | apply ae | apply ab)
      refine aE ?_
      repeat (with_reducible first | apply ap | apply ao)
      refine dw rfl rfl rfl ?_
      refine ⟨⟨_, by rw [h0]; rfl, ?_⟩, hS.below⟩
      have ht : gL X owed = gP X owed c := by rw [hm]; exact if_pos hck
      rw [ht]
      exact hO.sl (H := LL) (hS.perm List.perm_append_comm) bg
  · refine aD rfl (decide_eq_true (by omega)) ?_
    repeat (with_reducible first | apply ag | apply ac | apply af | apply ae | apply ab)
    refine aj ?_
    refine aa rfl (ah  rfl ?_)
    refine aa rfl (am  rfl ?_)
    refine aa rfl (am  rfl ?_)
    refine ai ?_
    repeat (with_reducible first | apply ag | apply ac | apply af | apply ae | apply ab)
    refine aE ?_
    repeat (with_reducible first | apply ap | apply ao)
    refine dw rfl rfl rfl ?_
    refine ⟨⟨_, rfl, ?_⟩, hS.below⟩
    have ht : gL X owed = [] := if_neg fun g => h0 (he.trans g)
    rw [ht]
    exact Sl.nil _ _ _
end Go.Proofs.YtmghobajmhdbfaaGreatDoor
namespace Go.Proofs.YtmghobajmhdbfaaGreatDoor
open Go Go.RowKit Go.Sx
theorem L_small {n : Nat} (h : n < 256) : L ((n : Int) : Rat) ≤ 1 := by
  unfold L
  have h1 : (aT n).size ≤ 1 := dF (by omega)
  have h2 : (aT 1).size ≤ 1 := dF (by omega)
  exact Nat.max_le.2 ⟨h1, h2⟩
end Go.Proofs.YtmghobajmhdbfaaGreatDoor
namespace Go.Proofs.YtmghobajmhdbfaaGreatDoor
open Go Go.RowKit Go.Sx
theorem enI_len : ∀ x, (enI x).length = 1 := fun _ => rfl
end Go.Proofs.YtmghobajmhdbfaaGreatDoor
namespace Go.Proofs.YtmghobajmhdbfaaGreatDoor
open Go Go.RowKit Go.Sx
theorem encCh_len : ∀ c, (cS c).length = 6 := fun _ => rfl
theorem encIt_len : ∀ c, (dx c).length = 7 := fun _ => rfl
/-- The items' charges can be read, whatever else comes. -/
def RdC (w0 : World) (LC : List Blk) (cvs : List Value) (X : List It) : Prop := ∀ w' H, St w0 w' (H ++ LC) → ∀ j, j < X.length → Sl cS 6 w' (cvs.getD j undef) (X.getD j zIt).charges
theorem RdC.add {w0 : World} {LC LCh : List Blk} {cvs : List Value} {X : List It} {x : It} {s : Value} {T : TypeId} (h : RdC w0 LC cvs X) (hl : cvs.length = X.length) (hG : Gl cS T 6 s x.charges LCh) : RdC w0 (LC ++ LCh) (cvs ++ [s]) (X ++ [x]) := by
  intro w' H hS j hj
  rw [List.length_append] at hj
  by_cases e : j < X.length
  · have h1 : (cvs ++ [s]).getD j undef = cvs.getD j undef := by rw [List.getD_eq_getElem?_getD, List.getElem?_append_left (by omega), List.getD_eq_getElem?_getD]
    have h2 : (X ++ [x]).getD j zIt = X.getD j zIt := by rw [List.getD_eq_getElem?_getD, List.getElem?_append_left e, List.getD_eq_getElem?_getD]
    rw [h1, h2]
    refine h w' H (hS.drop ?_) j e
    rw [← List.append_assoc]
    exact List.sublist_append_left _ _
  · obtain rfl : j = X.length := by simp only [List.length_cons, List.length_nil] at hj; omega
    have h1 : (cvs ++ [s]).getD X.length undef = s := by rw [List.getD_eq_getElem?_getD, List.getElem?_append_right (by omega), hl, Nat.sub_self]; rfl
    have h2 : (X ++ [x]).getD X.length zIt = x := by rw [List.getD_eq_getElem?_getD, List.getElem?_append_right (Nat.le_refl _), Nat.sub_self]; rfl
    rw [h1, h2]
    exact hG.sl (H := H ++ LC) (by rw [List.append_assoc]; exact hS) encCh_len
end Go.Proofs.YtmghobajmhdbfaaGreatDoor
namespace Go.Proofs.YtmghobajmhdbfaaGreatDoor
open Go Go.RowKit Go.Sx
def q50 : Rat := ((50 : Int) : Rat)
def q00 : Rat := ((0 : Int) : Rat)
def Q50 : RR := ofQ q50
def Q00 : RR := ofQ q00
theorem fQ : toQ Q50 = q50 := toQ_ofQ q50
theorem Lr_Q50 : Lr Q50 = L q50 := Lr_ofQ q50
def c0_ : Ch := ⟨0, 0, false, zRR⟩
def c1_ : Ch := ⟨1, 0, false, zRR⟩
def X2 : List It := [⟨Q50, zRR, [c0_, c1_]⟩, ⟨Q50, zRR, [c0_]⟩]
def O2 : List RR := [Q50, Q50]
def k50 (i : Nat) : Rat := if i < 2 then q50 else 0
def iQ (i c : Nat) : Bool := (decide (i = 0) && decide (c ≤ 1)) || (decide (i = 1) && decide (c = 0))
theorem prF_X2 : prF X2 = k50 := by
  have h1 : d7 ⟨Q50, zRR, [c0_, c1_]⟩ = q50 := by
    unfold d7
    simp only [fQ, fU]
    decide +kernel
  have h2 : d7 ⟨Q50, zRR, [c0_]⟩ = q50 := by
    unfold d7
    simp only [fQ, fU]
    decide +kernel
  have h3 : d7 zIt = 0 := by
    have e : zIt = ⟨zRR, zRR, []⟩ := rfl
    rw [e]
    unfold d7
    simp only [fU]
    decide +kernel
  funext i
  match i with
  | 0 => exact h1
  | 1 => exact h2
  | n + 2 => exact h3
theorem owF_O2 : owF O2 = k50 := by
  funext i
  match i with
  | 0 => exact fQ
  | 1 => exact fQ
  | n + 2 => exact fU
theorem sec_X2 (i c : Nat) : cD (X2.getD i zIt) c = iQ i c := by
  match i with
  | 0 =>
    show ([c0_, c1_].any fun k => decide (k.claim = (c : Int))) = iQ 0 c
    match c with
    | 0 => rfl
    | 1 => rfl
    | c + 2 =>
      have h1 : ¬ c0_.claim = ((c + 2 : Nat) : Int) := by show ¬ (0 : Int) = _; omega
      have h2 : ¬ c1_.claim = ((c + 2 : Nat) : Int) := by show ¬ (1 : Int) = _; omega
      have h3 : iQ 0 (c + 2) = false := by unfold iQ; rw [decide_eq_false (show ¬ c + 2 ≤ 1 by omega), decide_eq_false (show ¬ c + 2 = 0 by omega), Bool.and_false, Bool.and_false]; rfl
      rw [h3, List.any_cons, List.any_cons, decide_eq_false h1, decide_eq_false h2]; rfl
  | 1 =>
    show ([c0_].any fun k => decide (k.claim = (c : Int))) = iQ 1 c
    match c with
    | 0 => rfl
    | c + 1 =>
      have h1 : ¬ c0_.claim = ((c + 1 : Nat) : Int) := by show ¬ (0 : Int) = _; omega
      have h3 : iQ 1 (c + 1) = false := by unfold iQ; rw [decide_eq_false (show ¬ (1 : Nat) = 0 by omega), decide_eq_false (show ¬ c + 1 = 0 by omega), Bool.and_false]; rfl
      rw [h3, List.any_cons, decide_eq_false h1]; rfl
  | i + 2 =>
    show false = _
    simp [iQ]
def capK (k cut : Nat) : Rat := sumIf 2 (fun i => cut.testBit i) k50 + sumIf 2 (fun c => decide (c < k) && ((List.range 2).any fun i => !cut.testBit i && iQ i c)) k50
theorem capF_X2 (k : Nat) : cJ X2 O2 (fun i => decide (i < k)) = capK k := by
  funext cut
  unfold cJ cG capK
  rw [prF_X2, owF_O2]
  simp only [sec_X2]
  rfl
theorem preQ_X2 (k : Nat) (hk : k ≠ 0) : bR X2 O2 k = eq (capK k) 4 := by
  unfold bR dL
  rw [if_neg hk, capF_X2]
  rfl
theorem gU : bS X2 O2 = 0 := by
  have h : ¬ q50 < 0 := by decide +kernel
  have hl1 : ¬ c0_.lim = true := by decide
  have hl2 : ¬ c1_.lim = true := by decide
  have e1 : da 2 c0_ = 0 := by
    unfold da
    rw [if_neg (by show ¬ ((0 : Int) < 0 ∨ (2 : Int) ≤ 0); omega), if_neg (fun g => hl1 g.1)]
  have e2 : da 2 c1_ = 0 := by
    unfold da
    rw [if_neg (by show ¬ ((1 : Int) < 0 ∨ (2 : Int) ≤ 1); omega), if_neg (fun g => hl2 g.1)]
  have i1 : dh 2 ⟨Q50, zRR, [c0_, c1_]⟩ = 0 := by
    unfold dh
    rw [if_neg (by show ¬ 8 < 2; omega), if_neg]
    · simp [co, e1, e2]
    · rw [fQ, fU]
      rintro (g | g)
      · exact h g
      · exact absurd g (by decide +kernel)
  have i2 : dh 2 ⟨Q50, zRR, [c0_]⟩ = 0 := by
    unfold dh
    rw [if_neg (by show ¬ 8 < 1; omega), if_neg]
    · simp [co, e1]
    · rw [fQ, fU]
      rintro (g | g)
      · exact h g
      · exact absurd g (by decide +kernel)
  unfold bS
  rw [if_neg (by show ¬ (8 < 2 ∨ 24 < 2); omega), if_neg]
  · show co (dh 2) X2 = 0
    simp [X2, co, i1, i2]
  · unfold gh O2
    simp [fQ, h]
theorem tot_X2 : jd X2 O2 = [Q50, Q50] := by
  unfold jd
  rw [if_pos gU]
  have h1 : bR X2 O2 1 - bR X2 O2 0 = q50 := by
    rw [preQ_X2 1 (by decide)]
    show eq (capK 1) 4 - 0 = q50
    decide +kernel
  have h2 : bR X2 O2 2 - bR X2 O2 1 = q50 := by
    rw [preQ_X2 1 (by decide), preQ_X2 2 (by decide)]
    decide +kernel
  show [ofQ (bR X2 O2 1 - bR X2 O2 0), ofQ (bR X2 O2 2 - bR X2 O2 1)] = _
  rw [h1, h2]; rfl
def gstZ (s : GS) (c i : Nat) : GS :=
  if iQ i c = true then
    ⟨fun k => if k = c then s.out c + dK (k50 c - s.out c) (s.p i) else s.out k, fun k => if k = i then s.p i - dK (k50 c - s.out c) (s.p i) else s.p k⟩
  else s
theorem gst_X2 (s : GS) (c i : Nat) : gst X2 O2 s c i = gstZ s c i := by
  unfold gst gstZ pay
  rw [sec_X2, owF_O2]
def growZ (c : Nat) (s : GS) : Nat → GS
  | 0 => s
  | i + 1 => gstZ (growZ c s i) c i
theorem grow_X2 (c : Nat) (s : GS) (i : Nat) : grow X2 O2 c s i = growZ c s i := by
  induction i with
  | zero => rfl
  | succ i ih => show gst X2 O2 (grow X2 O2 c s i) c i = _; rw [ih, gst_X2]; rfl
def jt : Nat → GS
  | 0 => ⟨fun _ => 0, k50⟩
  | c + 1 => growZ c (jt c) 2
theorem gall_X2 (c : Nat) : gall X2 O2 c = jt c := by
  induction c with
  | zero => show GS.mk _ (prF X2) = _; rw [prF_X2]; rfl
  | succ c ih => show grow X2 O2 c (gall X2 O2 c) 2 = _; rw [ih, grow_X2]; rfl
theorem gre_X2 : gL X2 O2 = [Q50, Q00] := by
  unfold gL
  rw [if_pos gU]
  show [ofQ ((gall X2 O2 2).out 0), ofQ ((gall X2 O2 2).out 1)] = _
  rw [gall_X2]
  have h1 : (jt 2).out 0 = q50 := by decide +kernel
  have h2 : (jt 2).out 1 = q00 := by decide +kernel
  rw [h1, h2]; rfl
theorem its_B : ItB 1 X2 ∧ RB 1 O2 := by
  have h : L q50 ≤ 1 := L_small (n := 50) (by decide)
  have h2 := Lr_zRR
  constructor
  · intro x hx
    rcases List.mem_cons.1 hx with rfl | hx
    · refine ⟨by show Lr (Q50) ≤ 1; rw [Lr_Q50]; exact h, by show Lr zRR ≤ 1; omega, fun c hc => ?_⟩
      rcases List.mem_cons.1 hc with rfl | hc
      · show Lr zRR ≤ 1; omega
      · rw [List.mem_singleton.1 hc]; show Lr zRR ≤ 1; omega
    · rw [List.mem_singleton.1 hx]
      refine ⟨by show Lr (Q50) ≤ 1; rw [Lr_Q50]; exact h, by show Lr zRR ≤ 1; omega, fun c hc => ?_⟩
      rw [List.mem_singleton.1 hc]; show Lr zRR ≤ 1; omega
  · intro r hr
    have : r = Q50 := by
      rcases List.mem_cons.1 hr with g | g
      · exact g
      · exact List.mem_singleton.1 g
    rw [this, Lr_Q50]; exact h
end Go.Proofs.YtmghobajmhdbfaaGreatDoor
namespace Go.Sx
open Go Go.RowKit
section
variable {P : Program} {ops : Array Oper}
def gM (M : List Nat) : List Edge → Nat
  | [] => 0
  | e :: l => bif Region.binds .any e then (2 ^ e.on ||| M.getD e.on 0) ||| gM M l else gM M l
def gj (i : Nat) : List Edge → Bool
  | [] => true
  | e :: l => (!Region.binds .any e || Nat.blt e.on i) && gj i l
def gt (M : List Nat) : List Oper → Nat → Bool
  | [], _ => true
  | o :: l, i => gj i o.after.toList && Nat.beq (M.getD i 0) (gM M o.after.toList) && gt M l (i + 1)
theorem tdep_succ : ∀ n i h, d9 ops n i h = true → d9 ops (n + 1) i h = true
  | 0, i, h, ht => by cases ht
  | n + 1, i, h, ht => by
    unfold d9 at ht ⊢
    cases ho : ops[i]? with
    | none => rw [ho] at ht; cases ht
    | some o =>
      rw [ho] at ht
      simp only [Array.any_eq_true', Bool.and_eq_true, Bool.or_eq_true] at ht ⊢
      obtain ⟨e, he, hb, h1⟩ := ht
      exact ⟨e, he, hb, h1.imp id (tdep_succ n e.on h)⟩
theorem tdep_mono {n m i h : Nat} (hnm : n ≤ m) (ht : d9 ops n i h = true) : d9 ops m i h = true := by
  induction hnm with
  | refl => exact ht
  | step _ ih => exact tdep_succ _ _ _ ih
theorem maskOr_bit {M : List Nat} {h : Nat} : ∀ {l : List Edge}, (gM M l).testBit h = true → ∃ e ∈ l, Region.binds .any e = true ∧ (e.on = h ∨ (M.getD e.on 0).testBit h = true)
  | [], hb => by simp [gM] at hb
  | e :: l, hb => by
    unfold gM at hb
    cases hbi : Region.binds .any e with
    | false =>
      rw [hbi] at hb
      obtain ⟨e', he', h'⟩ := maskOr_bit hb
      exact ⟨e', List.mem_cons_of_mem _ he', h'⟩
    | true =>
      rw [hbi] at hb
      simp only [cond_true, Nat.testBit_or, Bool.or_eq_true] at hb
      rcases hb with (hb | hb) | hb
      · rw [Nat.testBit_two_pow] at hb
        exact ⟨e, List.mem_cons_self .., hbi, .inl (of_decide_eq_true hb)⟩
      · exact ⟨e, List.mem_cons_self .., hbi, .inr hb⟩
      · obtain ⟨e', he', h'⟩ := maskOr_bit hb
        exact ⟨e', List.mem_cons_of_mem _ he', h'⟩
theorem lowEdges_lt {i : Nat} : ∀ {l : List Edge}, gj i l = true → ∀ e ∈ l, Region.binds .any e = true → e.on < i
  | [], _, e, he, _ => by cases he
  | x :: l, h, e, he, hb => by
    simp only [gj, Bool.and_eq_true, Bool.or_eq_true] at h
    rcases List.mem_cons.1 he with rfl | he
    · rcases h.1 with q | q
      · rw [hb] at q; cases q
      · rwa [Nat.blt_eq] at q
    · exact lowEdges_lt h.2 e he hb
theorem masksOk_at {M : List Nat} : ∀ {l : List Oper} {k : Nat}, gt M l k = true → ∀ j o, l[j]? = some o → gj (k + j) o.after.toList = true ∧ M.getD (k + j) 0 = gM M o.after.toList
  | [], k, _, j, o, ho => by simp at ho
  | x :: l, k, h, j, o, ho => by
    simp only [gt, Bool.and_eq_true] at h
    cases j with
    | zero =>
      simp only [List.getElem?_cons_zero, Option.some.injEq] at ho
      subst ho
      exact ⟨h.1.1, Nat.eq_of_beq_eq_true h.1.2⟩
    | succ j =>
      have := masksOk_at h.2 j o (by simpa using ho)
      rw [show k + (j + 1) = k + 1 + j by omega]
      exact this
theorem masks_sound {l : List Oper} {M : List Nat} (hM : gt M l 0 = true) (hML : M.length = l.length) : ∀ i h, (M.getD i 0).testBit h = true → d9 l.toArray (i + 1) i h = true := by
  intro i
  induction i using Nat.strongRecOn with
  | _ i ih =>
    intro h hb
    have hil : i < l.length := by
      rcases Nat.lt_or_ge i l.length with q | q
      · exact q
      · rw [List.getD_eq_getElem?_getD, List.getElem?_eq_none (by omega)] at hb
        simp at hb
    have ho : l[i]? = some l[i] := List.getElem?_eq_getElem hil
    have hat := masksOk_at hM i _ ho
    rw [Nat.zero_add] at hat
    rw [hat.2] at hb
    obtain ⟨e, he, hbi, h1⟩ := maskOr_bit hb
    have hlt := lowEdges_lt hat.1 e he hbi
    unfold d9
    rw [List.getElem?_toArray, ho]
    simp only [Array.any_eq_true', Bool.and_eq_true, Bool.or_eq_true]
    refine ⟨e, by simpa using he, hbi, ?_⟩
    rcases h1 with q | q
    · exact .inl (by rw [q]; exact Nat.beq_refl h)
    · exact .inr (tdep_mono (by omega) (ih e.on hlt h q))
def ip (ops : Array Oper) (M : List Nat) : List (Nat × Md) → Bool
  | [] => true
  | i :: σ => (σ.all fun j => !Nat.beq i.1 j.1 && ((M.getD j.1 0).testBit i.1 || cz ops i j)) && ip ops M σ
theorem pairsOk_of_M {l : List Oper} {M : List Nat} (hM : gt M l 0 = true) (hML : M.length = l.length) : ∀ {σ : List (Nat × Md)}, (∀ x ∈ σ, x.1 < l.length) → ip l.toArray M σ = true → c7 l.toArray l.length σ = true
  | [], _, _ => rfl
  | i :: σ, hlt, h => by
    simp only [ip, Bool.and_eq_true, List.all_eq_true, Bool.or_eq_true] at h
    simp only [c7, Bool.and_eq_true, List.all_eq_true, Bool.or_eq_true]
    refine ⟨fun j hj => ⟨(h.1 j hj).1, (h.1 j hj).2.imp (fun q => ?_) id⟩, pairsOk_of_M hM hML (fun x hx => hlt x (List.mem_cons_of_mem _ hx)) h.2⟩
    have := hlt j (List.mem_cons_of_mem _ hj)
    exact tdep_mono (by omega) (masks_sound hM hML _ _ q)
def drawOkM (l : List Oper) (M : List Nat) (σ : List (Nat × Md)) : Bool :=
  Nat.ble σ.length l.length && (List.range l.length).all (fun i => σ.any fun x => Nat.beq x.1 i) && σ.all (fun x => Nat.blt x.1 l.length) && (Nat.beq M.length l.length && gt M l 0 && ip l.toArray M σ) && eI l.toArray σ &&
  l.all fun o => match o.op with | .select .. => false | _ => true
theorem drawOk_of_M {l : List Oper} {M : List Nat} {σ : List (Nat × Md)} (h : drawOkM l M σ = true) : jc l.toArray σ = true := by
  simp only [drawOkM, Bool.and_eq_true] at h
  obtain ⟨⟨⟨⟨⟨h1, h2⟩, h3⟩, ⟨⟨h4, h5⟩, h6⟩⟩, h7⟩, h8⟩ := h
  have hs : l.toArray.size = l.length := by simp
  simp only [jc, Bool.and_eq_true, hs]
  refine ⟨⟨⟨⟨⟨h1, h2⟩, h3⟩, pairsOk_of_M h5 (Nat.eq_of_beq_eq_true h4) (fun x hx => ?_) h6⟩, h7⟩, ?_⟩
  · have := List.all_eq_true.1 h3 x hx
    rwa [Nat.blt_eq] at this
  · rw [← hs, Array.all_eq_true']
    intro x hx
    have hx := List.all_eq_true.1 h8 x (by simpa using hx)
    cases hop : x.op <;> first | rfl | (rw [hop] at hx; cases hx)
end
section
variable {P : Program} {N : Nat} {ρ : Nat → Value} {w0 w : World} {Q : Exit → Act → World → Prop} {H : List Blk}
theorem eE {C : Code} {ρ : Nat → Value} {w : World} (M : (Nat → Value) → Prop) (h0 : M ρ) (h : ∀ ρ, M ρ → C.wp P Q (act N ρ) w) : C.wp P Q (act N ρ) w := h ρ h0
theorem c_drawM {id : Nat} {l : List Oper} (M : List Nat) (σ : List (Nat × Md)) (hm : P.follows .mixedOrders = true) (hchk : drawOkM l M σ = true) (hS : St w0 w H)
    (h : ∀ w', St w0 w' H → Below w.heap.size w w' → Wr P l.toArray (Q .normal) σ N ρ w') : (Code.region id l.toArray true).wp P Q (act N ρ) w :=
  bm σ hm (drawOk_of_M hchk) hS h
end
end Go.Sx
namespace Go.Proofs.YtmghobajmhdbfaaGreatDoor
open Go Go.RowKit Go.Sx
theorem built_It2 (p : RR) (a : Option Addr) (n c : Nat) : Tryz.prog.built 41 [(0, bE p), (2, .slice a n c)] = some #[.bool p.neg, .string p.num, .string p.den, .bool false, .string ⟨#[]⟩, .string ⟨#[]⟩, .slice a n c] := by kernel_rfl
theorem built_Ch1 (a : Int) : Tryz.prog.built 62 [(0, .int .i64 a)] = some #[.int .i64 a, .int .i64 0, .bool false, .bool false, .string ⟨#[]⟩, .string ⟨#[]⟩] := by kernel_rfl
theorem its_X2 {w0 w : World} {H : List Blk} {T T2 : TypeId} {bi b0 b1 : Nat} (hS : St w0 w ((bi, T, (X2.zip [.slice (some ⟨b0, 0, none⟩) 2 2, .slice (some ⟨b1, 0, none⟩) 1 1]).flatMap dx) :: (b1, T2, [c0_].flatMap cS) :: (b0, T2, [c0_, c1_].flatMap cS) :: H)) :
    Its w (.slice (some ⟨bi, 0, none⟩) 2 2) X2 [.slice (some ⟨b0, 0, none⟩) 2 2, .slice (some ⟨b1, 0, none⟩) 1 1] := by
  have h2 : Sl cS 6 w (.slice (some ⟨b0, 0, none⟩) 2 2) [c0_, c1_] := hS.sle (k := 2) (L := [c0_, c1_]) (n := 2) (cap := 2) rfl encCh_len (Nat.le_refl _) (Nat.le_refl _) (by decide)
  have h1 : Sl cS 6 w (.slice (some ⟨b1, 0, none⟩) 1 1) [c0_] := hS.sle (k := 1) (L := [c0_]) (n := 1) (cap := 1) rfl encCh_len (Nat.le_refl _) (Nat.le_refl _) (by decide)
  refine ⟨rfl, hS.sle (k := 0) (L := X2.zip [.slice (some ⟨b0, 0, none⟩) 2 2, .slice (some ⟨b1, 0, none⟩) 1 1]) (n := 2) (cap := 2) rfl encIt_len (Nat.le_refl _) (Nat.le_refl _) (by decide), fun i hi => ?_⟩
  match i, hi with
  | 0, _ => exact h2
  | 1, _ => exact h1
  | n + 2, h => exact absurd h (by show ¬ n + 2 < 2; omega)
theorem fe (w : World) : Ret Tryz.prog 38 #[.int .i64 50] w fun v w' => v = bE Q50 ∧ Below w.heap.size w w' := QInt_ok 50 w (by decide) (by decide)
theorem int00_ok (w : World) : Ret Tryz.prog 38 #[.int .i64 0] w fun v w' => v = bE Q00 ∧ Below w.heap.size w w' := QInt_ok 0 w (by decide) (by decide)
set_option maxHeartbeats 1000000 in
theorem awake_ok (w : World) (hT : At w ⟨2, 0, none⟩ (Kr .u8 tzTab)) :
    Ret Tryz.prog 15 #[] w fun v w' => v = .bool true ∧ Below w.heap.size w w' := by
  have hM : MX = 1099511627776 := rfl
  have hS := St.init w
  refine enter Tryz.func15 rfl Tryz.ntmps15 rfl ?_
  repeat (with_reducible first | apply ag | apply ac | apply af | apply ae | apply ab)
  refine aj ?_
  refine aa rfl (am  rfl ?_)
  refine ai ?_
  repeat (with_reducible first | apply ag | apply ac | apply af | apply ae | apply ab)
  refine aj ?_
  refine ak rfl (av Tryz.call38 rfl (fe _) ?_)
  rintro r wa ⟨rfl, hBa⟩
  replace hS := hS.grow hBa
  refine aa rfl (ce  rfl (built_Ch1 _) ?_)
  refine aa rfl (ce  rfl (built_Ch1 _) ?_)
  refine ak rfl (dJ (vs := [.agg (cS c0_).toArray, .agg (cS c1_).toArray])  rfl iK rfl (by decide) (by decide) (by decide) (by simp [Value.cells, cS]) rfl hS ?_)
  intro b10 wz1 hS hBz1
  refine aa rfl (ce  rfl (built_It2 _ _ _ _) ?_)
  refine ak rfl (av Tryz.call38 rfl (fe _) ?_)
  rintro r wb ⟨rfl, hBb⟩
  replace hS := hS.grow hBb
  refine aa rfl (ce  rfl (built_Ch1 _) ?_)
  refine ak rfl (dJ (vs := [.agg (cS c0_).toArray])  rfl iK rfl (by decide) (by decide) (by decide) (by simp [Value.cells, cS]) rfl hS ?_)
  intro b14 wz2 hS hBz2
  refine aa rfl (ce  rfl (built_It2 _ _ _ _) ?_)
  refine ak rfl (dJ (vs := [fq ⟨Q50, zRR, [c0_, c1_]⟩ (.slice (some ⟨b10, 0, none⟩) 2 2), fq ⟨Q50, zRR, [c0_]⟩ (.slice (some ⟨b14, 0, none⟩) 1 1)])  rfl g8 rfl (by decide) (by decide) (by decide) (by simp [Value.cells, fq]) rfl hS ?_)
  intro b16 wz3 hS hBz3
  refine aa rfl (am  rfl ?_)
  refine ai ?_
  repeat (with_reducible first | apply ag | apply ac | apply af | apply ae | apply ab)
  replace hS : St w _ [(b16, 41, (X2.zip [.slice (some ⟨b10, 0, none⟩) 2 2, .slice (some ⟨b14, 0, none⟩) 1 1]).flatMap dx), (b14, 62, [c0_].flatMap cS), (b10, 62, [c0_, c1_].flatMap cS)] := hS
  repeat (with_reducible first | apply ag | apply ac | apply af | apply ae | apply ab)
  refine aj ?_
  refine ak rfl (av Tryz.call38 rfl (fe _) ?_)
  rintro r wc ⟨rfl, hBc⟩
  replace hS := hS.grow hBc
  refine ak rfl (av Tryz.call38 rfl (fe _) ?_)
  rintro r wd ⟨rfl, hBd⟩
  replace hS := hS.grow hBd
  refine ak rfl (dJ (vs := [bE (Q50), bE (Q50)])  rfl bH rfl (by decide) (by decide) (by decide) (by simp [Value.cells, bE]) rfl hS ?_)
  intro b19 wz4 hS hBz4
  refine aa rfl (am  rfl ?_)
  refine ai ?_
  repeat (with_reducible first | apply ag | apply ac | apply af | apply ae | apply ab)
  replace hS : St w _ ((b19, 36, O2.flatMap aC) :: [(b16, 41, (X2.zip [.slice (some ⟨b10, 0, none⟩) 2 2, .slice (some ⟨b14, 0, none⟩) 1 1]).flatMap dx), (b14, 62, [c0_].flatMap cS), (b10, 62, [c0_, c1_].flatMap cS)]) := hS
  have hI := its_X2 (hS.drop (List.sublist_cons_self _ _))
  have hO : Sl aC 3 _ (.slice (some ⟨b19, 0, none⟩) 2 2) O2 := hS.sle (k := 0) (L := O2) (n := 2) (cap := 2) rfl bg (Nat.le_refl _) (Nat.le_refl _) (by decide)
  repeat (with_reducible first | apply ag | apply ac | apply af | apply ae | apply ab)
  refine aj ?_
  refine aa rfl (ah  rfl ?_)
  refine aa rfl (ah  rfl ?_)
  refine ak rfl (av Tryz.call8 rfl (Totals_ok _ _ X2 _ O2 1 _ hI hO its_B.1 its_B.2 (by rw [hM]; decide) (hT.below hS.below)) ?_)
  rintro r w3 ⟨⟨vt, rfl, hv1⟩, hB3⟩
  rw [tot_X2] at hv1
  rw [gU]
  replace hS := hS.grow hB3
  refine aa rfl (ah  rfl ?_)
  refine aa rfl (bL  rfl rfl ?_)
  refine aa rfl (bL  rfl rfl ?_)
  refine aa rfl (am  rfl ?_)
  refine aa rfl (am  rfl ?_)
  refine ai ?_
  repeat (with_reducible first | apply ag | apply ac | apply af | apply ae | apply ab)
  refine aj ?_
  refine aa rfl (ah  rfl ?_)
  refine aa rfl (ah  rfl ?_)
  refine ak rfl (av Tryz.call20 rfl (Greedy_ok _ _ X2 _ O2 1 _ (hI.below hB3) (hO.below hB3) its_B.1 its_B.2 (by rw [hM]; decide)) ?_)
  rintro r w4 ⟨⟨vg, rfl, hv2⟩, hB4⟩
  rw [gre_X2] at hv2
  rw [gU]
  replace hS := hS.grow hB4
  have hv3 := hv1.below hB4
  have hW := hS.below
  clear hv1 hI hO
  replace hS := St.init w4
  refine aa rfl (ah  rfl ?_)
  refine aa rfl (bL  rfl rfl ?_)
  refine aa rfl (bL  rfl rfl ?_)
  refine aa rfl (am  rfl ?_)
  refine aa rfl (am  rfl ?_)
  refine ai ?_
  repeat (with_reducible first | apply ag | apply ac | apply af | apply ae | apply ab)
  refine c_drawM [0, 1, 3, 7, 15, 31, 63, 127, 255, 511, 1023, 255, 4095, 8191, 16383, 32767, 65535, 131071, 32767, 524287, 1048575, 2097151, 4194303, 8388607, 16777215, 33554431, 67108863, 134217727, 268435455, 536870911, 1073741823, 2147483647, 4294967295, 8589934591, 2147483647, 34359738367, 68719476735, 137438953471, 274877906943, 549755813887, 1099511627775, 274877906943, 4398046511103, 8796093022207, 17592186044415] [(0, .pure), (1, .pure), (2, .pure), (3, .pure), (4, .pure), (5, .pure), (6, .pure), (7, .pure), (8, .pure), (9, .pure), (10, .read), (11, .grow), (12, .pure), (13, .pure), (14, .pure), (15, .pure), (16, .pure), (17, .read), (18, .grow), (19, .pure), (20, .pure), (21, .pure), (22, .pure), (23, .pure), (24, .pure), (25, .pure), (26, .pure), (27, .pure), (28, .pure), (29, .pure), (30, .pure), (31, .pure), (32, .pure), (33, .read), (34, .grow), (35, .pure), (36, .pure), (37, .pure), (38, .pure), (39, .pure), (40, .read), (41, .grow), (42, .pure), (43, .pure), (44, .pure)] (by kernel_rfl) (by kernel_rfl) hS ?_
  intro wz5 hS hBz5
  refine al rfl rfl (ah  rfl ?_)
  refine al rfl rfl (c6  rfl rfl ?_)
  refine al rfl rfl (ah  rfl ?_)
  refine al rfl (ar 34 (by kernel_rfl) rfl rfl) (ah  rfl ?_)
  refine al rfl (ar 34 (by kernel_rfl) rfl rfl) (aG  rfl (hv3.below hS.below) ⟨_, Tryz.underlying24⟩ ?_)
  refine al rfl (ar 34 (by kernel_rfl) rfl rfl) (c6  rfl rfl ?_)
  refine al rfl rfl (aJ (vb rfl rfl) rfl ?_)
  refine al rfl rfl (ah  rfl ?_)
  refine al rfl (ar 39 (by kernel_rfl) rfl rfl) (ah  rfl ?_)
  refine al rfl (ar 39 (by kernel_rfl) rfl rfl) (aX (i := 0)  rfl rfl (hv3.below hS.below) (by omega) (by first | omega | (simp; done) | (simp; omega)) bH ?_)
  refine aF rfl (ar 39 (by kernel_rfl) rfl rfl) (a6 (i := 0) zRR  rfl ax (hv3.below hS.below) (by first | omega | (simp; done) | (simp; omega)) rfl rfl (.inl rfl) ?_)
  refine aS rfl (ar 39 (by kernel_rfl) rfl rfl) (av Tryz.call38 rfl (fe _) ?_)
  rintro r we0 ⟨rfl, hBe0⟩
  refine ⟨hBe0, ?_⟩
  replace hS := hS.grow hBe0
  refine al rfl (ar 39 (by kernel_rfl) rfl rfl) (jl  rfl rfl ?_)
  refine al rfl rfl (aJ (vb rfl rfl) rfl ?_)
  refine al rfl rfl (ah  rfl ?_)
  refine al rfl (ar 46 (by kernel_rfl) rfl (decide_eq_true rfl)) (ah  rfl ?_)
  refine al rfl (ar 46 (by kernel_rfl) rfl (decide_eq_true rfl)) (aX (i := 1)  rfl rfl (hv3.below hS.below) (by omega) (by first | omega | (simp; done) | (simp; omega)) bH ?_)
  refine aF rfl (ar 46 (by kernel_rfl) rfl (decide_eq_true rfl)) (a6 (i := 1) zRR  rfl ax (hv3.below hS.below) (by first | omega | (simp; done) | (simp; omega)) rfl rfl (.inl rfl) ?_)
  refine aS rfl (ar 46 (by kernel_rfl) rfl (decide_eq_true rfl)) (av Tryz.call38 rfl (fe _) ?_)
  rintro r we1 ⟨rfl, hBe1⟩
  refine ⟨hBe1, ?_⟩
  replace hS := hS.grow hBe1
  refine al rfl (ar 46 (by kernel_rfl) rfl (decide_eq_true rfl)) (jl  rfl rfl ?_)
  refine al rfl rfl (aJ (vb rfl (decide_eq_true rfl)) rfl ?_)
  refine al rfl rfl (ah  rfl ?_)
  refine al rfl (ar 53 (by kernel_rfl) rfl (decide_eq_true rfl)) (ah  rfl ?_)
  refine al rfl (ar 53 (by kernel_rfl) rfl (decide_eq_true rfl)) (c6  rfl rfl ?_)
  refine al rfl rfl (aJ (vb rfl (decide_eq_true rfl)) rfl ?_)
  refine al rfl rfl (ah  rfl ?_)
  refine al rfl (ar 57 (by kernel_rfl) rfl rfl) (ah  rfl ?_)
  refine al rfl (ar 57 (by kernel_rfl) rfl rfl) (aG  rfl (hv2.below hS.below) ⟨_, Tryz.underlying24⟩ ?_)
  refine al rfl (ar 57 (by kernel_rfl) rfl rfl) (c6  rfl rfl ?_)
  refine al rfl rfl (aJ (vb rfl rfl) rfl ?_)
  refine al rfl rfl (ah  rfl ?_)
  refine al rfl (ar 62 (by kernel_rfl) rfl rfl) (ah  rfl ?_)
  refine al rfl (ar 62 (by kernel_rfl) rfl rfl) (aX (i := 0)  rfl rfl (hv2.below hS.below) (by omega) (by first | omega | (simp; done) | (simp; omega)) bH ?_)
  refine aF rfl (ar 62 (by kernel_rfl) rfl rfl) (a6 (i := 0) zRR  rfl ax (hv2.below hS.below) (by first | omega | (simp; done) | (simp; omega)) rfl rfl (.inl rfl) ?_)
  refine aS rfl (ar 62 (by kernel_rfl) rfl rfl) (av Tryz.call38 rfl (fe _) ?_)
  rintro r we2 ⟨rfl, hBe2⟩
  refine ⟨hBe2, ?_⟩
  replace hS := hS.grow hBe2
  refine al rfl (ar 62 (by kernel_rfl) rfl rfl) (jl  rfl rfl ?_)
  refine al rfl rfl (aJ (vb rfl rfl) rfl ?_)
  refine al rfl rfl (ah  rfl ?_)
  refine al rfl (ar 69 (by kernel_rfl) rfl (decide_eq_true rfl)) (ah  rfl ?_)
  refine al rfl (ar 69 (by kernel_rfl) rfl (decide_eq_true rfl)) (aX (i := 1)  rfl rfl (hv2.below hS.below) (by omega) (by first | omega | (simp; done) | (simp; omega)) bH ?_)
  refine aF rfl (ar 69 (by kernel_rfl) rfl (decide_eq_true rfl)) (a6 (i := 1) zRR  rfl ax (hv2.below hS.below) (by first | omega | (simp; done) | (simp; omega)) rfl rfl (.inl rfl) ?_)
  refine aS rfl (ar 69 (by kernel_rfl) rfl (decide_eq_true rfl)) (av Tryz.call38 rfl (int00_ok _) ?_)
  rintro r we3 ⟨rfl, hBe3⟩
  refine ⟨hBe3, ?_⟩
  replace hS := hS.grow hBe3
  refine al rfl (ar 69 (by kernel_rfl) rfl (decide_eq_true rfl)) (jl  rfl rfl ?_)
  refine al rfl rfl (aJ (vb rfl (decide_eq_true rfl)) rfl ?_)
  refine al rfl rfl (am  rfl ?_)
  refine bC ?_
  repeat (with_reducible first | apply ag | apply ac | apply af | apply ae | apply ab)
  refine aE ?_
  repeat (with_reducible first | apply ap | apply ao)
  refine aR rfl rfl ?_
  exact ⟨vb rfl (decide_eq_true rfl), bt hW hS.below⟩
end Go.Proofs.YtmghobajmhdbfaaGreatDoor
namespace Go.Sx
open Go Go.RowKit Go.ChangeShapes Go.WideShapes Go.Proofs.YtmghobajmhdbfaaGreatDoor
section
variable {H : Type} {enc : TypeId × Value → H} {P : Program} {w : World}
theorem add_add (a : Addr) (m n : Nat) : (a.add m).add n = a.add (m + n) := by
  obtain ⟨b, o, s⟩ := a
  unfold Addr.add
  by_cases hn : n = 0
  · subst hn; simp
  · by_cases hm : m = 0
    · subst hm; simp [hn]
    · simp [hn, hm, Nat.add_assoc]
theorem at_one {a : Addr} {u : Value} (h : w.cell? a = some u) : At w a [u] := At.one h
/-- The arguments read behind the call as they did before. -/
theorem args_kept (hl : laidOutB P = true) {w' : World} (hb : Below w.heap.size w w') : ∀ {ts : List TypeId} {vs : List Value} {ds : List (DataW H)} {ps : List MemPlace}, (∀ t ∈ ts, P.readableRec t = true ∧ t < P.types.size) → (∀ x ∈ ps, x.block < w.heap.size) →
    DataW.TrodAll enc P w 0 (fun _ => true) true ts vs ds ps → DataW.TrodAll enc P w' 0 (fun b => decide (b < w.heap.size)) true ts vs ds ps
  | [], [], [], _, _, _, h => h
  | t :: ts, v :: vs, d :: ds, ps, hT, hlt, ⟨p, q, h1, h2, e⟩ => by
    subst e
    exact ⟨p, q, Below.trod hl (hT t (List.mem_cons_self ..)).1 (hT t (List.mem_cons_self ..)).2 h1 hb (fun x hx => hlt x (List.mem_append_left _ hx)),
      args_kept hl hb (fun t ht => hT t (List.mem_cons_of_mem _ ht)) (fun x hx => hlt x (List.mem_append_right _ hx)) h2, rfl⟩
  | [], [], _ :: _, _, _, _, h => h.elim
  | [], _ :: _, [], _, _, _, h => h.elim
  | [], _ :: _, _ :: _, _, _, _, h => h.elim
  | _ :: _, [], [], _, _, _, h => h.elim
  | _ :: _, [], _ :: _, _, _, _, h => h.elim
  | _ :: _, _ :: _, [], _, _, _, h => h.elim
/-- A law's last step: the call answers, and what was there is as it was. -/
theorem law_post {f : Func} {s : ChangeSpec} {w' : World} {args : Array Value} {v : Value} {ds gs : List (DataW H)} {before : List MemPlace} (hl : laidOutB P = true)
    (hW : DataW.Whole enc P f.params.toList s.vars false w args.toList ds gs before) (hT : ∀ t ∈ f.params.toList, P.readableRec t = true ∧ t < P.types.size) (hv : s.vars = []) (hb : Below w.heap.size w w')
    (hres : DataW.TrodAll enc P w' w.heap.size (fun _ => false) false f.resultTypes.toList (v.resultList f.resultTypes.size) (s.fn H (ds ++ gs)).results []) (hargs : (s.fn H (ds ++ gs)).args = ds) (hvars : (s.fn H (ds ++ gs)).vars = []) :
    s.post enc P f false true false false w args v w' := by
  have hlt : ∀ x ∈ before, x.block < w.heap.size := fun x hx => hW.lt x hx
  have hW2 := hW
  obtain ⟨p, q, h1, h2, rfl, _, _⟩ := hW
  rw [hv] at h2
  obtain ⟨rfl, rfl⟩ := trodVars_none h2
  rw [List.append_nil] at hlt
  refine ⟨ds, [], _, [], p, [], hW2, hres, ?_, ?_, hb.frame _, fun q => by cases q⟩
  · rw [hargs]; exact args_kept hl hb hT hlt h1
  · rw [hvars, hv]; exact rfl
end
end Go.Sx
namespace Go.Proofs.YtmghobajmhdbfaaGreatDoor
open Go Go.RowKit Go.Sx Go.ChangeShapes Go.WideShapes Go.ChangeAt
theorem ownNone : ownKnob Tryz.prog.godebug = none := by kernel_rfl
theorem laidOut : laidOutB Tryz.prog = true := by kernel_rfl
def tzD : DataW Unit := .agg (tzTab.map fun n : Nat => .lit (.int .u8 (n : Int)))
theorem tz_at {W : World} {l1 : String × DataW Unit} {ls : List (String × DataW Unit)} (h : laidMetH Tryz.prog (l1 :: ("math/bits.deBruijn64tab", tzD) :: ls) W) (hh : ((l1 :: ("math/bits.deBruijn64tab", tzD) :: ls).all fun x => x.2.handleName?.isNone) = true) :
    At W ⟨2, 0, none⟩ (Kr .u8 tzTab) := by
  rw [MakeChecks.laidMetH_plain _ _ _ hh] at h
  obtain ⟨ps, hL, _, _⟩ := h
  obtain ⟨_, _, _, _, _, q0, _, _, _, _, hL1, _⟩ := hL
  obtain ⟨g, t, cs, fuel, p, q, hg, ht, hv, hd, _, _⟩ := hL1
  obtain rfl := Option.some.inj ((show Tryz.prog.globalNamed "math/bits.deBruijn64tab" = some 2 by kernel_rfl).symm.trans hg)
  obtain rfl := Option.some.inj ((show (Tryz.prog.globals[2]?).map (·.type) = some 138 by kernel_rfl).symm.trans ht)
  obtain ⟨xs, m, _, ex, _, hl, hel⟩ := DataW.trod_array Tryz.underlying138 hd
  have c5 : Tryz.prog.cellsOf 5 = 1 := by kernel_rfl
  have hlen : tzTab.length = 64 := rfl
  have e3 : (xs.map (·.1)) = tzTab.map fun n : Nat => (.lit (.int .u8 (n : Int)) : DataW Unit) := (DataW.agg.inj (Prod.mk.inj ex).1).symm
  intro r u hu
  have hr : r < 64 := by
    rcases Nat.lt_or_ge r 64 with h1 | h1
    · exact h1
    · rw [List.getElem?_eq_none (by rw [Kr_len, hlen]; exact h1)] at hu; cases hu
  rw [Kr_get _ _ (by rw [hlen]; exact hr)] at hu
  rw [← Option.some.inj hu, add_lit, Nat.zero_add]
  have hE := hel r hr
  rw [c5, Nat.mul_one, List.getElem?_eq_getElem (by omega)] at hE
  obtain ⟨z, e1, e2, _⟩ := DataW.trod_int Tryz.underlying5 hE
  have e4 : (xs.map (·.1))[r]? = (tzTab.map fun n : Nat => (DataW.lit (.int .u8 (n : Int)) : DataW Unit))[r]? := by rw [e3]
  rw [List.getElem?_map, List.getElem?_map, List.getElem?_eq_getElem (by omega : r < xs.length), List.getElem?_eq_getElem (by omega : r < tzTab.length), e2] at e4
  have hz : z = ((tzTab.getD r 0 : Nat) : Int) := by
    simp only [Option.map_some, Option.some.injEq, DataW.lit.injEq, Lit.int.injEq, true_and] at e4
    rw [e4, List.getD_eq_getElem?_getD, List.getElem?_eq_getElem (by omega : r < tzTab.length)]; rfl
  rw [World.var?_cell hg hv r, ← hz]
  have h0 : ((cs.toList.drop r).take 1)[0]? = some (.int .u8 z) := by rw [e1]; rfl
  simpa using h0
end Go.Proofs.YtmghobajmhdbfaaGreatDoor
namespace Go.Proofs.YtmghobajmhdbfaaGreatDoor
open Go Go.RowKit Go.Sx
theorem gp (f : Nat → Rat) : ∀ (N i : Nat), i < N ∨ i = 0 → eq f N ≤ f i
  | 0, i, h => by
    obtain rfl : i = 0 := by omega
    exact Rat.le_refl
  | N + 1, i, h => by
    have h1 := gp f N
    rw [eq]
    unfold dK
    by_cases e : i = N
    · subst e
      split
      · next g => exact g
      · exact Rat.le_refl
    · have h2 := h1 i (by omega)
      split
      · exact h2
      · next g => exact Rat.le_trans (Rat.le_of_lt (Rat.not_le.1 g)) h2
theorem fK (f : Nat → Rat) : ∀ N : Nat, ∃ i, (i < N ∨ i = 0) ∧ eq f N = f i
  | 0 => ⟨0, .inr rfl, rfl⟩
  | N + 1 => by
    obtain ⟨i, hi, e⟩ := fK f N
    rw [eq]
    unfold dK
    split
    · exact ⟨i, by omega, e⟩
    · exact ⟨N, .inl (by omega), rfl⟩
theorem sumIf_four {n : Nat} {p1 p2 p3 p4 : Nat → Bool} {f : Nat → Rat} (h : ∀ i, i < n → (if p3 i = true then f i else 0) + (if p4 i = true then f i else 0) ≤ (if p1 i = true then f i else 0) + (if p2 i = true then f i else 0)) :
    sumIf n p3 f + sumIf n p4 f ≤ sumIf n p1 f + sumIf n p2 f := by
  induction n with
  | zero => exact Rat.le_refl
  | succ n ih =>
    have h1 := ih fun i hi => h i (by omega)
    have h2 := h n (by omega)
    simp only [sumIf]
    grind
theorem sumIf_two {n : Nat} {p q : Nat → Bool} {f : Nat → Rat} (h : ∀ i, i < n → (if p i = true then f i else 0) ≤ (if q i = true then f i else 0)) : sumIf n p f ≤ sumIf n q f := by
  induction n with
  | zero => exact Rat.le_refl
  | succ n ih =>
    have h1 := ih fun i hi => h i (by omega)
    have h2 := h n (by omega)
    simp only [sumIf]
    grind
/-- What is owed is not negative. -/
def Pos (owed : List RR) : Prop := ∀ c, c < owed.length → 0 ≤ owF owed c
theorem capF_mono {X : List It} {owed : List RR} (hp : Pos owed) {s t : Nat → Bool} (h : ∀ c, c < owed.length → s c = true → t c = true) (j : Nat) : cJ X owed s j ≤ cJ X owed t j := by
  rw [dP, dP]
  refine Rat.add_le_add_left.2 (sumIf_two fun c hc => ?_)
  have h1 := h c hc
  have h2 := hp c hc
  cases hs : s c with
  | false => simp only [Bool.false_and]; split <;> grind
  | true => rw [h1 hs]; exact Rat.le_refl
theorem capQ_mono {X : List It} {owed : List RR} (hp : Pos owed) {s t : Nat → Bool} (h : ∀ c, c < owed.length → s c = true → t c = true) : dL X owed s ≤ dL X owed t := by
  unfold dL
  obtain ⟨i, hi, e⟩ := fK (cJ X owed t) (2 ^ X.length)
  rw [e]
  exact Rat.le_trans (gp _ _ i hi) (capF_mono hp h i)
theorem d5 (X : List It) (cut c : Nat) : cG X cut c = true ↔ ∃ i, i < X.length ∧ cut.testBit i = false ∧ cD (X.getD i zIt) c = true := by
  unfold cG
  rw [List.any_eq_true]
  constructor
  · rintro ⟨i, hi, h⟩
    simp only [Bool.and_eq_true, Bool.not_eq_true'] at h
    exact ⟨i, List.mem_range.1 hi, h.1, h.2⟩
  · rintro ⟨i, hi, h1, h2⟩
    exact ⟨i, List.mem_range.2 hi, by rw [h1, h2]; rfl⟩
/-- Adding x to the smaller set s raises its capacity at least as much as adding it to t. -/
theorem capQ_sub {X : List It} {owed : List RR} (hp : Pos owed) {s t sx tx : Nat → Bool} {x : Nat} (hst : ∀ c, c < owed.length → s c = true → t c = true) (hsx : ∀ c, c < owed.length → (sx c = true ↔ s c = true ∨ c = x)) (htx : ∀ c, c < owed.length → (tx c = true ↔ t c = true ∨ c = x)) :
    dL X owed tx + dL X owed s ≤ dL X owed sx + dL X owed t := by
  unfold dL
  obtain ⟨i, hi, ei⟩ := fK (cJ X owed sx) (2 ^ X.length)
  obtain ⟨j, hj, ej⟩ := fK (cJ X owed t) (2 ^ X.length)
  have hpos : 0 < 2 ^ X.length := Nat.two_pow_pos _
  have hi2 : i < 2 ^ X.length := by omega
  have hj2 : j < 2 ^ X.length := by omega
  rw [ei, ej]
  have h1 : eq (cJ X owed tx) (2 ^ X.length) ≤ cJ X owed tx (i ||| j) := gp _ _ _ (.inl (Nat.or_lt_two_pow hi2 hj2))
  have h2 : eq (cJ X owed s) (2 ^ X.length) ≤ cJ X owed s (i &&& j) := gp _ _ _ (.inl (Nat.lt_of_le_of_lt Nat.and_le_left hi2))
  have h3 : dy X (i ||| j) + dy X (i &&& j) ≤ dy X i + dy X j := by
    unfold dy
    refine sumIf_four fun k _ => ?_
    rw [Nat.testBit_or, Nat.testBit_and]
    cases i.testBit k <;> cases j.testBit k <;> simp <;> grind
  have h4 : sumIf owed.length (fun c => tx c && cG X (i ||| j) c) (owF owed) + sumIf owed.length (fun c => s c && cG X (i &&& j) c) (owF owed) ≤ sumIf owed.length (fun c => sx c && cG X i c) (owF owed) + sumIf owed.length (fun c => t c && cG X j c) (owF owed) := by
    refine sumIf_four fun c hc => ?_
    have hpc := hp c hc
    have a1 : cG X (i ||| j) c = true → cG X i c = true ∧ cG X j c = true := by
      rw [d5, d5, d5]
      rintro ⟨k, hk, h, h'⟩
      rw [Nat.testBit_or, Bool.or_eq_false_iff] at h
      exact ⟨⟨k, hk, h.1, h'⟩, ⟨k, hk, h.2, h'⟩⟩
    have a2 : cG X (i &&& j) c = true → cG X i c = true ∨ cG X j c = true := by
      rw [d5, d5, d5]
      rintro ⟨k, hk, h, h'⟩
      rw [Nat.testBit_and, Bool.and_eq_false_iff] at h
      rcases h with h | h
      · exact .inl ⟨k, hk, h, h'⟩
      · exact .inr ⟨k, hk, h, h'⟩
    have b1 := hst c hc
    have b2 := hsx c hc
    have b3 := htx c hc
    generalize cG X (i ||| j) c = o1 at *
    generalize cG X (i &&& j) c = o2 at *
    generalize cG X i c = o3 at *
    generalize cG X j c = o4 at *
    generalize owF owed c = q at *
    by_cases hx : c = x
    · have b2' := b2.2 (.inr hx)
      have b3' := b3.2 (.inr hx)
      rw [b2', b3']
      cases hs : s c with
      | true =>
        rw [b1 hs]
        cases o1 <;> cases o2 <;> cases o3 <;> cases o4 <;> simp at a1 a2 ⊢ <;> grind
      | false =>
        cases t c <;> cases o1 <;> cases o2 <;> cases o3 <;> cases o4 <;> simp at a1 a2 ⊢ <;> grind
    · have e2 : sx c = s c := Bool.eq_iff_iff.2 (b2.trans ⟨fun g => g.resolve_right hx, .inl⟩)
      have e3 : tx c = t c := Bool.eq_iff_iff.2 (b3.trans ⟨fun g => g.resolve_right hx, .inl⟩)
      rw [e2, e3]
      cases hs : s c with
      | true =>
        rw [b1 hs]
        cases o1 <;> cases o2 <;> cases o3 <;> cases o4 <;> simp at a1 a2 ⊢ <;> grind
      | false =>
        cases t c <;> cases o1 <;> cases o2 <;> cases o3 <;> cases o4 <;> simp at a1 a2 ⊢ <;> grind
  rw [dP] at h1 h2
  rw [dP, dP]
  grind
end Go.Proofs.YtmghobajmhdbfaaGreatDoor
namespace Go.Proofs.YtmghobajmhdbfaaGreatDoor
open Go Go.RowKit Go.Sx
theorem prF_nonneg (X : List It) (i : Nat) : 0 ≤ prF X i := by
  have key : ∀ q : Rat, 0 ≤ d8 q 0 := fun q => by
    unfold d8
    split
    · assumption
    · exact Rat.le_refl
  exact key _
theorem eR {n : Nat} {p : Nat → Bool} {f : Nat → Rat} (h : ∀ i, i < n → 0 ≤ f i) : 0 ≤ sumIf n p f := by
  induction n with
  | zero => exact Rat.le_refl
  | succ n ih =>
    have h1 := ih fun i hi => h i (by omega)
    have h2 := h n (by omega)
    rw [sumIf]
    split <;> grind
theorem eY {n : Nat} {p : Nat → Bool} {f g : Nat → Rat} {j : Nat} (hj : j < n) (h : ∀ i, i < n → i ≠ j → g i = f i) : sumIf n p g = sumIf n p f + (if p j = true then g j - f j else 0) := by
  induction n with
  | zero => omega
  | succ n ih =>
    rw [sumIf, sumIf]
    by_cases e : j = n
    · subst e
      rw [c3 (p := p) (q := p) (f := g) (g := f) (fun i hi => ⟨rfl, h i (by omega) (by omega)⟩)]
      split <;> grind
    · rw [ih (by omega) (fun i hi hne => h i (by omega) hne), h n (by omega) (fun q => e q.symm)]
      grind
theorem payF_nonneg (X : List It) (j : Nat) : 0 ≤ dy X j := eR fun i _ => prF_nonneg X i
theorem capQ_none (X : List It) (owed : List RR) {s : Nat → Bool} (h : ∀ c, c < owed.length → s c = false) : dL X owed s = 0 := by
  rw [e8 (t := fun _ => false) h]
  unfold dL
  refine Rat.le_antisymm ?_ ?_
  · have h1 := gp (cJ X owed fun _ => false) (2 ^ X.length) 0 (.inr rfl)
    rw [gw, payF_zero] at h1
    exact h1
  · obtain ⟨i, _, e⟩ := fK (cJ X owed fun _ => false) (2 ^ X.length)
    rw [e, gw]
    exact payF_nonneg X i
theorem iG (X : List It) (owed : List RR) (k : Nat) : bR X owed k = dL X owed fun i => decide (i < k) := by
  unfold bR
  split
  · next h =>
    subst h
    exact (capQ_none X owed fun c _ => decide_eq_false (by omega)).symm
  · rfl
def c8 (X : List It) (owed : List RR) (c : Nat) : Rat := bR X owed (c + 1) - bR X owed c
/-- The totals of any of the first claims sum up to at most the capacity of these. -/
theorem sets_le {X : List It} {owed : List RR} (hp : Pos owed) (s : Nat → Bool) {k : Nat} (hk : k ≤ owed.length) : sumIf k s (c8 X owed) ≤ dL X owed fun c => s c && decide (c < k) := by
  induction k with
  | zero =>
    rw [capQ_none X owed fun c _ => by simp]
    exact Rat.le_refl
  | succ k ih =>
    have h1 := ih (by omega)
    rw [sumIf]
    cases hs : s k with
    | false =>
      rw [e8 (t := fun c => s c && decide (c < k)) (fun c _ => by
        by_cases e : c = k
        · subst e; rw [hs]; rfl
        · have : (c < k + 1) ↔ (c < k) := by omega
          simp only [this])]
      simpa [Rat.add_zero] using h1
    | true =>
      have h2 := capQ_sub (X := X) (x := k) hp (s := fun c => s c && decide (c < k)) (t := fun c => decide (c < k)) (sx := fun c => s c && decide (c < k + 1)) (tx := fun c => decide (c < k + 1))
        (fun c _ h => by simp at h ⊢; exact h.2)
        (fun c _ => by
          by_cases e : c = k
          · subst e; simp [hs]
          · have : (c < k + 1) ↔ (c < k) := by omega
            simp [this, e])
        (fun c _ => by simp; omega)
      have e1 := iG X owed k
      have e2 := iG X owed (k + 1)
      unfold c8 at h1 ⊢
      rw [if_pos rfl]
      grind
theorem sets_all {X : List It} {owed : List RR} (hp : Pos owed) (s : Nat → Bool) : sumIf owed.length s (c8 X owed) ≤ dL X owed s := by
  have h := sets_le (X := X) hp s (Nat.le_refl _)
  rwa [e8 (t := s) (fun c hc => by simp [hc])] at h
theorem L_totF {X : List It} {owed : List RR} {K : Nat} (hX : ItB K X) (ho : RB K owed) (hx8 : X.length ≤ 8) (ho24 : owed.length ≤ 24) (c : Nat) : L (c8 X owed c) ≤ 80 * K + 91 := by
  have h1 := iz hX ho hx8 ho24 (c + 1)
  have h2 := iz hX ho hx8 ho24 c
  have h3 := jj (bR X owed (c + 1)) (bR X owed c)
  unfold c8; omega
/-- Of a state on the way, for a cut: nothing is negative, nobody receives more than is owed, and what claims within the cut have received came out of the cut. -/
structure GI (X : List It) (owed : List RR) (J : Nat) (s : GS) : Prop where
  p : ∀ i, 0 ≤ s.p i
  out : ∀ k, 0 ≤ s.out k
  owe : ∀ k, k < owed.length → s.out k ≤ owF owed k
  cut : sumIf owed.length (fun k => !cG X J k) s.out ≤ sumIf X.length J.testBit fun i => prF X i - s.p i
theorem GI.zero {X : List It} {owed : List RR} (hp : Pos owed) (J : Nat) : GI X owed J (gall X owed 0) := by
  refine ⟨fun i => prF_nonneg X i, fun _ => Rat.le_refl, fun k hk => hp k hk, ?_⟩
  have e1 : sumIf owed.length (fun k => !cG X J k) (gall X owed 0).out = 0 := by
    have : ∀ n, sumIf n (fun k => !cG X J k) (fun _ => (0 : Rat)) = 0 := by
      intro n
      induction n with
      | zero => rfl
      | succ n ih => rw [sumIf, ih]; simp [Rat.add_zero]
    exact this _
  rw [e1]
  refine eR fun i _ => ?_
  show 0 ≤ prF X i - prF X i
  grind
theorem GI.step {X : List It} {owed : List RR} {J : Nat} {s : GS} {c i : Nat} (h : GI X owed J s) (hc : c < owed.length) (hi : i < X.length) : GI X owed J (gst X owed s c i) := by
  unfold gst
  split
  case isFalse => exact h
  case isTrue hsec =>
    obtain ⟨x, hx⟩ : ∃ x, x = pay owed s c i := ⟨_, rfl⟩
    rw [← hx]
    have h1 := h.p i
    have h2 := h.out c
    have h3 := h.owe c hc
    have hx1 : 0 ≤ x ∧ x ≤ owF owed c - s.out c ∧ x ≤ s.p i := by
      rw [hx]; unfold pay dK
      split <;> grind
    obtain ⟨x0, x1, x2⟩ := hx1
    refine ⟨fun k => ?_, fun k => ?_, fun k hk => ?_, ?_⟩
    · show 0 ≤ if k = i then s.p i - x else s.p k
      split
      · grind
      · exact h.p k
    · show 0 ≤ if k = c then s.out c + x else s.out k
      split
      · grind
      · exact h.out k
    · show (if k = c then s.out c + x else s.out k) ≤ owF owed k
      split
      · next e => subst e; grind
      · exact h.owe k hk
    · have a1 := eY (p := fun k => !cG X J k) (f := s.out) (g := fun k => if k = c then s.out c + x else s.out k) hc (fun k _ hne => if_neg hne)
      have a2 := eY (p := J.testBit) (f := fun i => prF X i - s.p i) (g := fun k => prF X k - if k = i then s.p i - x else s.p k) hi (fun k _ hne => by simp only [if_neg hne])
      have a3 := h.cut
      simp only [if_true] at a1 a2
      have a4 : cG X J c = false → J.testBit i = true := by
        intro g
        cases hb : J.testBit i with
        | true => rfl
        | false =>
          have := (d5 X J c).2 ⟨i, hi, hb, hsec⟩
          rw [g] at this; cases this
      show sumIf owed.length (fun k => !cG X J k) (fun k => if k = c then s.out c + x else s.out k) ≤ sumIf X.length J.testBit (fun k => prF X k - if k = i then s.p i - x else s.p k)
      rw [a1, a2]
      cases ho : cG X J c with
      | true => cases J.testBit i <;> simp <;> grind
      | false => rw [a4 ho]; simp; grind
theorem GI.grow {X : List It} {owed : List RR} {J : Nat} {s : GS} {c : Nat} (h : GI X owed J s) (hc : c < owed.length) {i : Nat} (hi : i ≤ X.length) : GI X owed J (grow X owed c s i) := by
  induction i with
  | zero => exact h
  | succ i ih => exact (ih (by omega)).step hc (by omega)
theorem GI.gall {X : List It} {owed : List RR} (hp : Pos owed) (J : Nat) {c : Nat} (hc : c ≤ owed.length) : GI X owed J (gall X owed c) := by
  induction c with
  | zero => exact GI.zero hp J
  | succ c ih => exact (ih (by omega)).grow (by omega) (Nat.le_refl _)
/-- The number whose bits are given. -/
def gB (p : Nat → Bool) : Nat → Nat
  | 0 => 0
  | n + 1 => gB p n ||| (if p n = true then 2 ^ n else 0)
theorem maskN_lt (p : Nat → Bool) (n : Nat) : gB p n < 2 ^ n := by
  induction n with
  | zero => exact Nat.two_pow_pos 0
  | succ n ih =>
    rw [gB]
    refine Nat.or_lt_two_pow (Nat.lt_of_lt_of_le ih (Nat.pow_le_pow_right (by decide) (by omega))) ?_
    split
    · exact Nat.pow_lt_pow_right (by decide) (by omega)
    · exact Nat.two_pow_pos _
theorem maskN_bit (p : Nat → Bool) {n i : Nat} (h : i < n) : (gB p n).testBit i = p i := by
  induction n with
  | zero => omega
  | succ n ih =>
    rw [gB, Nat.testBit_or]
    by_cases e : i = n
    · subst e
      rw [Nat.testBit_lt_two_pow (maskN_lt p i)]
      cases hp : p i with
      | true => simp
      | false => simp
    · rw [ih (by omega)]
      have : (if p n = true then 2 ^ n else 0).testBit i = false := by
        split
        · rw [Nat.testBit_two_pow]; exact decide_eq_false (fun q => e q.symm)
        · exact Nat.zero_testBit _
      rw [this, Bool.or_false]
end Go.Proofs.YtmghobajmhdbfaaGreatDoor
namespace Go.Proofs.YtmghobajmhdbfaaGreatDoor
open Go Go.RowKit Go.Sx
def sz (n : Nat) : Nat := (aT n).size
theorem sz_mul (m n : Nat) : sz (m * n) ≤ sz m + sz n := bT m n
theorem sz_mono {m n : Nat} (h : m ≤ n) : sz m ≤ sz n := cF h
theorem sz_one : sz 1 = 1 := eA
def Mu (D : Nat) (q : Rat) : Prop := ∃ z : Int, q * (D : Rat) = (z : Rat)
section
variable {D : Nat} {p q : Rat}
theorem Mu.zero : Mu D 0 := ⟨0, by rw [Rat.zero_mul]; rfl⟩
theorem Mu.add (h : Mu D p) (g : Mu D q) : Mu D (p + q) := by
  obtain ⟨a, ha⟩ := h
  obtain ⟨b, hb⟩ := g
  exact ⟨a + b, by rw [Rat.add_mul, ha, hb, Rat.intCast_add]⟩
theorem Mu.sub (h : Mu D p) (g : Mu D q) : Mu D (p - q) := by
  obtain ⟨a, ha⟩ := h
  obtain ⟨b, hb⟩ := g
  exact ⟨a - b, by rw [Rat.intCast_sub, ← ha, ← hb]; grind⟩
theorem Mu.mulr (h : Mu D q) (k : Nat) : Mu (D * k) q := by
  obtain ⟨a, ha⟩ := h
  exact ⟨a * k, by rw [Rat.natCast_mul, ← Rat.mul_assoc, ha, Rat.intCast_mul, Rat.intCast_natCast]⟩
theorem Mu.mull (h : Mu D q) (k : Nat) : Mu (k * D) q := by rw [Nat.mul_comm]; exact h.mulr k
theorem Mu.min (h : Mu D p) (g : Mu D q) : Mu D (dK p q) := by unfold dK; split <;> assumption
theorem Mu.self (q : Rat) : Mu q.den q := ⟨q.num, by
  have h : (q.den : Rat) ≠ 0 := by
    have := Rat.natCast_pos.2 q.den_pos
    grind
  have := Rat.div_mul_cancel (a := (q.num : Rat)) h
  rwa [← Rat.mkRat_eq_div, Rat.mkRat_self] at this⟩
theorem Mu.sumIf {n : Nat} {s : Nat → Bool} {f : Nat → Rat} (h : ∀ i, i < n → Mu D (f i)) : Mu D (sumIf n s f) := by
  induction n with
  | zero => exact Mu.zero
  | succ n ih =>
    show Mu D (Go.Proofs.YtmghobajmhdbfaaGreatDoor.sumIf n s f + _)
    refine (ih fun i hi => h i (by omega)).add ?_
    split
    · exact h n (by omega)
    · exact Mu.zero
theorem Mu.int (hD : 0 < D) (h : Mu D q) (h0 : 0 ≤ q) {B : Nat} (hB : q ≤ (B : Rat)) : ∃ a : Nat, q * (D : Rat) = (a : Rat) ∧ a ≤ B * D ∧ (0 < q → 0 < a) := by
  obtain ⟨z, hz⟩ := h
  have hD0 : (0 : Rat) < D := Rat.natCast_pos.2 hD
  have hz0 : 0 ≤ z := by
    rw [← Rat.intCast_nonneg, ← hz]
    exact Rat.mul_nonneg h0 (Rat.le_of_lt hD0)
  obtain ⟨a, rfl⟩ := Int.eq_ofNat_of_zero_le hz0
  refine ⟨a, by rw [hz, Rat.intCast_natCast], ?_, fun hq => ?_⟩
  · have h1 : q * (D : Rat) ≤ (B : Rat) * (D : Rat) := Rat.mul_le_mul_of_nonneg_right hB (Rat.le_of_lt hD0)
    rw [hz, ← Rat.natCast_mul, ← Rat.intCast_natCast (B * D), Rat.intCast_le_intCast] at h1
    omega
  · have h1 : 0 < q * (D : Rat) := Rat.mul_pos hq hD0
    rw [hz, Rat.intCast_pos] at h1
    omega
theorem Mu.size (hD : 0 < D) (h : Mu D q) (h0 : 0 ≤ q) {B : Nat} (hB : q ≤ (B : Rat)) : L q ≤ sz B + sz D := by
  obtain ⟨a, ha, hb, _⟩ := h.int hD h0 hB
  have hD0 : (0 : Rat) < D := Rat.natCast_pos.2 hD
  have e : q = mkRat (a : Int) D := by
    rw [Rat.mkRat_eq_div, Rat.intCast_natCast, ← ha, Rat.div_def, Rat.mul_assoc, Rat.mul_inv_cancel _ (by grind), Rat.mul_one]
  rw [e]
  refine L_mkRat _ (by omega) ?_ ?_
  · rw [Int.natAbs_natCast]
    exact Nat.le_trans (sz_mono hb) (sz_mul _ _)
  · exact Nat.le_add_left _ _
theorem comm_den {K : Nat} : ∀ (qs : List Rat), (∀ q ∈ qs, L q ≤ K) → ∃ D : Nat, 0 < D ∧ sz D ≤ qs.length * K + 1 ∧ ∀ q ∈ qs, Mu D q := by
  intro qs
  induction qs with
  | nil => exact fun _ => ⟨1, by decide, by rw [sz_one]; exact Nat.le_add_left _ _, fun q hq => by cases hq⟩
  | cons q qs ih =>
    intro h
    obtain ⟨D, h1, h2, h3⟩ := ih fun r hr => h r (List.mem_cons_of_mem _ hr)
    refine ⟨q.den * D, Nat.mul_pos q.den_pos h1, ?_, fun r hr => ?_⟩
    · have := sz_mul q.den D
      have h4 : sz q.den ≤ K := Nat.le_trans (gF q) (h q List.mem_cons_self)
      rw [List.length_cons, Nat.add_mul]
      omega
    · rcases List.mem_cons.1 hr with rfl | hr
      · exact (Mu.self r).mulr D
      · exact (h3 r hr).mull q.den
end
theorem sumIf_plus (n : Nat) (s : Nat → Bool) (f g : Nat → Rat) : sumIf n s (fun i => f i + g i) = sumIf n s f + sumIf n s g := by
  induction n with
  | zero => simp only [sumIf]; grind
  | succ n ih => simp only [sumIf]; rw [ih]; split <;> grind
theorem fJ {n : Nat} {s : Nat → Bool} {f : Nat → Rat} (h : ∀ i, i < n → s i = true → f i = 0) : sumIf n s f = 0 := by
  induction n with
  | zero => rfl
  | succ n ih =>
    rw [sumIf, ih fun i hi => h i (by omega)]
    split
    · next hs => rw [h n (by omega) hs]; grind
    · grind
theorem sumIf_swap (n m : Nat) (s t : Nat → Bool) (f : Nat → Nat → Rat) : sumIf n s (fun i => sumIf m t (f i)) = sumIf m t fun k => sumIf n s fun i => f i k := by
  induction n with
  | zero => exact (fJ fun _ _ _ => rfl).symm
  | succ n ih =>
    show sumIf n s _ + _ = _
    rw [ih]
    have e : (sumIf m t fun k => sumIf (n + 1) s fun i => f i k) = sumIf m t (fun k => (sumIf n s fun i => f i k) + (if s n = true then f n k else 0)) := rfl
    rw [e, sumIf_plus]
    congr 1
    split
    · rfl
    · exact (fJ fun _ _ _ => rfl).symm
theorem ff {n : Nat} {s t : Nat → Bool} {f g : Nat → Rat} (h : ∀ i, i < n → (if s i = true then f i else 0) = (if t i = true then g i else 0)) : sumIf n s f = sumIf n t g := by
  induction n with
  | zero => rfl
  | succ n ih => rw [sumIf, sumIf, ih fun i hi => h i (by omega), h n (by omega)]
def tt : Nat → Bool := fun _ => true
/-- What is paid of each item to each claim; what is left of each item. -/
structure Fl (n m : Nat) (sec : Nat → Nat → Bool) (pr got : Nat → Rat) (P : Nat → Nat → Rat) (lf : Nat → Rat) : Prop where
  p0 : ∀ i, i < n → ∀ k, k < m → 0 ≤ P i k
  l0 : ∀ i, i < n → 0 ≤ lf i
  sc : ∀ i, i < n → ∀ k, k < m → sec i k = false → P i k = 0
  row : ∀ i, i < n → lf i + sumIf m tt (P i) = pr i
  col : ∀ k, k < m → sumIf n tt (fun i => P i k) = got k
/-- Items T that are used up and pay but claims of S, which have no other items. -/
theorem Fl.full {n m : Nat} {sec : Nat → Nat → Bool} {pr got : Nat → Rat} {P : Nat → Nat → Rat} {lf : Nat → Rat} (h : Fl n m sec pr got P lf) {S T : Nat → Bool}
    (hT : ∀ i, i < n → T i = true → ¬ 0 < lf i ∧ ∀ k, k < m → 0 < P i k → S k = true) (hS : ∀ k, k < m → S k = true → ∀ i, i < n → sec i k = true → T i = true) : sumIf m S got = sumIf n T pr := by
  have e1 : sumIf n T pr = sumIf n T fun i => sumIf m S (P i) := by
    refine ff fun i hi => ?_
    by_cases ht : T i = true
    · rw [if_pos ht, if_pos ht, ← h.row i hi]
      obtain ⟨g1, g2⟩ := hT i hi ht
      have l0 : lf i = 0 := by
        have := h.l0 i hi
        grind
      rw [l0, Rat.zero_add]
      refine ff fun k hk => ?_
      rw [if_pos (show tt k = true from rfl)]
      split
      · rfl
      · next hs =>
        have := h.p0 i hi k hk
        by_cases hp : 0 < P i k
        · exact absurd (g2 k hk hp) hs
        · grind
    · rw [if_neg ht, if_neg ht]
  rw [e1, sumIf_swap]
  refine ff fun k hk => ?_
  by_cases hs : S k = true
  · rw [if_pos hs, if_pos hs, ← h.col k hk]
    refine ff fun i hi => ?_
    rw [if_pos (show tt i = true from rfl)]
    split
    · rfl
    · next ht =>
      cases hsec : sec i k with
      | true => exact absurd (hS k hk hs i hi hsec) ht
      | false => exact h.sc i hi k hk hsec
  · rw [if_neg hs, if_neg hs]
def fi (X : List It) (i k : Nat) : Bool := cD (X.getD i zIt) k
def i6 (X : List It) (owed : List RR) (c : Nat) (want : Rat) (k : Nat) : Rat := if k < c then c8 X owed k else if k = c then c8 X owed c - want else 0
theorem Fl.way {X : List It} {owed : List RR} {c : Nat} {want : Rat} {P : Nat → Nat → Rat} {lf : Nat → Rat} (hp : Pos owed) (hc : c < owed.length) (hw : 0 < want) (h : Fl X.length owed.length (fi X) (prF X) (i6 X owed c want) P lf) {S T : Nat → Bool} (hSc : S c = true)
    (hT : ∀ i, i < X.length → T i = true → ¬ 0 < lf i ∧ ∀ k, k < owed.length → 0 < P i k → S k = true) (hS : ∀ k, k < owed.length → S k = true → ∀ i, i < X.length → fi X i k = true → T i = true) : False := by
  have hf := h.full hT hS
  have ha := sets_all (X := X) hp fun k => S k && decide (k ≤ c)
  have hm : gB T X.length < 2 ^ X.length := maskN_lt _ _
  have hq : dL X owed (fun k => S k && decide (k ≤ c)) ≤ cJ X owed (fun k => S k && decide (k ≤ c)) (gB T X.length) := gp _ _ _ (.inl hm)
  have e1 : cJ X owed (fun k => S k && decide (k ≤ c)) (gB T X.length) = sumIf X.length T (prF X) := by
    unfold cJ
    rw [c3 (p := fun i => (gB T X.length).testBit i) (q := T) (g := prF X) fun i hi => ⟨maskN_bit T hi, rfl⟩]
    have e0 : sumIf owed.length (fun k => (S k && decide (k ≤ c)) && cG X (gB T X.length) k) (owF owed) = 0 := by
      refine fJ fun k hk hs => ?_
      exfalso
      rw [Bool.and_eq_true, Bool.and_eq_true] at hs
      obtain ⟨i, hi, hb, hsec⟩ := (d5 _ _ _).1 hs.2
      rw [maskN_bit T hi] at hb
      rw [hS k hk hs.1.1 i hi hsec] at hb
      cases hb
    rw [e0, Rat.add_zero]
  have e2 : sumIf owed.length S (i6 X owed c want) = sumIf owed.length (fun k => S k && decide (k ≤ c)) (c8 X owed) - want := by
    have u := eY (n := owed.length) (p := fun k => S k && decide (k ≤ c)) (f := c8 X owed) (g := fun k => if k = c then c8 X owed c - want else c8 X owed k) hc fun i _ hne => if_neg hne
    rw [if_pos rfl, if_pos (by rw [hSc]; simp)] at u
    have v : sumIf owed.length S (i6 X owed c want) = sumIf owed.length (fun k => S k && decide (k ≤ c)) (fun k => if k = c then c8 X owed c - want else c8 X owed k) := by
      refine ff fun k _ => ?_
      unfold i6
      by_cases hs : S k = true
      · by_cases hk : k < c
        · rw [if_pos hs, if_pos hk, if_pos (by rw [hs]; simp; omega), if_neg (by omega)]
        · by_cases e : k = c
          · rw [if_pos hs, if_neg hk, if_pos e, if_pos (by rw [hs]; simp; omega), if_pos e]
          · rw [if_pos hs, if_neg hk, if_neg e, if_neg (by rw [hs]; simp; omega)]
      · rw [if_neg hs, if_neg (by simp [hs])]
    rw [v, u]; grind
  rw [e2] at hf
  rw [e1, ← hf] at hq
  grind
end Go.Proofs.YtmghobajmhdbfaaGreatDoor
