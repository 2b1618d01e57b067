/-
  Part 5 of the texts that the law's proof is made of: the framework and the walks.
-/
import Derived.Test.YtmghobajmhdbfaaGreatDoorPm4
namespace Go.Proofs.YtmghobajmhdbfaaGreatDoor
open Go Go.RowKit Go.Sx
theorem rdivide_ok (vx vy : Value) (X Y : Nat) (w : World) (hx : Sl (uk .u32) 1 w vx (aI X)) (hy : Sl (uk .u32) 1 w vy (aI Y)) (hY0 : 0 < Y) (hmx : (aI X).length ≤ 4398046511104) :
    Ret Tryz.prog 103 #[vx, vy] w fun r w' => (∃ q s, r = .tuple #[q, s] ∧ Sl (uk .u32) 1 w' q (aI (X / Y)) ∧ Sl (uk .u32) 1 w' s (aI (X % Y))) ∧ Below w.heap.size w w' := by
  have hB : B32 = 4294967296 := rfl
  have hS := St.init w
  obtain ⟨n, hn⟩ : ∃ n, n = (aI Y).length := ⟨_, rfl⟩
  have hYn : Y < B32 ^ n := hn ▸ ba Y
  obtain ⟨hn0, _⟩ := iw hY0
  rw [← hn] at hn0
  refine enter Tryz.func103 rfl Tryz.ntmps103 rfl ?_
  repeat (with_reducible first | apply ag | apply ac | apply af | apply ae | apply ab)
  refine aj ?_
  refine aa rfl (am  rfl ?_)
  refine aa rfl (am  rfl ?_)
  refine ai ?_
  repeat (with_reducible first | apply ag | apply ac | apply af | apply ae | apply ab)
  refine aj ?_
  refine aa rfl (ah  rfl ?_)
  refine aa rfl (ah  rfl ?_)
  refine ak rfl (av Tryz.call81 rfl (rorder_ok _ _ _ _ _ (hx.below hS.below) (hy.below hS.below)) ?_)
  rintro _ wc1 ⟨rfl, hBc1⟩
  replace hS := hS.grow hBc1
  refine aa rfl (aV  rfl rfl ?_)
  refine ai ?_
  repeat (with_reducible first | apply ag | apply ac | apply af | apply ae | apply ab)
  by_cases hlt : X < Y
  · refine aD rfl (decide_eq_true (by rw [eQ hlt]; decide)) ?_
    repeat (with_reducible first | apply ag | apply ac | apply af | apply ae | apply ab)
    refine aj ?_
    refine aa rfl (ah  rfl ?_)
    refine aa rfl (am  rfl ?_)
    refine aa rfl (am  rfl ?_)
    refine ai ?_
    repeat (with_reducible first | apply ag | apply ac | apply af | apply ae | apply ab)
    refine aE ?_
    repeat (with_reducible first | apply ap | apply ao)
    refine dw rfl rfl rfl ?_
    refine ⟨⟨_, _, rfl, ?_, ?_⟩, hS.below⟩
    · rw [Nat.div_eq_of_lt hlt, aI, cA]; exact Sl.nil _ _ _
    · rw [Nat.mod_eq_of_lt hlt]; exact hx.below hS.below
  · have hge : Y ≤ X := Nat.le_of_not_lt hlt
    have hcmp : ¬ eh X Y < 0 := by
      rcases Nat.lt_or_ge Y X with h | h
      · rw [eM h]; decide
      · rw [show X = Y by omega, fF]; decide
    refine aN rfl (decide_eq_false hcmp) ?_
    repeat (with_reducible first | apply ag | apply ac | apply af | apply ae | apply ab)
    refine aj ?_
    refine aa rfl (ah  rfl ?_)
    refine aa rfl (aG  rfl (hy.below hS.below) ⟨_, Tryz.underlying91⟩ ?_)
    refine aa rfl (c6  rfl rfl ?_)
    refine ai ?_
    repeat (with_reducible first | apply ag | apply ac | apply af | apply ae | apply ab)
    by_cases h1 : n = 1
    · refine aD rfl (decide_eq_true (by omega)) ?_
      repeat (with_reducible first | apply ag | apply ac | apply af | apply ae | apply ab)
      have hg : (aI Y).getD 0 0 = Y := by
        rw [bh, dgt, Nat.pow_zero, Nat.div_one]
        rw [h1, Nat.pow_one] at hYn
        exact Nat.mod_eq_of_lt hYn
      have hYl : Y ≤ 4294967295 := by rw [h1, Nat.pow_one] at hYn; omega
      repeat (with_reducible first | apply ag | apply ac | apply af | apply ae | apply ab)
      refine aj ?_
      refine aa rfl (ah  rfl ?_)
      refine aa rfl (ah  rfl ?_)
      refine aa rfl (aX (i := 0)  rfl rfl (hy.below hS.below) (by omega) (by first | omega | (simp; done) | (simp; omega)) bz ?_)
      refine aw rfl (a6 (i := 0) 0  rfl aY (hy.below hS.below) (by first | omega | (simp; done) | (simp; omega)) rfl rfl (.inr rfl) ?_)
      rw [hg]
      refine ak rfl (av Tryz.call113 rfl (rshort_ok _ _ _ _ (hx.below hS.below) hY0 hYl (by omega)) ?_)
      rintro r w2 ⟨⟨q, rfl, hq⟩, hB2⟩
      replace hS := hS.grow hB2
      refine aa rfl (ah  rfl ?_)
      refine aa rfl (bL  rfl rfl ?_)
      refine aa rfl (bL  rfl rfl ?_)
      refine aa rfl (am  rfl ?_)
      refine aa rfl (am  rfl ?_)
      refine ai ?_
      repeat (with_reducible first | apply ag | apply ac | apply af | apply ae | apply ab)
      have hml : X % Y ≤ 4294967295 := by have := Nat.mod_lt X hY0; omega
      repeat (with_reducible first | apply ag | apply ac | apply af | apply ae | apply ab)
      refine aj ?_
      refine aa rfl (ah  rfl ?_)
      refine aa rfl (ah  rfl ?_)
      refine ak rfl (dJ (vs := [_])  rfl bz rfl (by decide) (by decide) (by decide) (by simp [Value.cells]) rfl hS ?_)
      intro b2 wz3 hS hBz3
      have hq1 := hq.below hBz3
      have hsl := St.slk (L := [X % Y]) hS (k := 0) rfl (n := 1) (cap := 1) (by simp) (by omega) (by omega)
      refine ak rfl (av Tryz.call101 rfl (eo _ _ _ hsl (by intro d hd; rw [List.take_of_length_le (by simp)] at hd; rw [List.mem_singleton.1 hd]; omega)) ?_)
      rintro _ wq4 ⟨hv, hq4⟩
      replace hq4 := hq4.symm
      subst hq4
      refine aa rfl (am  rfl ?_)
      refine aa rfl (am  rfl ?_)
      refine ai ?_
      repeat (with_reducible first | apply ag | apply ac | apply af | apply ae | apply ab)
      refine aE ?_
      repeat (with_reducible first | apply ap | apply ao)
      refine dw rfl rfl rfl ?_
      refine ⟨⟨_, _, rfl, hq1, ?_⟩, hS.below⟩
      have e : bj B32 ([X % Y].take 1) = X % Y := by simp [bj]
      rwa [e] at hv
    · refine aN rfl (decide_eq_false (by omega)) ?_
      repeat (with_reducible first | apply ag | apply ac | apply af | apply ae | apply ab)
      refine aj ?_
      refine aa rfl (ah  rfl ?_)
      refine aa rfl (ah  rfl ?_)
      refine ak rfl (av Tryz.call114 rfl (rlong_ok _ _ _ _ _ (hx.below hS.below) (hy.below hS.below) hge (by omega) hmx) ?_)
      rintro r w2 ⟨⟨q, s, rfl, hq, hs⟩, hB2⟩
      replace hS := hS.grow hB2
      refine aa rfl (bL  rfl rfl ?_)
      refine aa rfl (bL  rfl rfl ?_)
      refine aa rfl (am  rfl ?_)
      refine aa rfl (am  rfl ?_)
      refine ai ?_
      repeat (with_reducible first | apply ag | apply ac | apply af | apply ae | apply ab)
      refine aE ?_
      repeat (with_reducible first | apply ap | apply ao)
      refine dw rfl rfl rfl ?_
      exact ⟨⟨_, _, rfl, hq, hs⟩, hS.below⟩
theorem rcommon_ok (vx vy : Value) (A B : Nat) (w : World) (hx : Sl (uk .u32) 1 w vx (aI A)) (hy : Sl (uk .u32) 1 w vy (aI B)) (hmx : (aI A).length ≤ 4398046511104) (hmy : (aI B).length ≤ 4398046511104) :
    Ret Tryz.prog 102 #[vx, vy] w fun r w' => Sl (uk .u32) 1 w' r (aI (Nat.gcd A B)) ∧ Below w.heap.size w w' := by
  have hS := St.init w
  refine enter Tryz.func102 rfl Tryz.ntmps102 rfl ?_
  repeat (with_reducible first | apply ag | apply ac | apply af | apply ae | apply ab)
  refine aj ?_
  refine aa rfl (am  rfl ?_)
  refine ai ?_
  repeat (with_reducible first | apply ag | apply ac | apply af | apply ae | apply ab)
  refine a5 (σ := Nat × Nat) (fun s ρ w' => Nat.gcd s.1 s.2 = Nat.gcd A B ∧ (aI s.1).length ≤ 4398046511104 ∧ (aI s.2).length ≤ 4398046511104 ∧ (∃ vx vy, ρ 0 = vx ∧ ρ 1 = vy ∧ Sl (uk .u32) 1 w' vx (aI s.1) ∧ Sl (uk .u32) 1 w' vy (aI s.2)) ∧ St w w' []) (fun s => s.2) (A, B)
    ⟨rfl, hmx, hmy, ⟨_, _, rfl, rfl, hx, hy⟩, hS⟩ ?_
  clear hS hx hy
  rintro ⟨X, Y⟩ ρ w3 ⟨hg, hX, hY, ⟨vx, vy, h0, h1, hx, hy⟩, hS⟩
  simp only at hg hX hY hx hy
  repeat (with_reducible first | apply ag | apply ac | apply af | apply ae | apply ab)
  refine aj ?_
  refine aa rfl (ah  h1 ?_)
  refine aa rfl (aG  rfl hy ⟨_, Tryz.underlying91⟩ ?_)
  refine aa rfl (cf  rfl rfl ?_)
  refine ai ?_
  repeat (with_reducible first | apply ag | apply ac | apply af | apply ae | apply ab)
  have hyn : (aI Y).length = 0 ↔ Y = 0 := limb_nil_iff
  by_cases hY0 : Y = 0
  · refine aN rfl (decide_eq_false (by omega)) ?_
    repeat (with_reducible first | apply ag | apply ac | apply af | apply ae | apply ab)
    refine aU ?_
    repeat (with_reducible first | apply aA | apply az | refine ay rfl ?_)
    repeat (with_reducible first | apply ag | apply ac | apply af | apply ae | apply ab)
    refine aj ?_
    refine aa rfl (ah  h0 ?_)
    refine aa rfl (am  rfl ?_)
    refine ai ?_
    repeat (with_reducible first | apply ag | apply ac | apply af | apply ae | apply ab)
    refine aE ?_
    repeat (with_reducible first | apply ap | apply ao)
    refine aR rfl rfl ?_
    rw [hY0, Nat.gcd_zero_right] at hg
    rw [← hg]
    exact ⟨hx, hS.below⟩
  · refine aD rfl (decide_eq_true (by omega)) ?_
    repeat (with_reducible first | apply ag | apply ac | apply af | apply ae | apply ab)
    have hlt : X % Y < Y := Nat.mod_lt _ (by omega)
    have hls := cp (Nat.le_of_lt hlt)
    repeat (with_reducible first | apply ag | apply ac | apply af | apply ae | apply ab)
    refine aj ?_
    refine aa rfl (ah  h0 ?_)
    refine aa rfl (ah  h1 ?_)
    refine ak rfl (av Tryz.call103 rfl (rdivide_ok _ _ _ _ _ hx hy (by omega) (by omega)) ?_)
    rintro r w4 ⟨⟨q, s, rfl, hq, hs⟩, hB4⟩
    refine aa rfl (ah  rfl ?_)
    refine aa rfl (bL  rfl rfl ?_)
    refine aa rfl (bL  rfl rfl ?_)
    refine aa rfl (am  rfl ?_)
    refine aa rfl (am  rfl ?_)
    refine ai ?_
    repeat (with_reducible first | apply ag | apply ac | apply af | apply ae | apply ab)
    refine aj ?_
    refine aa rfl (ah  h1 ?_)
    refine aa rfl (am  rfl ?_)
    refine ai ?_
    repeat (with_reducible first | apply ag | apply ac | apply af | apply ae | apply ab)
    refine aj ?_
    refine aa rfl (ah  rfl ?_)
    refine aa rfl (am  rfl ?_)
    refine ai ?_
    repeat (with_reducible first | apply ag | apply ac | apply af | apply ae | apply ab)
    refine ⟨(Y, X % Y), _, rfl, ⟨?_, hY, by simp only; omega, ⟨vy, s, rfl, rfl, hy.below hB4, hs⟩, hS.grow hB4⟩, hlt⟩
    simp only
    rw [← hg, Nat.gcd_comm Y, ← Nat.gcd_rec, Nat.gcd_comm]
theorem rGCD_ok (a b : ByteArray) (w : World) (ha : a.size ≤ 4398046511104) (hb : b.size ≤ 4398046511104) :
    Ret Tryz.prog 100 #[.string a, .string b] w fun r w' => r = .string (aT (Nat.gcd (val a) (val b))) ∧ Below w.heap.size w w' := by
  have hla := cd a
  have hlb := cd b
  have hS := St.init w
  refine enter Tryz.func100 rfl Tryz.ntmps100 rfl ?_
  repeat (with_reducible first | apply ag | apply ac | apply af | apply ae | apply ab)
  refine aj ?_
  refine aa rfl (am  rfl ?_)
  refine ai ?_
  repeat (with_reducible first | apply ag | apply ac | apply af | apply ae | apply ab)
  refine aj ?_
  refine aa rfl (ah  rfl ?_)
  refine ak rfl (av Tryz.call78 rfl (fH _ _ (by omega)) ?_)
  rintro vx w1 ⟨hx, hB1⟩
  replace hS := hS.grow hB1
  refine aa rfl (ah  rfl ?_)
  refine ak rfl (av Tryz.call78 rfl (fH _ _ (by omega)) ?_)
  rintro vy w2 ⟨hy, hB2⟩
  replace hS := hS.grow hB2
  refine ak rfl (av Tryz.call102 rfl (rcommon_ok _ _ _ _ _ (hx.below hB2) hy (by omega) (by omega)) ?_)
  rintro vg w3 ⟨hg, hB3⟩
  replace hS := hS.grow hB3
  have hgl : (aI (Nat.gcd (val a) (val b))).length ≤ 8796093022208 := by
    rcases Nat.eq_zero_or_pos (val a) with h | h
    · rw [h, Nat.gcd_zero_left]; omega
    · have := cp (Nat.gcd_le_left (val b) h); omega
  refine ak rfl (av Tryz.call104 rfl (rtext_ok _ _ _ hg (fV _) (by omega)) ?_)
  rintro r w4 ⟨rfl, hB4⟩
  replace hS := hS.grow hB4
  refine aa rfl (am  rfl ?_)
  refine ai ?_
  repeat (with_reducible first | apply ag | apply ac | apply af | apply ae | apply ab)
  refine aE ?_
  repeat (with_reducible first | apply ap | apply ao)
  refine aR rfl rfl ?_
  rw [dA]
  exact ⟨rfl, hS.below⟩
theorem rValid_ok (r : RR) (w : World) (hr : Lr r ≤ MX) :
    Ret Tryz.prog 75 #[bE r] w fun v w' => v = .bool (decide (Vld r)) ∧ Below w.heap.size w w' := by
  have hM : MX = 1099511627776 := rfl
  have hn := num_size_le r
  have hd := den_size_le r
  have hV := Vld_iff r
  have hS := St.init w
  refine enter Tryz.func75 rfl Tryz.ntmps75 rfl ?_
  repeat (with_reducible first | apply ag | apply ac | apply af | apply ae | apply ab)
  refine aj ?_
  refine ak rfl (bX (new := aC r)  rfl rfl hS ?_)
  intro b1 wz2 hS hBz2
  refine aa rfl (am  rfl ?_)
  refine ai ?_
  repeat (with_reducible first | apply ag | apply ac | apply af | apply ae | apply ab)
  by_cases h1 : aT (val r.num) = r.num
  · by_cases h2 : aT (val r.den) = r.den
    · by_cases h5 : r.den = ⟨#[1]⟩
      · repeat (with_reducible first | apply ag | apply ac | apply af | apply ae | apply ab)
        refine bm [(0, .pure), (1, .read), (3, .pure), (4, .read), (2, .grow), (5, .pure), (6, .pure), (7, .pure), (8, .read), (10, .pure), (11, .read), (9, .grow), (12, .pure), (13, .pure), (14, .pure), (15, .pure), (16, .read), (17, .pure), (18, .pure)] (by kernel_rfl) (by kernel_rfl) hS ?_
        intro wz3 hS hBz3
        refine al rfl rfl (aH  rfl bM ?_)
        refine aF rfl rfl (aB (k := 0)  rfl cg hS rfl rfl rfl (.inr rfl) ?_)
        refine al rfl rfl (aH  rfl bM ?_)
        refine aF rfl rfl (aB (k := 0)  rfl cg hS rfl rfl rfl (.inr rfl) ?_)
        refine aS rfl rfl (av Tryz.call99 rfl (cC _ _ (show r.num.size ≤ _ by omega)) ?_)
        rintro _ wq4 ⟨rfl, hq4⟩
        replace hq4 := hq4.symm
        subst hq4
        refine ⟨Below.refl _ _, ?_⟩
        refine al rfl rfl (d4  rfl rfl ?_)
        refine al rfl rfl (ah  rfl ?_)
        refine al rfl (ar 9 (by kernel_rfl) rfl (decide_eq_false (by exact not_not_intro h1))) (aH  rfl bO ?_)
        refine aF rfl (ar 9 (by kernel_rfl) rfl (decide_eq_false (by exact not_not_intro h1))) (aB (k := 0)  rfl cg hS rfl rfl rfl (.inr rfl) ?_)
        refine al rfl (ar 9 (by kernel_rfl) rfl (decide_eq_false (by exact not_not_intro h1))) (aH  rfl bO ?_)
        refine aF rfl (ar 9 (by kernel_rfl) rfl (decide_eq_false (by exact not_not_intro h1))) (aB (k := 0)  rfl cg hS rfl rfl rfl (.inr rfl) ?_)
        refine aS rfl (ar 9 (by kernel_rfl) rfl (decide_eq_false (not_not_intro h1))) (av Tryz.call99 rfl (cC _ _ (show r.den.size ≤ _ by omega)) ?_)
        rintro _ wq5 ⟨rfl, hq5⟩
        replace hq5 := hq5.symm
        subst hq5
        refine ⟨Below.refl _ _, ?_⟩
        refine al rfl (ar 9 (by kernel_rfl) rfl (decide_eq_false (by exact not_not_intro h1))) (d4  rfl rfl ?_)
        refine al rfl rfl (aJ (vb rfl (decide_eq_false (by exact not_not_intro h1))) rfl ?_)
        refine al rfl rfl (ah  rfl ?_)
        refine al rfl (ar 17 (by kernel_rfl) rfl (decide_eq_false (by exact not_not_intro h2))) (aH  rfl bO ?_)
        refine aF rfl (ar 17 (by kernel_rfl) rfl (decide_eq_false (by exact not_not_intro h2))) (aB (k := 0)  rfl cg hS rfl rfl rfl (.inr rfl) ?_)
        refine al rfl (ar 17 (by kernel_rfl) rfl (decide_eq_false (by exact not_not_intro h2))) (du  rfl rfl ?_)
        refine al rfl rfl (aJ (vb rfl (decide_eq_false (by exact not_not_intro h2))) rfl ?_)
        refine bC ?_
        repeat (with_reducible first | apply ag | apply ac | apply af | apply ae | apply ab)
        refine aD rfl (decide_eq_true h5) ?_
        repeat (with_reducible first | apply ag | apply ac | apply af | apply ae | apply ab)
        refine aj ?_
        refine aa rfl (am  rfl ?_)
        refine ai ?_
        repeat (with_reducible first | apply ag | apply ac | apply af | apply ae | apply ab)
        refine aE ?_
        repeat (with_reducible first | apply ap | apply ao)
        refine aR rfl rfl ?_
        refine ⟨congrArg Value.bool ?_, hS.below⟩
        symm; rw [decide_eq_false_iff_not, hV]
        intro h
        by_cases h3 : r.num = ⟨#[]⟩
        · have := (h.2.2.1 h3).2; rw [h5] at this; cases this
        · exact (h.2.2.2 h3).elim (fun g => by rw [h5] at g; cases g) (fun g => g.1 h5)
      · repeat (with_reducible first | apply ag | apply ac | apply af | apply ae | apply ab)
        refine bm [(0, .pure), (1, .read), (3, .pure), (4, .read), (2, .grow), (5, .pure), (6, .pure), (7, .pure), (8, .read), (10, .pure), (11, .read), (9, .grow), (12, .pure), (13, .pure), (14, .pure), (15, .pure), (16, .read), (17, .pure), (18, .pure)] (by kernel_rfl) (by kernel_rfl) hS ?_
        intro wz6 hS hBz6
        refine al rfl rfl (aH  rfl bM ?_)
        refine aF rfl rfl (aB (k := 0)  rfl cg hS rfl rfl rfl (.inr rfl) ?_)
        refine al rfl rfl (aH  rfl bM ?_)
        refine aF rfl rfl (aB (k := 0)  rfl cg hS rfl rfl rfl (.inr rfl) ?_)
        refine aS rfl rfl (av Tryz.call99 rfl (cC _ _ (show r.num.size ≤ _ by omega)) ?_)
        rintro _ wq7 ⟨rfl, hq7⟩
        replace hq7 := hq7.symm
        subst hq7
        refine ⟨Below.refl _ _, ?_⟩
        refine al rfl rfl (d4  rfl rfl ?_)
        refine al rfl rfl (ah  rfl ?_)
        refine al rfl (ar 9 (by kernel_rfl) rfl (decide_eq_false (by exact not_not_intro h1))) (aH  rfl bO ?_)
        refine aF rfl (ar 9 (by kernel_rfl) rfl (decide_eq_false (by exact not_not_intro h1))) (aB (k := 0)  rfl cg hS rfl rfl rfl (.inr rfl) ?_)
        refine al rfl (ar 9 (by kernel_rfl) rfl (decide_eq_false (by exact not_not_intro h1))) (aH  rfl bO ?_)
        refine aF rfl (ar 9 (by kernel_rfl) rfl (decide_eq_false (by exact not_not_intro h1))) (aB (k := 0)  rfl cg hS rfl rfl rfl (.inr rfl) ?_)
        refine aS rfl (ar 9 (by kernel_rfl) rfl (decide_eq_false (not_not_intro h1))) (av Tryz.call99 rfl (cC _ _ (show r.den.size ≤ _ by omega)) ?_)
        rintro _ wq8 ⟨rfl, hq8⟩
        replace hq8 := hq8.symm
        subst hq8
        refine ⟨Below.refl _ _, ?_⟩
        refine al rfl (ar 9 (by kernel_rfl) rfl (decide_eq_false (by exact not_not_intro h1))) (d4  rfl rfl ?_)
        refine al rfl rfl (aJ (vb rfl (decide_eq_false (by exact not_not_intro h1))) rfl ?_)
        refine al rfl rfl (ah  rfl ?_)
        refine al rfl (ar 17 (by kernel_rfl) rfl (decide_eq_false (by exact not_not_intro h2))) (aH  rfl bO ?_)
        refine aF rfl (ar 17 (by kernel_rfl) rfl (decide_eq_false (by exact not_not_intro h2))) (aB (k := 0)  rfl cg hS rfl rfl rfl (.inr rfl) ?_)
        refine al rfl (ar 17 (by kernel_rfl) rfl (decide_eq_false (by exact not_not_intro h2))) (du  rfl rfl ?_)
        refine al rfl rfl (aJ (vb rfl (decide_eq_false (by exact not_not_intro h2))) rfl ?_)
        refine bC ?_
        repeat (with_reducible first | apply ag | apply ac | apply af | apply ae | apply ab)
        refine aN rfl (decide_eq_false h5) ?_
        repeat (with_reducible first | apply ag | apply ac | apply af | apply ae | apply ab)
        refine aj ?_
        refine aa rfl (aH  rfl bM ?_)
        refine aw rfl (aB (k := 0)  rfl cg hS rfl rfl rfl (.inr rfl) ?_)
        refine aa rfl (du  rfl rfl ?_)
        refine ai ?_
        repeat (with_reducible first | apply ag | apply ac | apply af | apply ae | apply ab)
        by_cases h3 : r.num = ⟨#[]⟩
        · refine aD rfl (decide_eq_true h3) ?_
          repeat (with_reducible first | apply ag | apply ac | apply af | apply ae | apply ab)
          by_cases h4 : r.neg = false
          · repeat (with_reducible first | apply ag | apply ac | apply af | apply ae | apply ab)
            refine aj ?_
            refine aa rfl (aH  rfl cn ?_)
            refine aw rfl (aB (k := 0)  rfl dq hS rfl rfl rfl (.inr rfl) ?_)
            refine aa rfl (dX  rfl ?_)
            refine aa rfl (ah  rfl ?_)
            refine aa (ar 28 (by kernel_rfl) rfl (by show (!r.neg) = true; rw [h4]; rfl)) (aH  rfl bO ?_)
            refine aw (ar 28 (by kernel_rfl) rfl (by show (!r.neg) = true; rw [h4]; rfl)) (aB (k := 0)  rfl cg hS rfl rfl rfl (.inr rfl) ?_)
            refine aa (ar 28 (by kernel_rfl) rfl (by show (!r.neg) = true; rw [h4]; rfl)) (du  rfl rfl ?_)
            refine aa rfl (aJ (vb rfl (by show (!r.neg) = true; rw [h4]; rfl)) rfl ?_)
            refine aa rfl (am  rfl ?_)
            refine ai ?_
            repeat (with_reducible first | apply ag | apply ac | apply af | apply ae | apply ab)
            refine aE ?_
            repeat (with_reducible first | apply ap | apply ao)
            refine aR rfl rfl ?_
            refine ⟨congrArg Value.bool ?_, hS.below⟩
            rw [decide_eq_decide, hV]
            exact ⟨fun h => ⟨h1, h2, fun _ => ⟨h4, h⟩, fun h => absurd h3 h⟩, fun h => (h.2.2.1 h3).2⟩
          · repeat (with_reducible first | apply ag | apply ac | apply af | apply ae | apply ab)
            refine aj ?_
            refine aa rfl (aH  rfl cn ?_)
            refine aw rfl (aB (k := 0)  rfl dq hS rfl rfl rfl (.inr rfl) ?_)
            refine aa rfl (dX  rfl ?_)
            refine aa rfl (ah  rfl ?_)
            refine aW (au 28 (by kernel_rfl) rfl (by show (!r.neg) = false; rw [Bool.not_eq_false] at h4; rw [h4]; rfl)) ?_
            refine aW (au 28 (by kernel_rfl) rfl (by show (!r.neg) = false; rw [Bool.not_eq_false] at h4; rw [h4]; rfl)) ?_
            refine aW (au 28 (by kernel_rfl) rfl (by show (!r.neg) = false; rw [Bool.not_eq_false] at h4; rw [h4]; rfl)) ?_
            refine aa rfl (aJ (vb rfl (by show (!r.neg) = false; rw [Bool.not_eq_false] at h4; rw [h4]; rfl)) rfl ?_)
            refine aa rfl (am  rfl ?_)
            refine ai ?_
            repeat (with_reducible first | apply ag | apply ac | apply af | apply ae | apply ab)
            refine aE ?_
            repeat (with_reducible first | apply ap | apply ao)
            refine aR rfl rfl ?_
            refine ⟨congrArg Value.bool ?_, hS.below⟩
            symm; rw [decide_eq_false_iff_not, hV]
            exact fun h => h4 (h.2.2.1 h3).1
        · refine aN rfl (decide_eq_false h3) ?_
          repeat (with_reducible first | apply ag | apply ac | apply af | apply ae | apply ab)
          by_cases h4 : r.den = ⟨#[]⟩
          · repeat (with_reducible first | apply ag | apply ac | apply af | apply ae | apply ab)
            refine aj ?_
            refine aa rfl (aH  rfl bO ?_)
            refine aw rfl (aB (k := 0)  rfl cg hS rfl rfl rfl (.inr rfl) ?_)
            refine aa rfl (du  rfl rfl ?_)
            refine aa rfl (ah  rfl ?_)
            refine aW (au 36 (by kernel_rfl) rfl (decide_eq_true h4)) ?_
            refine aW (au 36 (by kernel_rfl) rfl (decide_eq_true h4)) ?_
            refine aW (au 36 (by kernel_rfl) rfl (decide_eq_true h4)) ?_
            refine aW (au 36 (by kernel_rfl) rfl (decide_eq_true h4)) ?_
            refine aW (au 36 (by kernel_rfl) rfl (decide_eq_true h4)) ?_
            refine aW (au 36 (by kernel_rfl) rfl (decide_eq_true h4)) ?_
            refine aa rfl (aJ (vb rfl (decide_eq_true h4)) rfl ?_)
            refine aa rfl (am  rfl ?_)
            refine ai ?_
            repeat (with_reducible first | apply ag | apply ac | apply af | apply ae | apply ab)
            refine aE ?_
            repeat (with_reducible first | apply ap | apply ao)
            refine aR rfl rfl ?_
            refine ⟨congrArg Value.bool ?_, hS.below⟩
            symm; rw [decide_eq_true_iff, hV]
            exact ⟨h1, h2, fun h => absurd h h3, fun _ => .inl h4⟩
          · repeat (with_reducible first | apply ag | apply ac | apply af | apply ae | apply ab)
            refine aj ?_
            refine aa rfl (aH  rfl bO ?_)
            refine aw rfl (aB (k := 0)  rfl cg hS rfl rfl rfl (.inr rfl) ?_)
            refine aa rfl (du  rfl rfl ?_)
            refine aa rfl (ah  rfl ?_)
            refine aa (ar 36 (by kernel_rfl) rfl (decide_eq_false h4)) (aH  rfl bM ?_)
            refine aw (ar 36 (by kernel_rfl) rfl (decide_eq_false h4)) (aB (k := 0)  rfl cg hS rfl rfl rfl (.inr rfl) ?_)
            refine aa (ar 36 (by kernel_rfl) rfl (decide_eq_false h4)) (aH  rfl bO ?_)
            refine aw (ar 36 (by kernel_rfl) rfl (decide_eq_false h4)) (aB (k := 0)  rfl cg hS rfl rfl rfl (.inr rfl) ?_)
            refine ak (ar 36 (by kernel_rfl) rfl (decide_eq_false h4)) (av Tryz.call100 rfl (rGCD_ok _ _ _ (show r.num.size ≤ _ by omega) (show r.den.size ≤ _ by omega)) ?_)
            rintro _ wc9 ⟨rfl, hBc9⟩
            replace hS := hS.grow hBc9
            refine aa (ar 36 (by kernel_rfl) rfl (decide_eq_false h4)) (du  rfl rfl ?_)
            refine aa rfl (aJ (vb rfl (decide_eq_false h4)) rfl ?_)
            refine aa rfl (am  rfl ?_)
            refine ai ?_
            repeat (with_reducible first | apply ag | apply ac | apply af | apply ae | apply ab)
            refine aE ?_
            repeat (with_reducible first | apply ap | apply ao)
            refine aR rfl rfl ?_
            refine ⟨congrArg Value.bool ?_, hS.below⟩
            rw [decide_eq_decide, hV, one_eq]
            exact ⟨fun h => ⟨h1, h2, fun h => absurd h h3, fun _ => .inr ⟨h5, h⟩⟩, fun h => (h.2.2.2 h3).elim (fun g => absurd g h4) (fun g => g.2)⟩
    · repeat (with_reducible first | apply ag | apply ac | apply af | apply ae | apply ab)
      refine bm [(0, .pure), (1, .read), (3, .pure), (4, .read), (2, .grow), (5, .pure), (6, .pure), (7, .pure), (8, .read), (10, .pure), (11, .read), (9, .grow), (12, .pure), (13, .pure), (14, .pure), (15, .pure), (16, .read), (17, .pure), (18, .pure)] (by kernel_rfl) (by kernel_rfl) hS ?_
      intro wz10 hS hBz10
      refine al rfl rfl (aH  rfl bM ?_)
      refine aF rfl rfl (aB (k := 0)  rfl cg hS rfl rfl rfl (.inr rfl) ?_)
      refine al rfl rfl (aH  rfl bM ?_)
      refine aF rfl rfl (aB (k := 0)  rfl cg hS rfl rfl rfl (.inr rfl) ?_)
      refine aS rfl rfl (av Tryz.call99 rfl (cC _ _ (show r.num.size ≤ _ by omega)) ?_)
      rintro _ wq11 ⟨rfl, hq11⟩
      replace hq11 := hq11.symm
      subst hq11
      refine ⟨Below.refl _ _, ?_⟩
      refine al rfl rfl (d4  rfl rfl ?_)
      refine al rfl rfl (ah  rfl ?_)
      refine al rfl (ar 9 (by kernel_rfl) rfl (decide_eq_false (by exact not_not_intro h1))) (aH  rfl bO ?_)
      refine aF rfl (ar 9 (by kernel_rfl) rfl (decide_eq_false (by exact not_not_intro h1))) (aB (k := 0)  rfl cg hS rfl rfl rfl (.inr rfl) ?_)
      refine al rfl (ar 9 (by kernel_rfl) rfl (decide_eq_false (by exact not_not_intro h1))) (aH  rfl bO ?_)
      refine aF rfl (ar 9 (by kernel_rfl) rfl (decide_eq_false (by exact not_not_intro h1))) (aB (k := 0)  rfl cg hS rfl rfl rfl (.inr rfl) ?_)
      refine aS rfl (ar 9 (by kernel_rfl) rfl (decide_eq_false (not_not_intro h1))) (av Tryz.call99 rfl (cC _ _ (show r.den.size ≤ _ by omega)) ?_)
      rintro _ wq12 ⟨rfl, hq12⟩
      replace hq12 := hq12.symm
      subst hq12
      refine ⟨Below.refl _ _, ?_⟩
      refine al rfl (ar 9 (by kernel_rfl) rfl (decide_eq_false (by exact not_not_intro h1))) (d4  rfl rfl ?_)
      refine al rfl rfl (aJ (vb rfl (decide_eq_false (by exact not_not_intro h1))) rfl ?_)
      refine al rfl rfl (ah  rfl ?_)
      refine bW rfl (au 17 (by kernel_rfl) rfl (decide_eq_true h2)) ?_
      refine bW rfl (au 17 (by kernel_rfl) rfl (decide_eq_true h2)) ?_
      refine bW rfl (au 17 (by kernel_rfl) rfl (decide_eq_true h2)) ?_
      refine al rfl rfl (aJ (vb rfl (decide_eq_true h2)) rfl ?_)
      refine bC ?_
      repeat (with_reducible first | apply ag | apply ac | apply af | apply ae | apply ab)
      refine aD rfl (rfl) ?_
      repeat (with_reducible first | apply ag | apply ac | apply af | apply ae | apply ab)
      refine aj ?_
      refine aa rfl (am  rfl ?_)
      refine ai ?_
      repeat (with_reducible first | apply ag | apply ac | apply af | apply ae | apply ab)
      refine aE ?_
      repeat (with_reducible first | apply ap | apply ao)
      refine aR rfl rfl ?_
      refine ⟨congrArg Value.bool ?_, hS.below⟩
      symm; rw [decide_eq_false_iff_not, hV]
      exact fun h => h2 h.2.1
  · repeat (with_reducible first | apply ag | apply ac | apply af | apply ae | apply ab)
    refine bm [(0, .pure), (1, .read), (3, .pure), (4, .read), (2, .grow), (5, .pure), (6, .pure), (7, .pure), (8, .read), (10, .pure), (11, .read), (9, .grow), (12, .pure), (13, .pure), (14, .pure), (15, .pure), (16, .read), (17, .pure), (18, .pure)] (by kernel_rfl) (by kernel_rfl) hS ?_
    intro wz13 hS hBz13
    refine al rfl rfl (aH  rfl bM ?_)
    refine aF rfl rfl (aB (k := 0)  rfl cg hS rfl rfl rfl (.inr rfl) ?_)
    refine al rfl rfl (aH  rfl bM ?_)
    refine aF rfl rfl (aB (k := 0)  rfl cg hS rfl rfl rfl (.inr rfl) ?_)
    refine aS rfl rfl (av Tryz.call99 rfl (cC _ _ (show r.num.size ≤ _ by omega)) ?_)
    rintro _ wq14 ⟨rfl, hq14⟩
    replace hq14 := hq14.symm
    subst hq14
    refine ⟨Below.refl _ _, ?_⟩
    refine al rfl rfl (d4  rfl rfl ?_)
    refine al rfl rfl (ah  rfl ?_)
    refine bW rfl (au 9 (by kernel_rfl) rfl (decide_eq_true h1)) ?_
    refine bW rfl (au 9 (by kernel_rfl) rfl (decide_eq_true h1)) ?_
    refine bW rfl (au 9 (by kernel_rfl) rfl (decide_eq_true h1)) ?_
    refine bW rfl (au 9 (by kernel_rfl) rfl (decide_eq_true h1)) ?_
    refine bW rfl (au 9 (by kernel_rfl) rfl (decide_eq_true h1)) ?_
    refine bW rfl (au 9 (by kernel_rfl) rfl (decide_eq_true h1)) ?_
    refine al rfl rfl (aJ (vb rfl (decide_eq_true h1)) rfl ?_)
    refine al rfl rfl (ah  rfl ?_)
    refine bW rfl (au 17 (by kernel_rfl) rfl rfl) ?_
    refine bW rfl (au 17 (by kernel_rfl) rfl rfl) ?_
    refine bW rfl (au 17 (by kernel_rfl) rfl rfl) ?_
    refine al rfl rfl (aJ (vb rfl rfl) rfl ?_)
    refine bC ?_
    repeat (with_reducible first | apply ag | apply ac | apply af | apply ae | apply ab)
    refine aD rfl (rfl) ?_
    repeat (with_reducible first | apply ag | apply ac | apply af | apply ae | apply ab)
    refine aj ?_
    refine aa rfl (am  rfl ?_)
    refine ai ?_
    repeat (with_reducible first | apply ag | apply ac | apply af | apply ae | apply ab)
    refine aE ?_
    repeat (with_reducible first | apply ap | apply ao)
    refine aR rfl rfl ?_
    refine ⟨congrArg Value.bool ?_, hS.below⟩
    symm; rw [decide_eq_false_iff_not, hV]
    exact fun h => h1 h.1
theorem iE (r : RR) (w : World) (hr : Lr r ≤ MX) :
    Ret Tryz.prog 49 #[bE r] w fun v w' => v = bE (fx r) ∧ Below w.heap.size w w' := by
  have hS := St.init w
  refine enter Tryz.func49 rfl Tryz.ntmps49 rfl ?_
  repeat (with_reducible first | apply ag | apply ac | apply af | apply ae | apply ab)
  refine aj ?_
  refine ak rfl (bX (new := aC r)  rfl rfl hS ?_)
  intro b1 wz2 hS hBz2
  refine ak rfl (aZ  ax hS ?_)
  intro b3 wz4 hS hBz4
  refine ai ?_
  repeat (with_reducible first | apply ag | apply ac | apply af | apply ae | apply ab)
  refine aj ?_
  refine aw rfl (aB (k := 1)  rfl ax hS rfl rfl rfl (.inl rfl) ?_)
  refine ak rfl (av Tryz.call75 rfl (rValid_ok r _ hr) ?_)
  rintro _ wc5 ⟨rfl, hBc5⟩
  replace hS := hS.grow hBc5
  refine ai ?_
  repeat (with_reducible first | apply ag | apply ac | apply af | apply ae | apply ab)
  by_cases h : Vld r
  · refine aD rfl (decide_eq_true h) ?_
    repeat (with_reducible first | apply ag | apply ac | apply af | apply ae | apply ab)
    refine aj ?_
    refine aw rfl (aB (k := 1)  rfl ax hS rfl rfl rfl (.inl rfl) ?_)
    refine ak rfl (a8 (k := 0)  rfl rfl ax hS rfl rfl rfl (Nat.le_of_ble_eq_true rfl) rfl ?_)
    intro wz6 hS
    refine ai ?_
    repeat (with_reducible first | apply ag | apply ac | apply af | apply ae | apply ab)
    refine aE ?_
    repeat (with_reducible first | apply ap | apply ao)
    refine bN (k := 0) rfl rfl ax hS rfl rfl ?_
    rw [fx_vld h]
    exact ⟨rfl, hS.below⟩
  · refine aN rfl (decide_eq_false h) ?_
    repeat (with_reducible first | apply ag | apply ac | apply af | apply ae | apply ab)
    refine aj ?_
    refine aa rfl (ce  rfl eJ ?_)
    refine ak rfl (a8 (k := 0)  rfl rfl ax hS rfl rfl rfl (Nat.le_of_ble_eq_true rfl) rfl ?_)
    intro wz7 hS
    refine ai ?_
    repeat (with_reducible first | apply ag | apply ac | apply af | apply ae | apply ab)
    refine aE ?_
    repeat (with_reducible first | apply ap | apply ao)
    refine bN (k := 0) rfl rfl ax hS rfl rfl ?_
    rw [fx_bad h]
    exact ⟨rfl, hS.below⟩
end Go.Proofs.YtmghobajmhdbfaaGreatDoor
namespace Go.Proofs.YtmghobajmhdbfaaGreatDoor
open Go Go.RowKit Go.Sx
theorem ck (n : Nat) : (aI n).length ≤ (aT n).size := by
  have := limb_len_natS n
  omega
theorem limb_one : aI 1 = [1] := by unfold aI; rw [fI (by decide) (by decide), show 1 / B32 = 0 from rfl, cA]; rfl
theorem limb_get0 {g : Nat} (h : ¬ 1 < (aI g).length) (hg : 0 < g) : (aI g).length = 1 ∧ (aI g).getD 0 0 = g := by
  have h1 := (iw hg).1
  have h2 : (aI g).length = 1 := by omega
  have h3 := ba g
  rw [h2, Nat.pow_one] at h3
  refine ⟨h2, ?_⟩
  rw [bh, dgt, Nat.pow_zero, Nat.div_one, Nat.mod_eq_of_lt h3]
theorem limb_big_ne {g : Nat} (h : 1 < (aI g).length) : g ≠ 1 := by
  rintro rfl
  rw [limb_one] at h; exact absurd h (by decide)
theorem rden_ok (q : Rat) (w : World) (hL : L q ≤ MX) :
    Ret Tryz.prog 76 #[bE (ofQ q)] w fun v w' => Sl (uk .u32) 1 w' v (aI q.den) ∧ Below w.heap.size w w' := by
  have hM : MX = 1099511627776 := rfl
  have hS := St.init w
  have hq := den_eq q
  have hd := gF q
  refine enter Tryz.func76 rfl Tryz.ntmps76 rfl ?_
  repeat (with_reducible first | apply ag | apply ac | apply af | apply ae | apply ab)
  refine aj ?_
  refine ak rfl (bX (new := aC (ofQ q))  rfl rfl hS ?_)
  intro b1 wz2 hS hBz2
  refine aa rfl (am  rfl ?_)
  refine ai ?_
  repeat (with_reducible first | apply ag | apply ac | apply af | apply ae | apply ab)
  refine aj ?_
  refine aa rfl (aH  rfl bO ?_)
  refine aw rfl (aB (k := 0)  rfl cg hS rfl rfl rfl (.inr rfl) ?_)
  refine aa rfl (du  rfl rfl ?_)
  refine ai ?_
  repeat (with_reducible first | apply ag | apply ac | apply af | apply ae | apply ab)
  by_cases h : (ofQ q).den = ⟨#[]⟩
  · refine aD rfl (decide_eq_true h) ?_
    repeat (with_reducible first | apply ag | apply ac | apply af | apply ae | apply ab)
    have h1 : q.den = 1 := by
      rw [if_pos h] at hq
      exact (one_eq.1 hq.symm)
    repeat (with_reducible first | apply ag | apply ac | apply af | apply ae | apply ab)
    refine aj ?_
    refine ak rfl (dJ (vs := [_])  rfl bz rfl (by decide) (by decide) (by decide) (by simp [Value.cells]) rfl hS ?_)
    intro b3 wz4 hS hBz4
    refine aa rfl (am  rfl ?_)
    refine ai ?_
    repeat (with_reducible first | apply ag | apply ac | apply af | apply ae | apply ab)
    have hsl := St.slk (L := [1]) hS (k := 0) rfl (n := 1) (cap := 1) (by simp) (by omega) (by omega)
    refine aE ?_
    repeat (with_reducible first | apply ap | apply ao)
    refine aR rfl rfl ?_
    rw [h1, limb_one]
    exact ⟨hsl, hS.below⟩
  · refine aN rfl (decide_eq_false h) ?_
    repeat (with_reducible first | apply ag | apply ac | apply af | apply ae | apply ab)
    rw [if_neg h] at hq
    rw [hq]
    repeat (with_reducible first | apply ag | apply ac | apply af | apply ae | apply ab)
    refine aj ?_
    refine aa rfl (aH  rfl bO ?_)
    refine aw rfl (aB (k := 0)  rfl cg hS rfl rfl rfl (.inr rfl) ?_)
    refine ak rfl (av Tryz.call78 rfl (fH (ofQ q).den _ (by rw [hq]; omega)) ?_)
    rintro v w3 ⟨hv, hB3⟩
    refine aa rfl (am  rfl ?_)
    refine ai ?_
    repeat (with_reducible first | apply ag | apply ac | apply af | apply ae | apply ab)
    refine aE ?_
    repeat (with_reducible first | apply ap | apply ao)
    refine aR rfl rfl ?_
    rw [hq, br] at hv
    exact ⟨hv, hS.below.trans (hB3.mono hS.below.size)⟩
theorem built_Rat2 (b : Bool) (s : ByteArray) : Tryz.prog.built 36 [(0, .bool b), (1, .string s)] = some #[.bool b, .string s, .string ⟨#[]⟩] := by kernel_rfl
set_option maxHeartbeats 1000000 in
theorem rreduced_ok (b : Bool) (vn vd : Value) (n d : Nat) (w : World) (hvn : Sl (uk .u32) 1 w vn (aI n)) (hvd : Sl (uk .u32) 1 w vd (aI d)) (hn : (aI n).length ≤ 4398046511104) (hd : (aI d).length ≤ 4398046511104) (h0 : d ≠ 0) :
    Ret Tryz.prog 79 #[.bool b, vn, vd] w fun v w' => v = bE (ofQ (mkRat (sg b n) d)) ∧ Below w.heap.size w w' := by
  have hS := St.init w
  refine enter Tryz.func79 rfl Tryz.ntmps79 rfl ?_
  repeat (with_reducible first | apply ag | apply ac | apply af | apply ae | apply ab)
  refine aj ?_
  refine ak rfl (aZ  ax hS ?_)
  intro b1 wz2 hS hBz2
  refine ai ?_
  repeat (with_reducible first | apply ag | apply ac | apply af | apply ae | apply ab)
  refine aj ?_
  refine aa rfl (ah  rfl ?_)
  refine aa rfl (aG  rfl (hvn.below hS.below) ⟨_, Tryz.underlying91⟩ ?_)
  refine aa rfl (c6  rfl rfl ?_)
  refine ai ?_
  repeat (with_reducible first | apply ag | apply ac | apply af | apply ae | apply ab)
  have hzn : (aI n).length = 0 ↔ n = 0 := limb_nil_iff
  by_cases hz : n = 0
  · refine aD rfl (decide_eq_true (by omega)) ?_
    repeat (with_reducible first | apply ag | apply ac | apply af | apply ae | apply ab)
    refine aj ?_
    refine aa rfl (ce  rfl eJ ?_)
    refine ak rfl (a8 (k := 0)  rfl rfl ax hS rfl rfl rfl (Nat.le_of_ble_eq_true rfl) rfl ?_)
    intro wz3 hS
    refine ai ?_
    repeat (with_reducible first | apply ag | apply ac | apply af | apply ae | apply ab)
    refine aE ?_
    repeat (with_reducible first | apply ap | apply ao)
    refine bN (k := 0) rfl rfl ax hS rfl rfl ?_
    refine ⟨?_, hS.below⟩
    have : mkRat (sg b 0) d = 0 := by cases b <;> simp [sg]
    rw [hz, this, cI]; rfl
  · refine aN rfl (decide_eq_false (by omega)) ?_
    repeat (with_reducible first | apply ag | apply ac | apply af | apply ae | apply ab)
    obtain ⟨g, hg⟩ : ∃ g, g = Nat.gcd n d := ⟨_, rfl⟩
    have hgp : 0 < g := by rw [hg]; exact Nat.gcd_pos_of_pos_right _ (by omega)
    have hgn : g ≤ n := by rw [hg]; exact Nat.gcd_le_left _ (by omega)
    have hgd : g ≤ d := by rw [hg]; exact Nat.gcd_le_right _ (by omega)
    have hgl := cp hgn
    repeat (with_reducible first | apply ag | apply ac | apply af | apply ae | apply ab)
    refine aj ?_
    refine aa rfl (ah  rfl ?_)
    refine aa rfl (ah  rfl ?_)
    refine ak rfl (av Tryz.call102 rfl (rcommon_ok _ _ n d _ (hvn.below hS.below) (hvd.below hS.below) (by omega) (by omega)) ?_)
    rintro vg w2 ⟨hvg, hB2⟩
    replace hS := hS.grow hB2
    rw [← hg] at hvg
    refine aa rfl (am  rfl ?_)
    refine ai ?_
    repeat (with_reducible first | apply ag | apply ac | apply af | apply ae | apply ab)
    refine a9 (fun ρ w' => ρ 0 = .bool b ∧ ρ 1 = vn ∧ ρ 2 = vd ∧ ρ 6 = .pointer (some ⟨b1, 0, none⟩) ∧ ρ 7 = vg ∧ ρ 24 = .bool (decide (g ≠ 1)) ∧ w2 = w') ?_ ?_
    · by_cases hl1 : 1 < (aI g).length
      · repeat (with_reducible first | apply ag | apply ac | apply af | apply ae | apply ab)
        refine aj ?_
        refine aa rfl (ah  rfl ?_)
        refine aa rfl (aG  rfl hvg ⟨_, Tryz.underlying91⟩ ?_)
        refine aa rfl (cf  rfl rfl ?_)
        refine aa rfl (ah  rfl ?_)
        refine aW (au 19 (by kernel_rfl) rfl (decide_eq_true (by omega))) ?_
        refine aW (au 19 (by kernel_rfl) rfl (decide_eq_true (by omega))) ?_
        refine aW (au 19 (by kernel_rfl) rfl (decide_eq_true (by omega))) ?_
        refine aW (au 19 (by kernel_rfl) rfl (decide_eq_true (by omega))) ?_
        refine aa rfl (aJ (vb rfl (decide_eq_true (by omega))) rfl ?_)
        refine ai ?_
        repeat (with_reducible first | apply ag | apply ac | apply af | apply ae | apply ab)
        exact ⟨_, rfl, rfl, rfl, rfl, rfl, rfl, vb rfl (decide_eq_true (limb_big_ne hl1)).symm, rfl⟩
      · have hl2 := limb_get0 hl1 hgp
        repeat (with_reducible first | apply ag | apply ac | apply af | apply ae | apply ab)
        refine aj ?_
        refine aa rfl (ah  rfl ?_)
        refine aa rfl (aG  rfl hvg ⟨_, Tryz.underlying91⟩ ?_)
        refine aa rfl (cf  rfl rfl ?_)
        refine aa rfl (ah  rfl ?_)
        refine aa (ar 19 (by kernel_rfl) rfl (decide_eq_false (by omega))) (ah  rfl ?_)
        refine aa (ar 19 (by kernel_rfl) rfl (decide_eq_false (by omega))) (aX (i := 0)  rfl rfl hvg (by omega) (by first | omega | (simp; done) | (simp; omega)) bz ?_)
        refine aw (ar 19 (by kernel_rfl) rfl (decide_eq_false (by omega))) (a6 (i := 0) 0  rfl aY hvg (by first | omega | (simp; done) | (simp; omega)) rfl rfl (.inr rfl) ?_)
        refine aa (ar 19 (by kernel_rfl) rfl (decide_eq_false (by omega))) (cf  rfl rfl ?_)
        refine aa rfl (aJ (vb rfl (decide_eq_false (by omega))) rfl ?_)
        refine ai ?_
        repeat (with_reducible first | apply ag | apply ac | apply af | apply ae | apply ab)
        exact ⟨_, rfl, rfl, rfl, rfl, rfl, rfl, vb rfl (by rw [hl2.2, decide_eq_decide]; omega), rfl⟩
    rintro ρ w' ⟨k0, k1, k2, k6, k7, k24, rfl⟩
    repeat (with_reducible first | apply ag | apply ac | apply af | apply ae | apply ab)
    refine a9 (fun ρ w' => ∃ (n' d' : Nat) (v1 v2 : Value), 0 < n' ∧ d' ≠ 0 ∧ Nat.gcd n' d' = 1 ∧ mkRat (sg b n) d = mkRat (sg b n') d' ∧ (aI n').length ≤ 4398046511104 ∧ (aI d').length ≤ 4398046511104 ∧ ρ 0 = .bool b ∧ ρ 1 = v1 ∧ ρ 2 = v2 ∧ ρ 6 = .pointer (some ⟨b1, 0, none⟩) ∧
      Sl (uk .u32) 1 w' v1 (aI n') ∧ Sl (uk .u32) 1 w' v2 (aI d') ∧ St w w' [(b1, 36, aC ⟨false, ⟨#[]⟩, ⟨#[]⟩⟩)]) ?_ ?_
    · repeat (with_reducible first | apply ag | apply ac | apply af | apply ae | apply ab)
      by_cases hg1 : g = 1
      · refine aN k24 (decide_eq_false (not_not_intro hg1)) ?_
        repeat (with_reducible first | apply ag | apply ac | apply af | apply ae | apply ab)
        exact ⟨_, rfl, n, d, _, _, by omega, h0, by rw [← hg, hg1], rfl, by omega, by omega, k0, k1, k2, k6, hvn.below hS.below, hvd.below hS.below, hS⟩
      · refine aD k24 (decide_eq_true hg1) ?_
        repeat (with_reducible first | apply ag | apply ac | apply af | apply ae | apply ab)
        have hnp : 0 < n / g := Nat.div_pos hgn hgp
        have hdp : 0 < d / g := Nat.div_pos hgd hgp
        have hln := cp (Nat.div_le_self n g)
        have hld := cp (Nat.div_le_self d g)
        repeat (with_reducible first | apply ag | apply ac | apply af | apply ae | apply ab)
        refine aj ?_
        refine aa rfl (ah  k1 ?_)
        refine aa rfl (ah  k7 ?_)
        refine ak rfl (av Tryz.call103 rfl (rdivide_ok _ _ n g _ (hvn.below hS.below) hvg hgp (by omega)) ?_)
        rintro r w3 ⟨⟨q1, s1, rfl, hq1, _⟩, hB3⟩
        replace hS := hS.grow hB3
        refine aa rfl (ah  rfl ?_)
        refine aa rfl (bL  rfl rfl ?_)
        refine aa rfl (bL  rfl rfl ?_)
        refine aa rfl (am  rfl ?_)
        refine ai ?_
        repeat (with_reducible first | apply ag | apply ac | apply af | apply ae | apply ab)
        refine aj ?_
        refine aa rfl (ah  k2 ?_)
        refine aa rfl (ah  k7 ?_)
        refine ak rfl (av Tryz.call103 rfl (rdivide_ok _ _ d g _ (hvd.below hS.below) (hvg.below hB3) hgp (by omega)) ?_)
        rintro r w4 ⟨⟨q2, s2, rfl, hq2, _⟩, hB4⟩
        replace hS := hS.grow hB4
        refine aa rfl (ah  rfl ?_)
        refine aa rfl (bL  rfl rfl ?_)
        refine aa rfl (bL  rfl rfl ?_)
        refine aa rfl (am  rfl ?_)
        refine ai ?_
        repeat (with_reducible first | apply ag | apply ac | apply af | apply ae | apply ab)
        exact ⟨_, rfl, n / g, d / g, q1, q2, hnp, by omega, by rw [hg, Nat.gcd_div (Nat.gcd_dvd_left _ _) (Nat.gcd_dvd_right _ _), ← hg, Nat.div_self hgp], mkRat_red h0 hg, by omega, by omega, k0, rfl, rfl, k6, hq1.below hB4, hq2, hS⟩
    clear k0 k1 k2 k6 k7 k24
    clear hS hvn hvd
    rintro ρ w' ⟨n', d', v1, v2, hn', hd', hc, he, hln', hld', k0, k1, k2, k6, hvn, hvd, hS⟩
    rw [he, iN hn' hd' hc]
    repeat (with_reducible first | apply ag | apply ac | apply af | apply ae | apply ab)
    refine aj ?_
    refine aa rfl (ah  k0 ?_)
    refine aa rfl (ah  k1 ?_)
    refine ak rfl (av Tryz.call104 rfl (rtext_ok _ _ _ hvn (fV _) (by omega)) ?_)
    rintro r w5 ⟨rfl, hB5⟩
    replace hS := hS.grow hB5
    rw [dA]
    have hvd5 := hvd.below hB5
    have hS0 := hS
    replace hS := St.init w5
    refine aa rfl (ce  rfl (built_Rat2 _ _) ?_)
    refine ak rfl (aZ  ax hS ?_)
    intro b4 wz5 hS hBz5
    refine ak rfl (a8 (k := 0)  rfl rfl ax hS rfl rfl rfl (Nat.le_of_ble_eq_true rfl) rfl ?_)
    intro wz6 hS
    refine ai ?_
    repeat (with_reducible first | apply ag | apply ac | apply af | apply ae | apply ab)
    replace hS : St w5 _ [(_, 36, aC ⟨b, aT n', ⟨#[]⟩⟩)] := hS
    repeat (with_reducible first | apply ag | apply ac | apply af | apply ae | apply ab)
    refine a9 (fun ρ w' => ρ 2 = v2 ∧ ρ 6 = .pointer (some ⟨b1, 0, none⟩) ∧ ρ 8 = .pointer (some ⟨b4, 0, none⟩) ∧ ρ 49 = .bool (decide (d' ≠ 1)) ∧ wz6 = w') ?_ ?_
    · by_cases hl1 : 1 < (aI d').length
      · repeat (with_reducible first | apply ag | apply ac | apply af | apply ae | apply ab)
        refine aj ?_
        refine aa rfl (ah  k2 ?_)
        refine aa rfl (aG  rfl (hvd5.below hS.below) ⟨_, Tryz.underlying91⟩ ?_)
        refine aa rfl (cf  rfl rfl ?_)
        refine aa rfl (ah  rfl ?_)
        refine aW (au 44 (by kernel_rfl) rfl (decide_eq_true (by omega))) ?_
        refine aW (au 44 (by kernel_rfl) rfl (decide_eq_true (by omega))) ?_
        refine aW (au 44 (by kernel_rfl) rfl (decide_eq_true (by omega))) ?_
        refine aW (au 44 (by kernel_rfl) rfl (decide_eq_true (by omega))) ?_
        refine aa rfl (aJ (vb rfl (decide_eq_true (by omega))) rfl ?_)
        refine ai ?_
        repeat (with_reducible first | apply ag | apply ac | apply af | apply ae | apply ab)
        exact ⟨_, rfl, k2, k6, rfl, vb rfl (decide_eq_true (limb_big_ne hl1)).symm, rfl⟩
      · have hl2 := limb_get0 hl1 (by omega)
        repeat (with_reducible first | apply ag | apply ac | apply af | apply ae | apply ab)
        refine aj ?_
        refine aa rfl (ah  k2 ?_)
        refine aa rfl (aG  rfl (hvd5.below hS.below) ⟨_, Tryz.underlying91⟩ ?_)
        refine aa rfl (cf  rfl rfl ?_)
        refine aa rfl (ah  rfl ?_)
        refine aa (ar 44 (by kernel_rfl) rfl (decide_eq_false (by omega))) (ah  k2 ?_)
        refine aa (ar 44 (by kernel_rfl) rfl (decide_eq_false (by omega))) (aX (i := 0)  rfl rfl (hvd5.below hS.below) (by omega) (by first | omega | (simp; done) | (simp; omega)) bz ?_)
        refine aw (ar 44 (by kernel_rfl) rfl (decide_eq_false (by omega))) (a6 (i := 0) 0  rfl aY (hvd5.below hS.below) (by first | omega | (simp; done) | (simp; omega)) rfl rfl (.inr rfl) ?_)
        refine aa (ar 44 (by kernel_rfl) rfl (decide_eq_false (by omega))) (cf  rfl rfl ?_)
        refine aa rfl (aJ (vb rfl (decide_eq_false (by omega))) rfl ?_)
        refine ai ?_
        repeat (with_reducible first | apply ag | apply ac | apply af | apply ae | apply ab)
        exact ⟨_, rfl, k2, k6, rfl, vb rfl (by rw [hl2.2, decide_eq_decide]; omega), rfl⟩
    clear k0 k1 k2 k6
    rintro ρ w' ⟨k2, k6, k8, k49, rfl⟩
    repeat (with_reducible first | apply ag | apply ac | apply af | apply ae | apply ab)
    refine a9 (fun ρ w' => ∃ b8, ρ 6 = .pointer (some ⟨b1, 0, none⟩) ∧ ρ 8 = .pointer (some ⟨b8, 0, none⟩) ∧ St w w' [(b8, 36, aC ⟨b, aT n', if d' = 1 then ⟨#[]⟩ else aT d'⟩), (b1, 36, aC ⟨false, ⟨#[]⟩, ⟨#[]⟩⟩)]) ?_ ?_
    · repeat (with_reducible first | apply ag | apply ac | apply af | apply ae | apply ab)
      by_cases hd1 : d' = 1
      · refine aN k49 (decide_eq_false (not_not_intro hd1)) ?_
        repeat (with_reducible first | apply ag | apply ac | apply af | apply ae | apply ab)
        exact ⟨_, rfl, _, k6, k8, by rw [if_pos hd1]; exact hS0.join hS⟩
      · refine aD k49 (decide_eq_true hd1) ?_
        repeat (with_reducible first | apply ag | apply ac | apply af | apply ae | apply ab)
        refine aj ?_
        refine aa rfl (ah  k2 ?_)
        refine ak rfl (av Tryz.call104 rfl (rtext_ok _ _ _ (hvd5.below hS.below) (fV _) (by omega)) ?_)
        rintro r w6 ⟨rfl, hB6⟩
        replace hS := hS.grow hB6
        rw [dA]
        refine aa rfl (aH  k8 bO ?_)
        refine ak rfl (ir (k := 0)  rfl rfl cg hS rfl (Nat.le_of_ble_eq_true rfl) rfl ?_)
        intro wz7 hS
        refine ai ?_
        repeat (with_reducible first | apply ag | apply ac | apply af | apply ae | apply ab)
        exact ⟨_, rfl, _, k6, k8, by rw [if_neg hd1]; exact hS0.join hS⟩
    clear hS hS0 hvd5 hvn hvd
    rintro ρ w' ⟨b8, k6, k8, hS⟩
    repeat (with_reducible first | apply ag | apply ac | apply af | apply ae | apply ab)
    refine aj ?_
    refine aw rfl (aB (k := 0)  k8 ax hS rfl rfl rfl (.inl rfl) ?_)
    refine ak rfl (a8 (k := 1)  k6 rfl ax hS rfl rfl rfl (Nat.le_of_ble_eq_true rfl) rfl ?_)
    intro wz8 hS
    refine ai ?_
    repeat (with_reducible first | apply ag | apply ac | apply af | apply ae | apply ab)
    refine aE ?_
    repeat (with_reducible first | apply ap | apply ao)
    refine bN (k := 1) rfl k6 ax hS rfl rfl ?_
    exact ⟨rfl, hS.below⟩
end Go.Proofs.YtmghobajmhdbfaaGreatDoor
namespace Go.Proofs.YtmghobajmhdbfaaGreatDoor
open Go Go.RowKit Go.Sx
set_option maxHeartbeats 1000000 in
theorem iv (p q : Rat) (w : World) (hL : L p + L q ≤ MX) :
    Ret Tryz.prog 51 #[bE (ofQ p), bE (ofQ q)] w fun v w' => v = bE (ofQ (p + q)) ∧ Below w.heap.size w w' := by
  have hM : MX = 1099511627776 := rfl
  have hn1 := iq p
  have hn2 := iq q
  have hd1 := gF p
  have hd2 := gF q
  have hm1 := bT p.num.natAbs q.den
  have hm2 := bT q.num.natAbs p.den
  have hm3 := bT p.den q.den
  have l1 := ck p.num.natAbs
  have l2 := ck q.num.natAbs
  have l3 := ck p.den
  have l4 := ck q.den
  have l5 := ck (p.num.natAbs * q.den)
  have l6 := ck (q.num.natAbs * p.den)
  have l7 := ck (p.den * q.den)
  have l8 := ck (p.num.natAbs * q.den + q.num.natAbs * p.den)
  have hsum := natS_size_add (p.num.natAbs * q.den) (q.num.natAbs * p.den)
  have hS := St.init w
  refine enter Tryz.func51 rfl Tryz.ntmps51 rfl ?_
  repeat (with_reducible first | apply ag | apply ac | apply af | apply ae | apply ab)
  refine aj ?_
  refine ak rfl (bX (new := aC (ofQ p))  rfl rfl hS ?_)
  intro b1 wz2 hS hBz2
  refine ak rfl (bX (new := aC (ofQ q))  rfl rfl hS ?_)
  intro b3 wz4 hS hBz4
  refine ak rfl (aZ  ax hS ?_)
  intro b5 wz6 hS hBz6
  refine ai ?_
  repeat (with_reducible first | apply ag | apply ac | apply af | apply ae | apply ab)
  refine aj ?_
  refine aa rfl (aH  rfl bM ?_)
  refine aw rfl (aB (k := 2)  rfl cg hS rfl rfl rfl (.inr rfl) ?_)
  refine aa rfl (du  rfl rfl ?_)
  refine ai ?_
  repeat (with_reducible first | apply ag | apply ac | apply af | apply ae | apply ab)
  by_cases hp0 : p = 0
  · refine aD rfl (decide_eq_true (ofQ_num_nil.2 hp0)) ?_
    repeat (with_reducible first | apply ag | apply ac | apply af | apply ae | apply ab)
    refine aj ?_
    refine aw rfl (aB (k := 1)  rfl ax hS rfl rfl rfl (.inl rfl) ?_)
    refine ak rfl (a8 (k := 0)  rfl rfl ax hS rfl rfl rfl (Nat.le_of_ble_eq_true rfl) rfl ?_)
    intro wz7 hS
    refine ai ?_
    repeat (with_reducible first | apply ag | apply ac | apply af | apply ae | apply ab)
    refine aE ?_
    repeat (with_reducible first | apply ap | apply ao)
    refine bN (k := 0) rfl rfl ax hS rfl rfl ?_
    rw [hp0, Rat.zero_add]
    exact ⟨rfl, hS.below⟩
  · refine aN rfl (decide_eq_false (fun g => hp0 (ofQ_num_nil.1 g))) ?_
    repeat (with_reducible first | apply ag | apply ac | apply af | apply ae | apply ab)
    refine aj ?_
    refine aa rfl (aH  rfl bM ?_)
    refine aw rfl (aB (k := 1)  rfl cg hS rfl rfl rfl (.inr rfl) ?_)
    refine aa rfl (du  rfl rfl ?_)
    refine ai ?_
    repeat (with_reducible first | apply ag | apply ac | apply af | apply ae | apply ab)
    by_cases hq0 : q = 0
    · refine aD rfl (decide_eq_true (ofQ_num_nil.2 hq0)) ?_
      repeat (with_reducible first | apply ag | apply ac | apply af | apply ae | apply ab)
      refine aj ?_
      refine aw rfl (aB (k := 2)  rfl ax hS rfl rfl rfl (.inl rfl) ?_)
      refine ak rfl (a8 (k := 0)  rfl rfl ax hS rfl rfl rfl (Nat.le_of_ble_eq_true rfl) rfl ?_)
      intro wz8 hS
      refine ai ?_
      repeat (with_reducible first | apply ag | apply ac | apply af | apply ae | apply ab)
      refine aE ?_
      repeat (with_reducible first | apply ap | apply ao)
      refine bN (k := 0) rfl rfl ax hS rfl rfl ?_
      rw [hq0, Rat.add_zero]
      exact ⟨rfl, hS.below⟩
    · refine aN rfl (decide_eq_false (fun g => hq0 (ofQ_num_nil.1 g))) ?_
      repeat (with_reducible first | apply ag | apply ac | apply af | apply ae | apply ab)
      have hlp := fun w => fH (aT p.num.natAbs) w (by omega)
      have hlq := fun w => fH (aT q.num.natAbs) w (by omega)
      rw [br] at hlp hlq
      have hS0 := hS
      repeat (with_reducible first | apply ag | apply ac | apply af | apply ae | apply ab)
      refine aj ?_
      refine aw rfl (aB (k := 2)  rfl ax hS rfl rfl rfl (.inl rfl) ?_)
      refine ak rfl (av Tryz.call76 rfl (rden_ok p _ (by omega)) ?_)
      rintro vp w3 ⟨hvp, hB3⟩
      replace hS := hS.grow hB3
      refine aa rfl (am  rfl ?_)
      refine ai ?_
      repeat (with_reducible first | apply ag | apply ac | apply af | apply ae | apply ab)
      refine aj ?_
      refine aw rfl (aB (k := 1)  rfl ax hS rfl rfl rfl (.inl rfl) ?_)
      refine ak rfl (av Tryz.call76 rfl (rden_ok q _ (by omega)) ?_)
      rintro vq w4 ⟨hvq, hB4⟩
      replace hS := hS.grow hB4
      refine aa rfl (am  rfl ?_)
      refine ai ?_
      repeat (with_reducible first | apply ag | apply ac | apply af | apply ae | apply ab)
      replace hvp := hvp.below hB4
      repeat (with_reducible first | apply ag | apply ac | apply af | apply ae | apply ab)
      refine aj ?_
      refine aa rfl (aH  rfl bM ?_)
      refine aw rfl (aB (k := 2)  rfl cg hS rfl rfl rfl (.inr rfl) ?_)
      refine ak rfl (av Tryz.call78 rfl (hlp _) ?_)
      rintro vx w5 ⟨hvx, hB5⟩
      replace hS := hS.grow hB5
      refine aa rfl (ah  rfl ?_)
      replace hvp := hvp.below hB5
      replace hvq := hvq.below hB5
      refine ak rfl (av Tryz.call77 rfl (rtimes_ok _ _ _ _ _ hvx hvq (by omega) (by omega)) ?_)
      rintro vX w6 ⟨hvX, hB6⟩
      replace hS := hS.grow hB6
      refine aa rfl (am  rfl ?_)
      refine ai ?_
      repeat (with_reducible first | apply ag | apply ac | apply af | apply ae | apply ab)
      replace hvp := hvp.below hB6
      replace hvq := hvq.below hB6
      repeat (with_reducible first | apply ag | apply ac | apply af | apply ae | apply ab)
      refine aj ?_
      refine aa rfl (aH  rfl bM ?_)
      refine aw rfl (aB (k := 1)  rfl cg hS rfl rfl rfl (.inr rfl) ?_)
      refine ak rfl (av Tryz.call78 rfl (hlq _) ?_)
      rintro vy w7 ⟨hvy, hB7⟩
      replace hS := hS.grow hB7
      refine aa rfl (ah  rfl ?_)
      replace hvp := hvp.below hB7
      replace hvq := hvq.below hB7
      replace hvX := hvX.below hB7
      refine ak rfl (av Tryz.call77 rfl (rtimes_ok _ _ _ _ _ hvy hvp (by omega) (by omega)) ?_)
      rintro vY w8 ⟨hvY, hB8⟩
      replace hS := hS.grow hB8
      refine aa rfl (am  rfl ?_)
      refine ai ?_
      repeat (with_reducible first | apply ag | apply ac | apply af | apply ae | apply ab)
      replace hvp := hvp.below hB8
      replace hvq := hvq.below hB8
      replace hvX := hvX.below hB8
      repeat (with_reducible first | apply ag | apply ac | apply af | apply ae | apply ab)
      refine aj ?_
      refine aa rfl (ah  rfl ?_)
      refine aa rfl (ah  rfl ?_)
      refine ak rfl (av Tryz.call77 rfl (rtimes_ok _ _ _ _ _ hvp hvq (by omega) (by omega)) ?_)
      rintro vD w9 ⟨hvD, hB9⟩
      replace hS := hS.grow hB9
      refine aa rfl (am  rfl ?_)
      refine ai ?_
      repeat (with_reducible first | apply ag | apply ac | apply af | apply ae | apply ab)
      replace hvX := hvX.below hB9
      replace hvY := hvY.below hB9
      clear hvp hvq hvx hvy hlp hlq hS0
      have hD0 : p.den * q.den ≠ 0 := Nat.mul_ne_zero p.den_nz q.den_nz
      have hXY := mkRat_add_same (sg (decide (p.num < 0)) (p.num.natAbs * q.den)) (sg (decide (q.num < 0)) (q.num.natAbs * p.den)) hD0
      rw [eP p q.den_nz, Nat.mul_comm p.den, eP q p.den_nz, Nat.mul_comm q.den] at hXY
      rw [hXY]
      obtain ⟨X, hX⟩ : ∃ X, X = p.num.natAbs * q.den := ⟨_, rfl⟩
      obtain ⟨Y, hY⟩ : ∃ Y, Y = q.num.natAbs * p.den := ⟨_, rfl⟩
      obtain ⟨D, hDe⟩ : ∃ D, D = p.den * q.den := ⟨_, rfl⟩
      rw [← hX] at hvX l5 l8 hm1 hsum ⊢
      rw [← hY] at hvY l6 l8 hm2 hsum ⊢
      rw [← hDe] at hvD l7 hm3 hD0 ⊢
      clear hX hY hDe hXY l1 l2 l3 l4
      repeat (with_reducible first | apply ag | apply ac | apply af | apply ae | apply ab)
      refine aj ?_
      refine aa rfl (aH  rfl cn ?_)
      refine aw rfl (aB (k := 2)  rfl dq hS rfl rfl rfl (.inr rfl) ?_)
      refine aa rfl (aH  rfl cn ?_)
      refine aw rfl (aB (k := 1)  rfl dq hS rfl rfl rfl (.inr rfl) ?_)
      refine aa rfl (s_eqb  rfl rfl Tryz.underlying4 ?_)
      refine ai ?_
      repeat (with_reducible first | apply ag | apply ac | apply af | apply ae | apply ab)
      by_cases hneg : decide (p.num < 0) = decide (q.num < 0)
      · have hb : (decide (p.num < 0) == decide (q.num < 0)) = true := by rw [hneg]; exact beq_self_eq_true _
        refine aD rfl (hb) ?_
        repeat (with_reducible first | apply ag | apply ac | apply af | apply ae | apply ab)
        refine bm [(0, .pure), (1, .read), (2, .pure), (3, .pure), (5, .pure), (4, .grow), (6, .grow), (7, .free)] (by kernel_rfl) (by kernel_rfl) hS ?_
        intro wz9 hS hBz9
        refine al rfl rfl (aH  rfl cn ?_)
        refine aF rfl rfl (aB (k := 2)  rfl dq hS rfl rfl rfl (.inr rfl) ?_)
        refine al rfl rfl (ah  rfl ?_)
        refine al rfl rfl (ah  rfl ?_)
        refine al rfl rfl (ah  rfl ?_)
        have hBd := hBz9
        refine aS rfl rfl (av Tryz.call80 rfl (rplus_ok _ _ _ _ _ (hvX.below hBd) (hvY.below hBd) (by omega) (by omega)) ?_)
        rintro v wp ⟨hv, hBp⟩
        refine ⟨hBp, ?_⟩
        replace hS := hS.grow hBp
        refine aS rfl rfl (av Tryz.call79 rfl (rreduced_ok _ _ _ _ _ _ hv (hvD.below (bt hBd hBp)) (by omega) (by omega) hD0) ?_)
        rintro _ wc10 ⟨rfl, hBc10⟩
        replace hS := hS.grow hBc10
        refine ⟨hBc10, ?_⟩
        refine bJ rfl rfl (a8 (k := 0)  rfl rfl ax hS rfl rfl rfl (Nat.le_of_ble_eq_true rfl) rfl ?_)
        intro wz11 hS
        refine bC ?_
        repeat (with_reducible first | apply ag | apply ac | apply af | apply ae | apply ab)
        refine aE ?_
        repeat (with_reducible first | apply ap | apply ao)
        refine bN (k := 0) rfl rfl ax hS rfl rfl ?_
        rw [← hneg, sg_add]
        exact ⟨rfl, hS.below⟩
      · have hb : (decide (p.num < 0) == decide (q.num < 0)) = false := by rw [beq_eq_false_iff_ne]; exact hneg
        refine aN rfl (hb) ?_
        repeat (with_reducible first | apply ag | apply ac | apply af | apply ae | apply ab)
        refine aj ?_
        refine aa rfl (ah  rfl ?_)
        refine aa rfl (ah  rfl ?_)
        refine ak rfl (av Tryz.call81 rfl (rorder_ok _ _ _ _ _ hvX hvY) ?_)
        rintro _ wc12 ⟨rfl, hBc12⟩
        replace hS := hS.grow hBc12
        refine aa rfl (aV  rfl rfl ?_)
        refine ai ?_
        repeat (with_reducible first | apply ag | apply ac | apply af | apply ae | apply ab)
        by_cases hlt : X < Y
        · refine aD rfl (decide_eq_true (by rw [eQ hlt]; decide)) ?_
          repeat (with_reducible first | apply ag | apply ac | apply af | apply ae | apply ab)
          have l8 := cp (Nat.sub_le Y X)
          repeat (with_reducible first | apply ag | apply ac | apply af | apply ae | apply ab)
          refine bm [(0, .pure), (1, .read), (2, .pure), (3, .pure), (5, .pure), (4, .grow), (6, .grow), (7, .free)] (by kernel_rfl) (by kernel_rfl) hS ?_
          intro wz13 hS hBz13
          refine al rfl rfl (aH  rfl cn ?_)
          refine aF rfl rfl (aB (k := 1)  rfl dq hS rfl rfl rfl (.inr rfl) ?_)
          refine al rfl rfl (ah  rfl ?_)
          refine al rfl rfl (ah  rfl ?_)
          refine al rfl rfl (ah  rfl ?_)
          have hBd := (bt hBc12 hBz13)
          refine aS rfl rfl (av Tryz.call82 rfl (rminus_ok _ _ _ _ _ (hvY.below hBd) (hvX.below hBd) (by omega) (by omega)) ?_)
          rintro v wp ⟨hv, hBp⟩
          refine ⟨hBp, ?_⟩
          replace hS := hS.grow hBp
          refine aS rfl rfl (av Tryz.call79 rfl (rreduced_ok _ _ _ _ _ _ hv (hvD.below (bt hBd hBp)) (by omega) (by omega) hD0) ?_)
          rintro _ wc14 ⟨rfl, hBc14⟩
          replace hS := hS.grow hBc14
          refine ⟨hBc14, ?_⟩
          refine bJ rfl rfl (a8 (k := 0)  rfl rfl ax hS rfl rfl rfl (Nat.le_of_ble_eq_true rfl) rfl ?_)
          intro wz15 hS
          refine bC ?_
          repeat (with_reducible first | apply ag | apply ac | apply af | apply ae | apply ab)
          refine aE ?_
          repeat (with_reducible first | apply ap | apply ao)
          refine bN (k := 0) rfl rfl ax hS rfl rfl ?_
          rw [sg_sub' hneg (by omega)]
          exact ⟨rfl, hS.below⟩
        · have hcmp : ¬ eh X Y < 0 := by
            rcases Nat.lt_or_ge Y X with h | h
            · rw [eM h]; decide
            · rw [show X = Y by omega, fF]; decide
          refine aN rfl (decide_eq_false hcmp) ?_
          repeat (with_reducible first | apply ag | apply ac | apply af | apply ae | apply ab)
          have l8 := cp (Nat.sub_le X Y)
          repeat (with_reducible first | apply ag | apply ac | apply af | apply ae | apply ab)
          refine bm [(0, .pure), (1, .read), (2, .pure), (3, .pure), (5, .pure), (4, .grow), (6, .grow), (7, .free)] (by kernel_rfl) (by kernel_rfl) hS ?_
          intro wz16 hS hBz16
          refine al rfl rfl (aH  rfl cn ?_)
          refine aF rfl rfl (aB (k := 2)  rfl dq hS rfl rfl rfl (.inr rfl) ?_)
          refine al rfl rfl (ah  rfl ?_)
          refine al rfl rfl (ah  rfl ?_)
          refine al rfl rfl (ah  rfl ?_)
          have hBd := (bt hBc12 hBz16)
          refine aS rfl rfl (av Tryz.call82 rfl (rminus_ok _ _ _ _ _ (hvX.below hBd) (hvY.below hBd) (by omega) (by omega)) ?_)
          rintro v wp ⟨hv, hBp⟩
          refine ⟨hBp, ?_⟩
          replace hS := hS.grow hBp
          refine aS rfl rfl (av Tryz.call79 rfl (rreduced_ok _ _ _ _ _ _ hv (hvD.below (bt hBd hBp)) (by omega) (by omega) hD0) ?_)
          rintro _ wc17 ⟨rfl, hBc17⟩
          replace hS := hS.grow hBc17
          refine ⟨hBc17, ?_⟩
          refine bJ rfl rfl (a8 (k := 0)  rfl rfl ax hS rfl rfl rfl (Nat.le_of_ble_eq_true rfl) rfl ?_)
          intro wz18 hS
          refine bC ?_
          repeat (with_reducible first | apply ag | apply ac | apply af | apply ae | apply ab)
          refine aE ?_
          repeat (with_reducible first | apply ap | apply ao)
          refine bN (k := 0) rfl rfl ax hS rfl rfl ?_
          rw [sg_sub hneg (by omega)]
          exact ⟨rfl, hS.below⟩
theorem rOpposite_ok (q : Rat) (w : World) :
    Ret Tryz.prog 72 #[bE (ofQ q)] w fun v w' => v = bE (ofQ (-q)) ∧ Below w.heap.size w w' := by
  have hS := St.init w
  have he := ofQ_neg_eq q
  refine enter Tryz.func72 rfl Tryz.ntmps72 rfl ?_
  repeat (with_reducible first | apply ag | apply ac | apply af | apply ae | apply ab)
  refine aj ?_
  refine ak rfl (bX (new := aC (ofQ q))  rfl rfl hS ?_)
  intro b1 wz2 hS hBz2
  refine ak rfl (aZ  ax hS ?_)
  intro b3 wz4 hS hBz4
  refine ai ?_
  repeat (with_reducible first | apply ag | apply ac | apply af | apply ae | apply ab)
  refine aj ?_
  refine aa rfl (aH  rfl bM ?_)
  refine aw rfl (aB (k := 1)  rfl cg hS rfl rfl rfl (.inr rfl) ?_)
  refine aa rfl (d4  rfl rfl ?_)
  refine ai ?_
  repeat (with_reducible first | apply ag | apply ac | apply af | apply ae | apply ab)
  by_cases h0 : q = 0
  · refine aN rfl (decide_eq_false (not_not_intro (ofQ_num_nil.2 h0))) ?_
    repeat (with_reducible first | apply ag | apply ac | apply af | apply ae | apply ab)
    refine aj ?_
    refine aw rfl (aB (k := 1)  rfl ax hS rfl rfl rfl (.inl rfl) ?_)
    refine ak rfl (a8 (k := 0)  rfl rfl ax hS rfl rfl rfl (Nat.le_of_ble_eq_true rfl) rfl ?_)
    intro wz5 hS
    refine ai ?_
    repeat (with_reducible first | apply ag | apply ac | apply af | apply ae | apply ab)
    refine aE ?_
    repeat (with_reducible first | apply ap | apply ao)
    refine bN (k := 0) rfl rfl ax hS rfl rfl ?_
    rw [h0, Rat.neg_zero]
    exact ⟨rfl, hS.below⟩
  · have hne : decide ((ofQ q).num ≠ ⟨#[]⟩) = true := decide_eq_true (fun g => h0 (ofQ_num_nil.1 g))
    refine aD rfl (hne) ?_
    repeat (with_reducible first | apply ag | apply ac | apply af | apply ae | apply ab)
    refine aj ?_
    refine aa rfl (aH  rfl cn ?_)
    refine aw rfl (aB (k := 1)  rfl dq hS rfl rfl rfl (.inr rfl) ?_)
    refine aa rfl (dX  rfl ?_)
    refine aa rfl (aH  rfl cn ?_)
    refine ak rfl (ir (k := 1)  rfl rfl dq hS rfl (Nat.le_of_ble_eq_true rfl) rfl ?_)
    intro wz6 hS
    refine ai ?_
    repeat (with_reducible first | apply ag | apply ac | apply af | apply ae | apply ab)
    refine aj ?_
    refine aw rfl (aB (k := 1)  rfl ax hS rfl rfl rfl (.inl rfl) ?_)
    refine ak rfl (a8 (k := 0)  rfl rfl ax hS rfl rfl rfl (Nat.le_of_ble_eq_true rfl) rfl ?_)
    intro wz7 hS
    refine ai ?_
    repeat (with_reducible first | apply ag | apply ac | apply af | apply ae | apply ab)
    refine aE ?_
    repeat (with_reducible first | apply ap | apply ao)
    refine bN (k := 0) rfl rfl ax hS rfl rfl ?_
    rw [hne, Bool.and_true] at he
    rw [← he]
    exact ⟨rfl, hS.below⟩
theorem e6 (p q : Rat) (w : World) (hL : L p + L q ≤ MX) :
    Ret Tryz.prog 46 #[bE (ofQ p), bE (ofQ q)] w fun v w' => v = bE (ofQ (p - q)) ∧ Below w.heap.size w w' := by
  have hL3 := js q
  have hS := St.init w
  refine enter Tryz.func46 rfl Tryz.ntmps46 rfl ?_
  repeat (with_reducible first | apply ag | apply ac | apply af | apply ae | apply ab)
  refine aj ?_
  refine ak rfl (bX (new := aC (ofQ p))  rfl rfl hS ?_)
  intro b1 wz2 hS hBz2
  refine ak rfl (bX (new := aC (ofQ q))  rfl rfl hS ?_)
  intro b3 wz4 hS hBz4
  refine ak rfl (aZ  ax hS ?_)
  intro b5 wz6 hS hBz6
  refine ai ?_
  repeat (with_reducible first | apply ag | apply ac | apply af | apply ae | apply ab)
  refine bm [(0, .read), (1, .read), (2, .grow), (3, .grow), (4, .free)] (by kernel_rfl) (by kernel_rfl) hS ?_
  intro wz7 hS hBz7
  refine aF rfl rfl (aB (k := 2)  rfl ax hS rfl rfl rfl (.inl rfl) ?_)
  refine aF rfl rfl (aB (k := 1)  rfl ax hS rfl rfl rfl (.inl rfl) ?_)
  refine aS rfl rfl (av Tryz.call72 rfl (rOpposite_ok q _) ?_)
  rintro _ wc8 ⟨rfl, hBc8⟩
  replace hS := hS.grow hBc8
  refine ⟨hBc8, ?_⟩
  refine aS rfl rfl (av Tryz.call51 rfl (iv p (-q) _ (by omega)) ?_)
  rintro _ wc9 ⟨rfl, hBc9⟩
  replace hS := hS.grow hBc9
  refine ⟨hBc9, ?_⟩
  refine bJ rfl rfl (a8 (k := 0)  rfl rfl ax hS rfl rfl rfl (Nat.le_of_ble_eq_true rfl) rfl ?_)
  intro wz10 hS
  refine bC ?_
  repeat (with_reducible first | apply ag | apply ac | apply af | apply ae | apply ab)
  refine aE ?_
  repeat (with_reducible first | apply ap | apply ao)
  refine bN (k := 0) rfl rfl ax hS rfl rfl ?_
  rw [Rat.sub_eq_add_neg]
  exact ⟨rfl, hS.below⟩
theorem rSignum_ok (q : Rat) (w : World) :
    Ret Tryz.prog 98 #[bE (ofQ q)] w fun v w' => v = .int .i64 (dT q) ∧ Below w.heap.size w w' := by
  have hS := St.init w
  refine enter Tryz.func98 rfl Tryz.ntmps98 rfl ?_
  repeat (with_reducible first | apply ag | apply ac | apply af | apply ae | apply ab)
  refine aj ?_
  refine ak rfl (bX (new := aC (ofQ q))  rfl rfl hS ?_)
  intro b1 wz2 hS hBz2
  refine aa rfl (am  rfl ?_)
  refine ai ?_
  repeat (with_reducible first | apply ag | apply ac | apply af | apply ae | apply ab)
  refine aj ?_
  refine aa rfl (aH  rfl bM ?_)
  refine aw rfl (aB (k := 0)  rfl cg hS rfl rfl rfl (.inr rfl) ?_)
  refine aa rfl (du  rfl rfl ?_)
  refine aa rfl (am  rfl ?_)
  refine ai ?_
  repeat (with_reducible first | apply ag | apply ac | apply af | apply ae | apply ab)
  by_cases h : q = 0
  · refine aD rfl (decide_eq_true (ofQ_num_nil.2 h)) ?_
    repeat (with_reducible first | apply ag | apply ac | apply af | apply ae | apply ab)
    refine aj ?_
    refine aa rfl (am  rfl ?_)
    refine ai ?_
    repeat (with_reducible first | apply ag | apply ac | apply af | apply ae | apply ab)
    refine aE ?_
    repeat (with_reducible first | apply ap | apply ao)
    refine aR rfl rfl ?_
    exact ⟨vi rfl (sgnQ_zero.2 h).symm, hS.below⟩
  · refine aN rfl (decide_eq_false (fun g => h (ofQ_num_nil.1 g))) ?_
    repeat (with_reducible first | apply ag | apply ac | apply af | apply ae | apply ab)
    refine aj ?_
    refine aa rfl (aH  rfl cn ?_)
    refine aw rfl (aB (k := 0)  rfl dq hS rfl rfl rfl (.inr rfl) ?_)
    refine aa rfl (am  rfl ?_)
    refine ai ?_
    repeat (with_reducible first | apply ag | apply ac | apply af | apply ae | apply ab)
    have hn : q.num ≠ 0 := fun g => h (Rat.num_eq_zero.1 g)
    by_cases h2 : q.num < 0
    · refine aD rfl (decide_eq_true h2) ?_
      repeat (with_reducible first | apply ag | apply ac | apply af | apply ae | apply ab)
      refine aj ?_
      refine aa rfl (am  rfl ?_)
      refine ai ?_
      repeat (with_reducible first | apply ag | apply ac | apply af | apply ae | apply ab)
      refine aE ?_
      repeat (with_reducible first | apply ap | apply ao)
      refine aR rfl rfl ?_
      exact ⟨vi rfl (by unfold dT; rw [if_neg hn, if_pos h2]), hS.below⟩
    · refine aN rfl (decide_eq_false h2) ?_
      repeat (with_reducible first | apply ag | apply ac | apply af | apply ae | apply ab)
      refine aj ?_
      refine aa rfl (am  rfl ?_)
      refine ai ?_
      repeat (with_reducible first | apply ag | apply ac | apply af | apply ae | apply ab)
      refine aE ?_
      repeat (with_reducible first | apply ap | apply ao)
      refine aR rfl rfl ?_
      exact ⟨vi rfl (by unfold dT; rw [if_neg hn, if_neg h2]), hS.below⟩
theorem sub_neg_iff {p q : Rat} : dT (p - q) < 0 ↔ p < q := by rw [sgnQ_neg]; constructor <;> intro h <;> grind
theorem rLess_ok (p q : Rat) (w : World) (hL : L p + L q ≤ MX) :
    Ret Tryz.prog 71 #[bE (ofQ p), bE (ofQ q)] w fun v w' => v = .bool (decide (p < q)) ∧ Below w.heap.size w w' := by
  have hS := St.init w
  refine enter Tryz.func71 rfl Tryz.ntmps71 rfl ?_
  repeat (with_reducible first | apply ag | apply ac | apply af | apply ae | apply ab)
  refine aj ?_
  refine ak rfl (bX (new := aC (ofQ p))  rfl rfl hS ?_)
  intro b1 wz2 hS hBz2
  refine ak rfl (bX (new := aC (ofQ q))  rfl rfl hS ?_)
  intro b3 wz4 hS hBz4
  refine aa rfl (am  rfl ?_)
  refine ai ?_
  repeat (with_reducible first | apply ag | apply ac | apply af | apply ae | apply ab)
  refine aj ?_
  refine aw rfl (aB (k := 1)  rfl ax hS rfl rfl rfl (.inl rfl) ?_)
  refine aw rfl (aB (k := 0)  rfl ax hS rfl rfl rfl (.inl rfl) ?_)
  refine ak rfl (av Tryz.call46 rfl (e6 p q _ hL) ?_)
  rintro _ wc5 ⟨rfl, hBc5⟩
  replace hS := hS.grow hBc5
  refine ak rfl (av Tryz.call98 rfl (rSignum_ok (p - q) _) ?_)
  rintro _ wc6 ⟨rfl, hBc6⟩
  replace hS := hS.grow hBc6
  refine aa rfl (aV  rfl rfl ?_)
  refine aa rfl (am  rfl ?_)
  refine ai ?_
  repeat (with_reducible first | apply ag | apply ac | apply af | apply ae | apply ab)
  refine aE ?_
  repeat (with_reducible first | apply ap | apply ao)
  refine aR rfl rfl ?_
  exact ⟨congrArg Value.bool (decide_eq_decide.2 sub_neg_iff), hS.below⟩
theorem rLesser_ok (p q : Rat) (w : World) (hL : L p + L q ≤ MX) :
    Ret Tryz.prog 50 #[bE (ofQ p), bE (ofQ q)] w fun v w' => v = bE (ofQ (dK p q)) ∧ Below w.heap.size w w' := by
  have hS := St.init w
  refine enter Tryz.func50 rfl Tryz.ntmps50 rfl ?_
  repeat (with_reducible first | apply ag | apply ac | apply af | apply ae | apply ab)
  refine aj ?_
  refine ak rfl (bX (new := aC (ofQ p))  rfl rfl hS ?_)
  intro b1 wz2 hS hBz2
  refine ak rfl (bX (new := aC (ofQ q))  rfl rfl hS ?_)
  intro b3 wz4 hS hBz4
  refine ak rfl (aZ  ax hS ?_)
  intro b5 wz6 hS hBz6
  refine ai ?_
  repeat (with_reducible first | apply ag | apply ac | apply af | apply ae | apply ab)
  refine aj ?_
  refine aw rfl (aB (k := 1)  rfl ax hS rfl rfl rfl (.inl rfl) ?_)
  refine aw rfl (aB (k := 2)  rfl ax hS rfl rfl rfl (.inl rfl) ?_)
  refine ak rfl (av Tryz.call71 rfl (rLess_ok q p _ (by omega)) ?_)
  rintro _ wc7 ⟨rfl, hBc7⟩
  replace hS := hS.grow hBc7
  refine ai ?_
  repeat (with_reducible first | apply ag | apply ac | apply af | apply ae | apply ab)
  by_cases h : q < p
  · refine aD rfl (decide_eq_true h) ?_
    repeat (with_reducible first | apply ag | apply ac | apply af | apply ae | apply ab)
    refine aj ?_
    refine aw rfl (aB (k := 1)  rfl ax hS rfl rfl rfl (.inl rfl) ?_)
    refine ak rfl (a8 (k := 0)  rfl rfl ax hS rfl rfl rfl (Nat.le_of_ble_eq_true rfl) rfl ?_)
    intro wz8 hS
    refine ai ?_
    repeat (with_reducible first | apply ag | apply ac | apply af | apply ae | apply ab)
    refine aE ?_
    repeat (with_reducible first | apply ap | apply ao)
    refine bN (k := 0) rfl rfl ax hS rfl rfl ?_
    exact ⟨by unfold dK; rw [if_neg (Rat.not_le.2 h)]; rfl, hS.below⟩
  · refine aN rfl (decide_eq_false h) ?_
    repeat (with_reducible first | apply ag | apply ac | apply af | apply ae | apply ab)
    refine aj ?_
    refine aw rfl (aB (k := 2)  rfl ax hS rfl rfl rfl (.inl rfl) ?_)
    refine ak rfl (a8 (k := 0)  rfl rfl ax hS rfl rfl rfl (Nat.le_of_ble_eq_true rfl) rfl ?_)
    intro wz9 hS
    refine ai ?_
    repeat (with_reducible first | apply ag | apply ac | apply af | apply ae | apply ab)
    refine aE ?_
    repeat (with_reducible first | apply ap | apply ao)
    refine bN (k := 0) rfl rfl ax hS rfl rfl ?_
    exact ⟨by unfold dK; rw [if_pos (Rat.not_lt.1 h)]; rfl, hS.below⟩
def posQ (q : Rat) : Rat := if q < 0 then 0 else q
theorem rPositive_ok (q : Rat) (w : World) :
    Ret Tryz.prog 73 #[bE (ofQ q)] w fun v w' => v = bE (ofQ (posQ q)) ∧ Below w.heap.size w w' := by
  have hS := St.init w
  refine enter Tryz.func73 rfl Tryz.ntmps73 rfl ?_
  repeat (with_reducible first | apply ag | apply ac | apply af | apply ae | apply ab)
  refine aj ?_
  refine ak rfl (bX (new := aC (ofQ q))  rfl rfl hS ?_)
  intro b1 wz2 hS hBz2
  refine ak rfl (aZ  ax hS ?_)
  intro b3 wz4 hS hBz4
  refine ai ?_
  repeat (with_reducible first | apply ag | apply ac | apply af | apply ae | apply ab)
  refine aj ?_
  refine aa rfl (aH  rfl cn ?_)
  refine aw rfl (aB (k := 1)  rfl dq hS rfl rfl rfl (.inr rfl) ?_)
  refine ai ?_
  repeat (with_reducible first | apply ag | apply ac | apply af | apply ae | apply ab)
  by_cases h2 : q.num < 0
  · refine aD rfl (decide_eq_true h2) ?_
    repeat (with_reducible first | apply ag | apply ac | apply af | apply ae | apply ab)
    refine aj ?_
    refine aa rfl (ce  rfl eJ ?_)
    refine ak rfl (a8 (k := 0)  rfl rfl ax hS rfl rfl rfl (Nat.le_of_ble_eq_true rfl) rfl ?_)
    intro wz5 hS
    refine ai ?_
    repeat (with_reducible first | apply ag | apply ac | apply af | apply ae | apply ab)
    refine aE ?_
    repeat (with_reducible first | apply ap | apply ao)
    refine bN (k := 0) rfl rfl ax hS rfl rfl ?_
    exact ⟨by unfold posQ; rw [if_pos (num_neg.1 h2), cI]; rfl, hS.below⟩
  · refine aN rfl (decide_eq_false h2) ?_
    repeat (with_reducible first | apply ag | apply ac | apply af | apply ae | apply ab)
    refine aj ?_
    refine aw rfl (aB (k := 1)  rfl ax hS rfl rfl rfl (.inl rfl) ?_)
    refine ak rfl (a8 (k := 0)  rfl rfl ax hS rfl rfl rfl (Nat.le_of_ble_eq_true rfl) rfl ?_)
    intro wz6 hS
    refine ai ?_
    repeat (with_reducible first | apply ag | apply ac | apply af | apply ae | apply ab)
    refine aE ?_
    repeat (with_reducible first | apply ap | apply ao)
    refine bN (k := 0) rfl rfl ax hS rfl rfl ?_
    exact ⟨by unfold posQ; rw [if_neg (fun g => h2 (num_neg.2 g))]; rfl, hS.below⟩
theorem gl (r : RR) (w : World) (hr : Lr r ≤ MX) :
    Ret Tryz.prog 70 #[bE r] w fun v w' => v = .int .i64 (dT (toQ r)) ∧ Below w.heap.size w w' := by
  have hS := St.init w
  refine enter Tryz.func70 rfl Tryz.ntmps70 rfl ?_
  repeat (with_reducible first | apply ag | apply ac | apply af | apply ae | apply ab)
  refine aj ?_
  refine ak rfl (bX (new := aC r)  rfl rfl hS ?_)
  intro b1 wz2 hS hBz2
  refine aa rfl (am  rfl ?_)
  refine ai ?_
  repeat (with_reducible first | apply ag | apply ac | apply af | apply ae | apply ab)
  refine aj ?_
  refine aw rfl (aB (k := 0)  rfl ax hS rfl rfl rfl (.inl rfl) ?_)
  refine ak rfl (av Tryz.call49 rfl (iE r _ hr) ?_)
  rintro _ wc3 ⟨rfl, hBc3⟩
  replace hS := hS.grow hBc3
  refine ak rfl (av Tryz.call98 rfl (rSignum_ok (toQ r) _) ?_)
  rintro _ wc4 ⟨rfl, hBc4⟩
  replace hS := hS.grow hBc4
  refine aa rfl (am  rfl ?_)
  refine ai ?_
  repeat (with_reducible first | apply ag | apply ac | apply af | apply ae | apply ab)
  refine aE ?_
  repeat (with_reducible first | apply ap | apply ao)
  refine aR rfl rfl ?_
  exact ⟨rfl, hS.below⟩
end Go.Proofs.YtmghobajmhdbfaaGreatDoor
namespace Go.Proofs.YtmghobajmhdbfaaGreatDoor
open Go Go.RowKit Go.Sx
theorem tl_iff (a b : ByteArray) : a.toList = b.toList ↔ a = b := by
  have := tl_eq a b
  rw [Bool.eq_iff_iff] at this
  simpa using this
theorem equalIn_Rat (d : Nat) (r s : RR) (w : World) : (Op.equalIn (d + 2) 36 (bE r) (bE s)).run Tryz.prog w = .ok (decide (r = s)) w := by
  unfold bE
  rw [run_equalIn_agg (P := Tryz.prog) w (d + 1) 36 _ _ (by kernel_rfl) (by kernel_rfl)]
  have hb : Tryz.prog.underlying 4 = some .bool := by kernel_rfl
  have hs : Tryz.prog.underlying 9 = some .string := by kernel_rfl
  simp only [Program.fieldsOf, Tryz.underlying36]
  simp [Op.eqFields, part, run_equalIn_bool' (P := Tryz.prog) w _ _ _ _ hb, run_equalIn_string (P := Tryz.prog) w _ _ _ _ hs, tl_iff]
  cases r; cases s
  rename_i a b c a' b' c'
  simp only [RR.mk.injEq]
  by_cases h1 : a = a' <;> by_cases h2 : b = b' <;> by_cases h3 : c = c' <;> simp [h1, h2, h3]
section
variable {N : Nat} {ρ : Nat → Value} {d : Option Tmp} {ty : TypeId} {pos : String} {aft : Array Edge} {g : Option (Nat × Bool)} {x y : Operand} {t' : TypeId} {K : Value → Prop}
theorem jl {r s : RR} (hx : ev N ρ x = bE r) (hy : ev N ρ y = bE s) (h : K (.bool (decide (r = s)))) : bP Tryz.prog N ρ ⟨d, .binOp .eql 36 x y t', ty, pos, aft, g⟩ K := by
  refine ⟨_, fun w => ?_, h⟩
  have h1 : (eqGuard .eql 36 x y (bE r) (bE s)).run Tryz.prog w = .ok () w := run_eqGuard_agg (P := Tryz.prog) w .eql 36 x y _ _ (by kernel_rfl)
  have h2 : (binOp .eql 36 (bE r) (bE s)).run Tryz.prog w = .ok (.bool (decide (r = s))) w := by
    have := run_eql_struct (P := Tryz.prog) w 36 #[.bool r.neg, .string r.num, .string r.den] #[.bool s.neg, .string s.num, .string s.den]
    have h3 := equalIn_Rat 9998 r s w
    unfold bE at *
    rw [this, h3]; rfl
  simp only [execOp, hx, hy, Sem.run_bind, h1, h2, Result.andThen_ok]
  rfl
theorem s_neR {r s : RR} (hx : ev N ρ x = bE r) (hy : ev N ρ y = bE s) (h : K (.bool (decide (r ≠ s)))) : bP Tryz.prog N ρ ⟨d, .binOp .neq 36 x y t', ty, pos, aft, g⟩ K := by
  refine ⟨_, fun w => ?_, h⟩
  have h1 : (eqGuard .neq 36 x y (bE r) (bE s)).run Tryz.prog w = .ok () w := run_eqGuard_agg (P := Tryz.prog) w .neq 36 x y _ _ (by kernel_rfl)
  have h2 : (binOp .neq 36 (bE r) (bE s)).run Tryz.prog w = .ok (.bool (decide (r ≠ s))) w := by
    have := run_neq_struct (P := Tryz.prog) w 36 #[.bool r.neg, .string r.num, .string r.den] #[.bool s.neg, .string s.num, .string s.den]
    have h3 := equalIn_Rat 9998 r s w
    unfold bE at *
    rw [this, h3]
    simp [Result.andThen]
  simp only [execOp, hx, hy, Sem.run_bind, h1, h2, Result.andThen_ok]
  rfl
end
theorem SameRats_ok (va vb : Value) (A B : List RR) (w : World) (ha : Sl aC 3 w va A) (hb : Sl aC 3 w vb B) :
    Ret Tryz.prog 22 #[va, vb] w fun v w' => v = .bool (decide (A = B)) ∧ Below w.heap.size w w' := by
  have hS := St.init w
  have hla := ha.maxLen
  have hlb := hb.maxLen
  refine enter Tryz.func22 rfl Tryz.ntmps22 rfl ?_
  repeat (with_reducible first | apply ag | apply ac | apply af | apply ae | apply ab)
  refine aj ?_
  refine aa rfl (am  rfl ?_)
  refine ai ?_
  repeat (with_reducible first | apply ag | apply ac | apply af | apply ae | apply ab)
  refine aj ?_
  refine aa rfl (ah  rfl ?_)
  refine aa rfl (aG  rfl (ha.below hS.below) ⟨_, Tryz.underlying24⟩ ?_)
  refine aa rfl (ah  rfl ?_)
  refine aa rfl (aG  rfl (hb.below hS.below) ⟨_, Tryz.underlying24⟩ ?_)
  refine aa rfl (e9  rfl rfl ?_)
  refine ai ?_
  repeat (with_reducible first | apply ag | apply ac | apply af | apply ae | apply ab)
  by_cases hl : A.length = B.length
  · refine aN rfl (decide_eq_false (by omega)) ?_
    repeat (with_reducible first | apply ag | apply ac | apply af | apply ae | apply ab)
    refine aj ?_
    refine aa rfl (am  rfl ?_)
    refine ai ?_
    repeat (with_reducible first | apply ag | apply ac | apply af | apply ae | apply ab)
    refine a5 (σ := Nat) (fun i ρ w' => i ≤ A.length ∧ A.take i = B.take i ∧ ρ 0 = va ∧ ρ 1 = vb ∧ ρ 5 = .int .i64 i ∧ St w w' []) (fun i => A.length - i) 0
      ⟨Nat.zero_le _, rfl, rfl, rfl, rfl, hS⟩ ?_
    clear hS
    rintro i ρ w2 ⟨hi, hq, h0, h1, h5, hS⟩
    repeat (with_reducible first | apply ag | apply ac | apply af | apply ae | apply ab)
    refine aj ?_
    refine aa rfl (ah  h5 ?_)
    refine aa rfl (ah  h0 ?_)
    refine aa rfl (aG  rfl (ha.below hS.below) ⟨_, Tryz.underlying24⟩ ?_)
    refine aa rfl (aV  rfl rfl ?_)
    refine ai ?_
    repeat (with_reducible first | apply ag | apply ac | apply af | apply ae | apply ab)
    by_cases hlt : i < A.length
    · refine aD rfl (decide_eq_true (by omega)) ?_
      repeat (with_reducible first | apply ag | apply ac | apply af | apply ae | apply ab)
      have hltb : i < B.length := by omega
      repeat (with_reducible first | apply ag | apply ac | apply af | apply ae | apply ab)
      refine bm [(0, .pure), (1, .pure), (2, .pure), (3, .read), (4, .pure), (5, .pure), (6, .pure), (7, .read), (8, .pure)] (by kernel_rfl) (by kernel_rfl) hS ?_
      intro wz1 hS hBz1
      refine al rfl rfl (ah  h0 ?_)
      refine al rfl rfl (ah  h5 ?_)
      refine al rfl rfl (aX (i := i)  rfl rfl (ha.below hS.below) (by omega) (by first | omega | (simp; done) | (simp; omega)) bH ?_)
      refine aF rfl rfl (a6 (i := i) zRR  rfl ax (ha.below hS.below) (by first | omega | (simp; done) | (simp; omega)) rfl rfl (.inl rfl) ?_)
      refine al rfl rfl (ah  h1 ?_)
      refine al rfl rfl (ah  h5 ?_)
      refine al rfl rfl (aX (i := i)  rfl rfl (hb.below hS.below) (by omega) (by first | omega | (simp; done) | (simp; omega)) bH ?_)
      refine aF rfl rfl (a6 (i := i) zRR  rfl ax (hb.below hS.below) (by first | omega | (simp; done) | (simp; omega)) rfl rfl (.inl rfl) ?_)
      refine al rfl rfl (s_neR  rfl rfl ?_)
      refine bC ?_
      repeat (with_reducible first | apply ag | apply ac | apply af | apply ae | apply ab)
      have ta := cR A i zRR hlt
      have tb := cR B i zRR hltb
      by_cases he : A.getD i zRR = B.getD i zRR
      · refine aN rfl (decide_eq_false (not_not_intro he)) ?_
        repeat (with_reducible first | apply ag | apply ac | apply af | apply ae | apply ab)
        refine aj ?_
        refine aa rfl (ah  h5 ?_)
        refine aa rfl (aK  rfl rfl (IntWalk.i64_in _ (by omega)) ?_)
        refine aa rfl (am  rfl ?_)
        refine ai ?_
        repeat (with_reducible first | apply ag | apply ac | apply af | apply ae | apply ab)
        exact ⟨i + 1, _, rfl, ⟨hlt, by rw [ta, tb, hq, he], h0, h1, vi rfl (by omega), hS⟩, by omega⟩
      · refine aD rfl (decide_eq_true he) ?_
        repeat (with_reducible first | apply ag | apply ac | apply af | apply ae | apply ab)
        refine aj ?_
        refine aa rfl (am  rfl ?_)
        refine ai ?_
        repeat (with_reducible first | apply ag | apply ac | apply af | apply ae | apply ab)
        refine aE ?_
        repeat (with_reducible first | apply ap | apply ao)
        refine aR rfl rfl ?_
        refine ⟨congrArg Value.bool ?_, hS.below⟩
        symm; rw [decide_eq_false_iff_not]
        intro h
        rw [h] at he
        exact he rfl
    · refine aN rfl (decide_eq_false (by omega)) ?_
      repeat (with_reducible first | apply ag | apply ac | apply af | apply ae | apply ab)
      refine aU ?_
      repeat (with_reducible first | apply aA | apply az | refine ay rfl ?_)
      repeat (with_reducible first | apply ag | apply ac | apply af | apply ae | apply ab)
      obtain rfl : i = A.length := by omega
      rw [List.take_length, hl, List.take_length] at hq
      repeat (with_reducible first | apply ag | apply ac | apply af | apply ae | apply ab)
      refine aj ?_
      refine aa rfl (am  rfl ?_)
      refine ai ?_
      repeat (with_reducible first | apply ag | apply ac | apply af | apply ae | apply ab)
      refine aE ?_
      repeat (with_reducible first | apply ap | apply ao)
      refine aR rfl rfl ?_
      exact ⟨congrArg Value.bool (decide_eq_true hq).symm, hS.below⟩
  · refine aD rfl (decide_eq_true (by omega)) ?_
    repeat (with_reducible first | apply ag | apply ac | apply af | apply ae | apply ab)
    refine aj ?_
    refine aa rfl (am  rfl ?_)
    refine ai ?_
    repeat (with_reducible first | apply ag | apply ac | apply af | apply ae | apply ab)
    refine aE ?_
    repeat (with_reducible first | apply ap | apply ao)
    refine aR rfl rfl ?_
    refine ⟨congrArg Value.bool ?_, hS.below⟩
    symm; rw [decide_eq_false_iff_not]
    intro h
    rw [h] at hl
    exact hl rfl
def few (r : RR) : Bool := decide (r.num.size ≤ 24) && decide (r.den.size ≤ 24)
theorem jb {r : RR} (h : few r = true) : Lr r ≤ 24 := by
  simp only [few, Bool.and_eq_true, decide_eq_true_eq] at h
  unfold Lr; omega
theorem iL (r : RR) (w : World) :
    Ret Tryz.prog 40 #[bE r] w fun v w' => v = .bool (few r) ∧ Below w.heap.size w w' := by
  have hS := St.init w
  refine enter Tryz.func40 rfl Tryz.ntmps40 rfl ?_
  repeat (with_reducible first | apply ag | apply ac | apply af | apply ae | apply ab)
  refine aj ?_
  refine ak rfl (bX (new := aC r)  rfl rfl hS ?_)
  intro b1 wz2 hS hBz2
  refine aa rfl (am  rfl ?_)
  refine ai ?_
  repeat (with_reducible first | apply ag | apply ac | apply af | apply ae | apply ab)
  by_cases h : r.num.size ≤ 24
  · repeat (with_reducible first | apply ag | apply ac | apply af | apply ae | apply ab)
    refine aj ?_
    refine aa rfl (aH  rfl bM ?_)
    refine aw rfl (aB (k := 0)  rfl cg hS rfl rfl rfl (.inr rfl) ?_)
    refine aa rfl (dt  rfl Tryz.underlying9 ?_)
    refine aa rfl (ju  rfl rfl ?_)
    refine aa rfl (ah  rfl ?_)
    refine aa (ar 7 (by kernel_rfl) rfl (decide_eq_true (by exact_mod_cast h))) (aH  rfl bO ?_)
    refine aw (ar 7 (by kernel_rfl) rfl (decide_eq_true (by exact_mod_cast h))) (aB (k := 0)  rfl cg hS rfl rfl rfl (.inr rfl) ?_)
    refine aa (ar 7 (by kernel_rfl) rfl (decide_eq_true (by exact_mod_cast h))) (dt  rfl Tryz.underlying9 ?_)
    refine aa (ar 7 (by kernel_rfl) rfl (decide_eq_true (by exact_mod_cast h))) (ju  rfl rfl ?_)
    refine aa rfl (aJ (vb rfl (decide_eq_true (by exact_mod_cast h))) rfl ?_)
    refine aa rfl (am  rfl ?_)
    refine ai ?_
    repeat (with_reducible first | apply ag | apply ac | apply af | apply ae | apply ab)
    refine aE ?_
    repeat (with_reducible first | apply ap | apply ao)
    refine aR rfl rfl ?_
    refine ⟨congrArg Value.bool ?_, hS.below⟩
    unfold few; rw [decide_eq_true h, Bool.true_and, decide_eq_decide]; omega
  · repeat (with_reducible first | apply ag | apply ac | apply af | apply ae | apply ab)
    refine aj ?_
    refine aa rfl (aH  rfl bM ?_)
    refine aw rfl (aB (k := 0)  rfl cg hS rfl rfl rfl (.inr rfl) ?_)
    refine aa rfl (dt  rfl Tryz.underlying9 ?_)
    refine aa rfl (ju  rfl rfl ?_)
    refine aa rfl (ah  rfl ?_)
    refine aW (au 7 (by kernel_rfl) rfl (decide_eq_false (by omega))) ?_
    refine aW (au 7 (by kernel_rfl) rfl (decide_eq_false (by omega))) ?_
    refine aW (au 7 (by kernel_rfl) rfl (decide_eq_false (by omega))) ?_
    refine aW (au 7 (by kernel_rfl) rfl (decide_eq_false (by omega))) ?_
    refine aa rfl (aJ (vb rfl (decide_eq_false (by omega))) rfl ?_)
    refine aa rfl (am  rfl ?_)
    refine ai ?_
    repeat (with_reducible first | apply ag | apply ac | apply af | apply ae | apply ab)
    refine aE ?_
    repeat (with_reducible first | apply ap | apply ao)
    refine aR rfl rfl ?_
    refine ⟨congrArg Value.bool ?_, hS.below⟩
    unfold few; rw [decide_eq_false h]; rfl
theorem FewRats_ok (va : Value) (A : List RR) (n : Int) (w : World) (ha : Sl aC 3 w va A) :
    Ret Tryz.prog 39 #[va, .int .i64 n] w fun v w' => v = .bool (decide ((A.length : Int) ≤ n) && A.all few) ∧ Below w.heap.size w w' := by
  have hS := St.init w
  have hla := ha.maxLen
  refine enter Tryz.func39 rfl Tryz.ntmps39 rfl ?_
  repeat (with_reducible first | apply ag | apply ac | apply af | apply ae | apply ab)
  refine aj ?_
  refine aa rfl (am  rfl ?_)
  refine ai ?_
  repeat (with_reducible first | apply ag | apply ac | apply af | apply ae | apply ab)
  refine aj ?_
  refine aa rfl (ah  rfl ?_)
  refine aa rfl (aG  rfl (ha.below hS.below) ⟨_, Tryz.underlying24⟩ ?_)
  refine aa rfl (ah  rfl ?_)
  refine aa rfl (cf  rfl rfl ?_)
  refine ai ?_
  repeat (with_reducible first | apply ag | apply ac | apply af | apply ae | apply ab)
  by_cases hl : (A.length : Int) ≤ n
  · rw [decide_eq_true hl, Bool.true_and]
    refine aN rfl (decide_eq_false (by omega)) ?_
    repeat (with_reducible first | apply ag | apply ac | apply af | apply ae | apply ab)
    refine aj ?_
    refine aa rfl (ah  rfl ?_)
    refine aa rfl (aG  rfl (ha.below hS.below) ⟨_, Tryz.underlying24⟩ ?_)
    refine aa rfl (ah  rfl ?_)
    refine ai ?_
    repeat (with_reducible first | apply ag | apply ac | apply af | apply ae | apply ab)
    refine a5 (σ := Nat) (fun i ρ w' => i ≤ A.length ∧ (A.take i).all few = true ∧ ρ 11 = va ∧ ρ 12 = .int .i64 A.length ∧ ρ 13 = .int .i64 i ∧ St w w' []) (fun i => A.length - i) 0
      ⟨Nat.zero_le _, rfl, rfl, rfl, rfl, hS⟩ ?_
    clear hS
    rintro i ρ w2 ⟨hi, hq, h11, h12, h13, hS⟩
    repeat (with_reducible first | apply ag | apply ac | apply af | apply ae | apply ab)
    refine aj ?_
    refine aa rfl (aV  h13 h12 ?_)
    refine ai ?_
    repeat (with_reducible first | apply ag | apply ac | apply af | apply ae | apply ab)
    by_cases hlt : i < A.length
    · refine aD rfl (decide_eq_true (by omega)) ?_
      repeat (with_reducible first | apply ag | apply ac | apply af | apply ae | apply ab)
      have ta := cR A i zRR hlt
      have hm := cb A i zRR hlt
      repeat (with_reducible first | apply ag | apply ac | apply af | apply ae | apply ab)
      refine aj ?_
      refine aa rfl (aX (i := i)  h11 h13 (ha.below hS.below) (by omega) (by first | omega | (simp; done) | (simp; omega)) bH ?_)
      refine aw rfl (a6 (i := i) zRR  rfl ax (ha.below hS.below) (by first | omega | (simp; done) | (simp; omega)) rfl rfl (.inl rfl) ?_)
      refine ak rfl (aZ  ax hS ?_)
      intro b1 wz2 hS hBz2
      refine ak rfl (a8 (k := 0)  rfl rfl ax hS rfl rfl rfl (Nat.le_of_ble_eq_true rfl) rfl ?_)
      intro wz3 hS
      refine ai ?_
      repeat (with_reducible first | apply ag | apply ac | apply af | apply ae | apply ab)
      replace hS : St w _ [(_, 36, aC (A.getD i zRR))] := hS
      repeat (with_reducible first | apply ag | apply ac | apply af | apply ae | apply ab)
      refine aj ?_
      refine aw rfl (aB (k := 0)  rfl ax hS rfl rfl rfl (.inl rfl) ?_)
      refine ak rfl (av Tryz.call40 rfl (iL (A.getD i zRR) _) ?_)
      rintro _ wc4 ⟨rfl, hBc4⟩
      replace hS := hS.grow hBc4
      refine aa rfl (dX  rfl ?_)
      refine ai ?_
      repeat (with_reducible first | apply ag | apply ac | apply af | apply ae | apply ab)
      by_cases he : few (A.getD i zRR) = true
      · refine aN rfl (by rw [he]; rfl) ?_
        repeat (with_reducible first | apply ag | apply ac | apply af | apply ae | apply ab)
        refine aj ?_
        refine aa rfl (aK  h13 rfl (IntWalk.i64_in _ (by omega)) ?_)
        refine aa rfl (ah  rfl ?_)
        refine ai ?_
        repeat (with_reducible first | apply ag | apply ac | apply af | apply ae | apply ab)
        exact ⟨i + 1, _, rfl, ⟨hlt, by rw [ta, List.all_append, hq]; simpa using he, h11, h12, vi rfl (by omega), hS.drop (List.nil_sublist _)⟩, by omega⟩
      · rw [Bool.not_eq_true] at he
        refine aD rfl (by rw [he]; rfl) ?_
        repeat (with_reducible first | apply ag | apply ac | apply af | apply ae | apply ab)
        refine aj ?_
        refine aa rfl (am  rfl ?_)
        refine ai ?_
        repeat (with_reducible first | apply ag | apply ac | apply af | apply ae | apply ab)
        refine aE ?_
        repeat (with_reducible first | apply ap | apply ao)
        refine aR rfl rfl ?_
        refine ⟨congrArg Value.bool ?_, hS.below⟩
        symm
        rw [List.all_eq_false]
        exact ⟨_, hm, by rw [he]; decide⟩
    · refine aN rfl (decide_eq_false (by omega)) ?_
      repeat (with_reducible first | apply ag | apply ac | apply af | apply ae | apply ab)
      refine aU ?_
      repeat (with_reducible first | apply aA | apply az | refine ay rfl ?_)
      repeat (with_reducible first | apply ag | apply ac | apply af | apply ae | apply ab)
      obtain rfl : i = A.length := by omega
      rw [List.take_length] at hq
      repeat (with_reducible first | apply ag | apply ac | apply af | apply ae | apply ab)
      refine aj ?_
      refine aa rfl (am  rfl ?_)
      refine ai ?_
      repeat (with_reducible first | apply ag | apply ac | apply af | apply ae | apply ab)
      refine aE ?_
      repeat (with_reducible first | apply ap | apply ao)
      refine aR rfl rfl ?_
      exact ⟨congrArg Value.bool hq.symm, hS.below⟩
  · rw [decide_eq_false hl, Bool.false_and]
    refine aD rfl (decide_eq_true (by omega)) ?_
    repeat (with_reducible first | apply ag | apply ac | apply af | apply ae | apply ab)
    refine aj ?_
    refine aa rfl (am  rfl ?_)
    refine ai ?_
    repeat (with_reducible first | apply ag | apply ac | apply af | apply ae | apply ab)
    refine aE ?_
    repeat (with_reducible first | apply ap | apply ao)
    refine aR rfl rfl ?_
    exact ⟨rfl, hS.below⟩
end Go.Proofs.YtmghobajmhdbfaaGreatDoor
namespace Go.Sx
open Go Go.RowKit
structure Ch where
  claim : Int
  prio : Int
  lim : Bool
  limit : RR
structure It where
  price : RR
  costs : RR
  charges : List Ch
def cS (c : Ch) : List Value := [.int .i64 c.claim, .int .i64 c.prio, .bool c.lim, .bool c.limit.neg, .string c.limit.num, .string c.limit.den]
def dx (x : It × Value) : List Value := [.bool x.1.price.neg, .string x.1.price.num, .string x.1.price.den, .bool x.1.costs.neg, .string x.1.costs.num, .string x.1.costs.den, x.2]
def fq (x : It) (cv : Value) : Value := .agg #[.bool x.price.neg, .string x.price.num, .string x.price.den, .bool x.costs.neg, .string x.costs.num, .string x.costs.den, cv]
def zCh : Ch := ⟨0, 0, false, ⟨false, ⟨#[]⟩, ⟨#[]⟩⟩⟩
def zIt : It := ⟨⟨false, ⟨#[]⟩, ⟨#[]⟩⟩, ⟨false, ⟨#[]⟩, ⟨#[]⟩⟩, []⟩
/-- A slice of items: each with its own slice of charges. -/
structure Its (w : World) (v : Value) (X : List It) (cvs : List Value) : Prop where
  len : cvs.length = X.length
  sl : Sl dx 7 w v (X.zip cvs)
  ch : ∀ i, i < X.length → Sl cS 6 w (cvs.getD i undef) (X.getD i zIt).charges
theorem Its.below {w w' : World} {v : Value} {X : List It} {cvs : List Value} (h : Its w v X cvs) (hb : Below w.heap.size w w') : Its w' v X cvs := ⟨h.len, h.sl.below hb, fun i hi => (h.ch i hi).below hb⟩
theorem Its.zlen {w : World} {v : Value} {X : List It} {cvs : List Value} (h : Its w v X cvs) : (X.zip cvs).length = X.length := by rw [List.length_zip, h.len]; omega
theorem Its.zget {w : World} {v : Value} {X : List It} {cvs : List Value} (h : Its w v X cvs) {i : Nat} (hi : i < X.length) : (X.zip cvs).getD i (zIt, undef) = (X.getD i zIt, cvs.getD i undef) := by
  have h1 : i < cvs.length := by rw [h.len]; exact hi
  have h2 : i < (X.zip cvs).length := by rw [h.zlen]; exact hi
  rw [List.getD_eq_getElem?_getD, List.getElem?_eq_getElem h2, List.getElem_zip, List.getD_eq_getElem?_getD, List.getElem?_eq_getElem hi, List.getD_eq_getElem?_getD, List.getElem?_eq_getElem h1]; rfl
/-- The first error of a list's members, or 0. -/
def co {α : Type} (f : α → Int) : List α → Int
  | [] => 0
  | x :: l => if f x = 0 then co f l else f x
theorem firstE_append {α : Type} (f : α → Int) (l m : List α) : co f (l ++ m) = if co f l = 0 then co f m else co f l := by
  induction l with
  | nil => simp [co]
  | cons x l ih =>
    simp only [List.cons_append, co, ih]
    by_cases h : f x = 0 <;> simp [h]
theorem fy {α : Type} (f : α → Int) (l : List α) (d : α) {i : Nat} (hi : i < l.length) (h : co f (l.take i) = 0) :
    (f (l.getD i d) = 0 → co f (l.take (i + 1)) = 0) ∧ (f (l.getD i d) ≠ 0 → co f l = f (l.getD i d)) := by
  have ht : l.take (i + 1) = l.take i ++ [l.getD i d] := by
    rw [List.take_succ_eq_append_getElem hi, List.getD_eq_getElem?_getD, List.getElem?_eq_getElem hi]; rfl
  constructor
  · intro h1
    rw [ht, firstE_append, h, if_pos rfl, co, if_pos h1]; rfl
  · intro h1
    have hl : l = l.take i ++ (l.getD i d :: l.drop (i + 1)) := by
      conv => lhs; rw [← List.take_append_drop (i + 1) l, ht, List.append_assoc]
      rfl
    conv => lhs; rw [hl]
    rw [firstE_append, h, if_pos rfl, co, if_neg h1]
def da (m : Nat) (c : Ch) : Int := if c.claim < 0 ∨ (m : Int) ≤ c.claim then 1 else if c.lim = true ∧ toQ c.limit < 0 then 7 else 0
def dh (m : Nat) (x : It) : Int := if 8 < x.charges.length then 2 else if toQ x.price < 0 ∨ toQ x.costs < 0 then 7 else co (da m) x.charges
def gh (l : List RR) : Bool := l.any fun r => decide (toQ r < 0)
def bS (X : List It) (owed : List RR) : Int := if 8 < X.length ∨ 24 < owed.length then 2 else if gh owed = true then 7 else co (dh owed.length) X
/-- How long the numbers of items are. -/
def ItB (k : Nat) (X : List It) : Prop := ∀ x ∈ X, Lr x.price ≤ k ∧ Lr x.costs ≤ k ∧ ∀ c ∈ x.charges, Lr c.limit ≤ k
def RB (k : Nat) (l : List RR) : Prop := ∀ r ∈ l, Lr r ≤ k
end Go.Sx
namespace Go.Proofs.YtmghobajmhdbfaaGreatDoor
open Go Go.RowKit Go.Sx
theorem lam_ok (r : RR) (w : World) (hr : Lr r ≤ MX) :
    Ret Tryz.prog 55 #[bE r] w fun v w' => v = .bool (decide (toQ r < 0)) ∧ Below w.heap.size w w' := by
  have hS := St.init w
  refine enter Tryz.func55 rfl Tryz.ntmps55 rfl ?_
  repeat (with_reducible first | apply ag | apply ac | apply af | apply ae | apply ab)
  refine aj ?_
  refine ak rfl (bX (new := aC r)  rfl rfl hS ?_)
  intro b1 wz2 hS hBz2
  refine aa rfl (am  rfl ?_)
  refine ai ?_
  repeat (with_reducible first | apply ag | apply ac | apply af | apply ae | apply ab)
  refine aj ?_
  refine aw rfl (aB (k := 0)  rfl ax hS rfl rfl rfl (.inl rfl) ?_)
  refine ak rfl (av Tryz.call12 rfl (eS r _ hr) ?_)
  rintro _ wc3 ⟨rfl, hBc3⟩
  replace hS := hS.grow hBc3
  refine aa rfl (aV  rfl rfl ?_)
  refine aa rfl (am  rfl ?_)
  refine ai ?_
  repeat (with_reducible first | apply ag | apply ac | apply af | apply ae | apply ab)
  refine aE ?_
  repeat (with_reducible first | apply ap | apply ao)
  refine aR rfl rfl ?_
  exact ⟨congrArg Value.bool (decide_eq_decide.2 sgnQ_neg), hS.below⟩
theorem negs_take (l : List RR) {i : Nat} (hi : i < l.length) (h : gh (l.take i) = false) : (¬ toQ (l.getD i zRR) < 0 → gh (l.take (i + 1)) = false) ∧ (toQ (l.getD i zRR) < 0 → gh l = true) := by
  have ht := cR l i zRR hi
  constructor
  · intro h1
    unfold gh at *
    rw [ht, List.any_append, h]
    simpa using h1
  · intro h1
    unfold gh
    rw [List.any_eq_true]
    exact ⟨_, cb l i zRR hi, decide_eq_true h1⟩
theorem IndexFunc_ok (v : Value) (l : List RR) (w : World) (hv : Sl aC 3 w v l) (hl : RB MX l) :
    Ret Tryz.prog 86 #[v, .func (.func 55) #[] #[]] w fun r w' => (∃ k : Int, r = .int .i64 k ∧ (0 ≤ k ↔ gh l = true)) ∧ Below w.heap.size w w' := by
  have hmax := hv.maxLen
  have hS := St.init w
  refine enter Tryz.func86 rfl Tryz.ntmps86 rfl ?_
  repeat (with_reducible first | apply ag | apply ac | apply af | apply ae | apply ab)
  refine aj ?_
  refine aa rfl (am  rfl ?_)
  refine ai ?_
  repeat (with_reducible first | apply ag | apply ac | apply af | apply ae | apply ab)
  refine aj ?_
  refine aa rfl (ah  rfl ?_)
  refine aa rfl (aG  rfl (hv.below hS.below) ⟨_, Tryz.underlying24⟩ ?_)
  refine aa rfl (ah  rfl ?_)
  refine ai ?_
  repeat (with_reducible first | apply ag | apply ac | apply af | apply ae | apply ab)
  refine a5 (σ := Nat) (fun i ρ w' => i ≤ l.length ∧ gh (l.take i) = false ∧ ρ 0 = v ∧ ρ 1 = .func (.func 55) #[] #[] ∧ ρ 7 = .int .i64 l.length ∧ ρ 8 = .int .i64 i ∧ St w w' []) (fun i => l.length - i) 0
    ⟨Nat.zero_le _, rfl, rfl, rfl, rfl, rfl, hS⟩ ?_
  clear hS
  rintro i ρ w2 ⟨hi, hn, h0, h1, h7, h8, hS⟩
  repeat (with_reducible first | apply ag | apply ac | apply af | apply ae | apply ab)
  refine aj ?_
  refine aa rfl (aV  h8 h7 ?_)
  refine ai ?_
  repeat (with_reducible first | apply ag | apply ac | apply af | apply ae | apply ab)
  by_cases hlt : i < l.length
  · refine aD rfl (decide_eq_true (by omega)) ?_
    repeat (with_reducible first | apply ag | apply ac | apply af | apply ae | apply ab)
    obtain ⟨t1, t2⟩ := negs_take l hlt hn
    repeat (with_reducible first | apply ag | apply ac | apply af | apply ae | apply ab)
    refine aj ?_
    refine aa rfl (ah  h8 ?_)
    refine aa rfl (am  rfl ?_)
    refine ai ?_
    repeat (with_reducible first | apply ag | apply ac | apply af | apply ae | apply ab)
    refine aj ?_
    refine aa rfl (ah  h1 ?_)
    refine aa rfl (ah  h0 ?_)
    refine aa rfl (ah  rfl ?_)
    refine aa rfl (aX (i := i)  rfl rfl (hv.below hS.below) (by omega) (by first | omega | (simp; done) | (simp; omega)) bH ?_)
    refine aw rfl (a6 (i := i) zRR  rfl ax (hv.below hS.below) (by first | omega | (simp; done) | (simp; omega)) rfl rfl (.inl rfl) ?_)
    refine ak rfl (s_callv Tryz.call55 rfl rfl (lam_ok (l.getD i zRR) _ (hl _ (cb l i zRR hlt))) ?_)
    rintro r w3 ⟨rfl, hB3⟩
    replace hS := hS.grow hB3
    refine ai ?_
    repeat (with_reducible first | apply ag | apply ac | apply af | apply ae | apply ab)
    by_cases hneg : toQ (l.getD i zRR) < 0
    · refine aD rfl (decide_eq_true hneg) ?_
      repeat (with_reducible first | apply ag | apply ac | apply af | apply ae | apply ab)
      refine aj ?_
      refine aa rfl (ah  rfl ?_)
      refine aa rfl (am  rfl ?_)
      refine ai ?_
      repeat (with_reducible first | apply ag | apply ac | apply af | apply ae | apply ab)
      refine aE ?_
      repeat (with_reducible first | apply ap | apply ao)
      refine aR rfl rfl ?_
      exact ⟨⟨_, rfl, ⟨fun _ => t2 hneg, fun _ => by omega⟩⟩, hS.below⟩
    · refine aN rfl (decide_eq_false hneg) ?_
      repeat (with_reducible first | apply ag | apply ac | apply af | apply ae | apply ab)
      refine aj ?_
      refine aa rfl (aK  h8 rfl (IntWalk.i64_in _ (by omega)) ?_)
      refine aa rfl (ah  rfl ?_)
      refine ai ?_
      repeat (with_reducible first | apply ag | apply ac | apply af | apply ae | apply ab)
      exact ⟨i + 1, _, rfl, ⟨hlt, t1 hneg, h0, h1, h7, vi rfl (by omega), hS⟩, by omega⟩
  · refine aN rfl (decide_eq_false (by omega)) ?_
    repeat (with_reducible first | apply ag | apply ac | apply af | apply ae | apply ab)
    refine aU ?_
    repeat (with_reducible first | apply aA | apply az | refine ay rfl ?_)
    repeat (with_reducible first | apply ag | apply ac | apply af | apply ae | apply ab)
    obtain rfl : i = l.length := by omega
    rw [List.take_length] at hn
    repeat (with_reducible first | apply ag | apply ac | apply af | apply ae | apply ab)
    refine aj ?_
    refine aa rfl (am  rfl ?_)
    refine ai ?_
    repeat (with_reducible first | apply ag | apply ac | apply af | apply ae | apply ab)
    refine aE ?_
    repeat (with_reducible first | apply ap | apply ao)
    refine aR rfl rfl ?_
    exact ⟨⟨_, rfl, ⟨fun h => by omega, fun h => by rw [hn] at h; cases h⟩⟩, hS.below⟩
theorem ContainsFunc_ok (v : Value) (l : List RR) (w : World) (hv : Sl aC 3 w v l) (hl : RB MX l) :
    Ret Tryz.prog 54 #[v, .func (.func 55) #[] #[]] w fun r w' => r = .bool (gh l) ∧ Below w.heap.size w w' := by
  have hS := St.init w
  refine enter Tryz.func54 rfl Tryz.ntmps54 rfl ?_
  repeat (with_reducible first | apply ag | apply ac | apply af | apply ae | apply ab)
  refine aj ?_
  refine aa rfl (am  rfl ?_)
  refine ai ?_
  repeat (with_reducible first | apply ag | apply ac | apply af | apply ae | apply ab)
  refine aj ?_
  refine aa rfl (ah  rfl ?_)
  refine aa rfl (ah  rfl ?_)
  refine ak rfl (av Tryz.call86 rfl (IndexFunc_ok v l _ hv hl) ?_)
  rintro r w3 ⟨⟨k, rfl, hk⟩, hB3⟩
  replace hS := hS.grow hB3
  refine aa rfl (df  rfl rfl ?_)
  refine aa rfl (am  rfl ?_)
  refine ai ?_
  repeat (with_reducible first | apply ag | apply ac | apply af | apply ae | apply ab)
  refine aE ?_
  repeat (with_reducible first | apply ap | apply ao)
  refine aR rfl rfl ?_
  refine ⟨congrArg Value.bool ?_, hS.below⟩
  rw [Bool.eq_iff_iff, decide_eq_true_iff]; exact hk
set_option maxHeartbeats 1000000 in
theorem gS (vi_ vo : Value) (X : List It) (cvs : List Value) (owed : List RR) (w : World) (hX : Its w vi_ X cvs) (ho : Sl aC 3 w vo owed) (hXB : ItB MX X) (hoB : RB MX owed) :
    Ret Tryz.prog 25 #[vi_, vo] w fun r w' => r = .int .i64 (bS X owed) ∧ Below w.heap.size w w' := by
  have hmo := ho.maxLen
  have hmX := hX.sl.maxLen
  rw [hX.zlen] at hmX
  have hzl := hX.zlen
  have hS := St.init w
  obtain ⟨m, hm⟩ : ∃ m, m = owed.length := ⟨_, rfl⟩
  refine enter Tryz.func25 rfl Tryz.ntmps25 rfl ?_
  repeat (with_reducible first | apply ag | apply ac | apply af | apply ae | apply ab)
  refine aj ?_
  refine aa rfl (am  rfl ?_)
  refine ai ?_
  repeat (with_reducible first | apply ag | apply ac | apply af | apply ae | apply ab)
  refine a9 (fun ρ w' => ρ 0 = vi_ ∧ ρ 1 = vo ∧ ρ 16 = .bool (decide (8 < X.length ∨ 24 < owed.length)) ∧ w = w') ?_ ?_
  · by_cases h1 : 8 < X.length
    · repeat (with_reducible first | apply ag | apply ac | apply af | apply ae | apply ab)
      refine aj ?_
      refine aa rfl (ah  rfl ?_)
      refine aa rfl (aG  rfl (hX.sl.below hS.below) ⟨_, Tryz.underlying26⟩ ?_)
      refine aa rfl (cf  rfl rfl ?_)
      refine aa rfl (ah  rfl ?_)
      refine aW (au 12 (by kernel_rfl) rfl (decide_eq_true (by omega))) ?_
      refine aW (au 12 (by kernel_rfl) rfl (decide_eq_true (by omega))) ?_
      refine aW (au 12 (by kernel_rfl) rfl (decide_eq_true (by omega))) ?_
      refine aa rfl (aJ (vb rfl (decide_eq_true (by omega))) rfl ?_)
      refine ai ?_
      repeat (with_reducible first | apply ag | apply ac | apply af | apply ae | apply ab)
      exact ⟨_, rfl, rfl, rfl, vb rfl (decide_eq_true (.inl h1)).symm, rfl⟩
    · repeat (with_reducible first | apply ag | apply ac | apply af | apply ae | apply ab)
      refine aj ?_
      refine aa rfl (ah  rfl ?_)
      refine aa rfl (aG  rfl (hX.sl.below hS.below) ⟨_, Tryz.underlying26⟩ ?_)
      refine aa rfl (cf  rfl rfl ?_)
      refine aa rfl (ah  rfl ?_)
      refine aa (ar 12 (by kernel_rfl) rfl (decide_eq_false (by omega))) (ah  rfl ?_)
      refine aa (ar 12 (by kernel_rfl) rfl (decide_eq_false (by omega))) (aG  rfl (ho.below hS.below) ⟨_, Tryz.underlying24⟩ ?_)
      refine aa (ar 12 (by kernel_rfl) rfl (decide_eq_false (by omega))) (cf  rfl rfl ?_)
      refine aa rfl (aJ (vb rfl (decide_eq_false (by omega))) rfl ?_)
      refine ai ?_
      repeat (with_reducible first | apply ag | apply ac | apply af | apply ae | apply ab)
      exact ⟨_, rfl, rfl, rfl, vb rfl (by rw [decide_eq_decide]; omega), rfl⟩
  rintro ρ w' ⟨h0, h1, h16, rfl⟩
  repeat (with_reducible first | apply ag | apply ac | apply af | apply ae | apply ab)
  by_cases hlong : 8 < X.length ∨ 24 < owed.length
  · refine aD h16 (decide_eq_true hlong) ?_
    repeat (with_reducible first | apply ag | apply ac | apply af | apply ae | apply ab)
    refine aj ?_
    refine aa rfl (am  rfl ?_)
    refine ai ?_
    repeat (with_reducible first | apply ag | apply ac | apply af | apply ae | apply ab)
    refine aE ?_
    repeat (with_reducible first | apply ap | apply ao)
    refine aR rfl rfl ?_
    exact ⟨vi rfl (by unfold bS; rw [if_pos hlong]), hS.below⟩
  refine aN h16 (decide_eq_false hlong) ?_
  repeat (with_reducible first | apply ag | apply ac | apply af | apply ae | apply ab)
  refine aj ?_
  refine aa rfl (ah  h1 ?_)
  refine ak rfl (av Tryz.call54 rfl (ContainsFunc_ok vo owed _ ho hoB) ?_)
  rintro _ wc1 ⟨rfl, hBc1⟩
  replace hS := hS.grow hBc1
  refine ai ?_
  repeat (with_reducible first | apply ag | apply ac | apply af | apply ae | apply ab)
  by_cases hneg : gh owed = true
  · refine aD rfl (hneg) ?_
    repeat (with_reducible first | apply ag | apply ac | apply af | apply ae | apply ab)
    refine aj ?_
    refine aa rfl (am  rfl ?_)
    refine ai ?_
    repeat (with_reducible first | apply ag | apply ac | apply af | apply ae | apply ab)
    refine aE ?_
    repeat (with_reducible first | apply ap | apply ao)
    refine aR rfl rfl ?_
    exact ⟨vi rfl (by unfold bS; rw [if_neg hlong, if_pos hneg]), hS.below⟩
  refine aN rfl (by rw [← Bool.not_eq_true]; exact hneg) ?_
  repeat (with_reducible first | apply ag | apply ac | apply af | apply ae | apply ab)
  have hfin : bS X owed = co (dh m) X := by unfold bS; rw [if_neg hlong, if_neg hneg, hm]
  rw [hfin]
  repeat (with_reducible first | apply ag | apply ac | apply af | apply ae | apply ab)
  refine aj ?_
  refine aa rfl (ah  h0 ?_)
  refine aa rfl (aG  rfl (hX.sl.below hS.below) ⟨_, Tryz.underlying26⟩ ?_)
  refine aa rfl (ah  rfl ?_)
  refine ai ?_
  repeat (with_reducible first | apply ag | apply ac | apply af | apply ae | apply ab)
  refine a5 (σ := Nat) (fun i ρ w' => i ≤ X.length ∧ co (dh m) (X.take i) = 0 ∧ ρ 1 = vo ∧ ρ 19 = vi_ ∧ ρ 20 = .int .i64 X.length ∧ ρ 21 = .int .i64 i ∧ St w w' []) (fun i => X.length - i) 0
    ⟨Nat.zero_le _, rfl, h1, rfl, vi rfl (by rw [hzl]), rfl, hS⟩ ?_
  clear hS h0 h1 h16
  rintro i ρ w2 ⟨hi, hok1, h1, h19, h20, h21, hS⟩
  repeat (with_reducible first | apply ag | apply ac | apply af | apply ae | apply ab)
  refine aj ?_
  refine aa rfl (aV  h21 h20 ?_)
  refine ai ?_
  repeat (with_reducible first | apply ag | apply ac | apply af | apply ae | apply ab)
  by_cases hlt : i < X.length
  · refine aD rfl (decide_eq_true (by omega)) ?_
    repeat (with_reducible first | apply ag | apply ac | apply af | apply ae | apply ab)
    obtain ⟨x, hx⟩ : ∃ x, x = X.getD i zIt := ⟨_, rfl⟩
    obtain ⟨cv, hcv⟩ : ∃ cv, cv = cvs.getD i undef := ⟨_, rfl⟩
    have hmem : x ∈ X := by rw [hx]; exact cb X i zIt hlt
    have hxB := hXB x hmem
    have hch := hX.ch i hlt
    rw [← hx, ← hcv] at hch
    have hmc := hch.maxLen
    obtain ⟨ca, ccap, hcve, _⟩ := hch.form
    subst hcve
    have hzg := hX.zget hlt
    rw [← hx, ← hcv] at hzg
    obtain ⟨f1, f2⟩ := fy (dh m) X zIt hlt hok1
    rw [← hx] at f1 f2
    repeat (with_reducible first | apply ag | apply ac | apply af | apply ae | apply ab)
    refine aj ?_
    refine aa rfl (aX (i := i)  h19 h21 (hX.sl.below hS.below) (by omega) (by first | omega | (simp; done) | (simp; omega)) g8 ?_)
    refine aw rfl (a6 (v := fq x (.slice ca x.charges.length ccap)) (i := i) (zIt, undef)  rfl eD (hX.sl.below hS.below) (by omega) rfl (by rw [hzg]; rfl) (.inl rfl) ?_)
    refine ak rfl (aZ  eD hS ?_)
    intro b2 wz3 hS hBz3
    refine ak rfl (a8 (k := 0)  rfl rfl eD hS rfl rfl rfl (Nat.le_of_ble_eq_true rfl) rfl ?_)
    intro wz4 hS
    refine ai ?_
    repeat (with_reducible first | apply ag | apply ac | apply af | apply ae | apply ab)
    replace hS : St w _ [(b2, 41, dx (x, .slice ca x.charges.length ccap))] := hS
    repeat (with_reducible first | apply ag | apply ac | apply af | apply ae | apply ab)
    refine aj ?_
    refine aa rfl (aH  rfl dQ ?_)
    refine aw rfl (aB (k := 0)  rfl f0 hS rfl rfl rfl (.inr rfl) ?_)
    refine aa rfl (aG  rfl (hch.below hS.below) ⟨_, Tryz.underlying39⟩ ?_)
    refine aa rfl (cf  rfl rfl ?_)
    refine ai ?_
    repeat (with_reducible first | apply ag | apply ac | apply af | apply ae | apply ab)
    by_cases hl8 : 8 < x.charges.length
    · refine aD rfl (decide_eq_true (by omega)) ?_
      repeat (with_reducible first | apply ag | apply ac | apply af | apply ae | apply ab)
      have he : dh m x = 2 := by unfold dh; rw [if_pos hl8]
      repeat (with_reducible first | apply ag | apply ac | apply af | apply ae | apply ab)
      refine aj ?_
      refine aa rfl (am  rfl ?_)
      refine ai ?_
      repeat (with_reducible first | apply ag | apply ac | apply af | apply ae | apply ab)
      refine aE ?_
      repeat (with_reducible first | apply ap | apply ao)
      refine aR rfl rfl ?_
      exact ⟨vi rfl (by rw [f2 (by rw [he]; decide), he]), hS.below⟩
    refine aN rfl (decide_eq_false (by omega)) ?_
    repeat (with_reducible first | apply ag | apply ac | apply af | apply ae | apply ab)
    refine a9 (fun ρ w' => ρ 1 = vo ∧ ρ 6 = .pointer (some ⟨b2, 0, none⟩) ∧ ρ 19 = vi_ ∧ ρ 20 = .int .i64 X.length ∧ ρ 21 = .int .i64 i ∧ ρ 38 = .bool (decide (toQ x.price < 0 ∨ toQ x.costs < 0)) ∧ St w w' [(b2, 41, dx (x, .slice ca x.charges.length ccap))]) ?_ ?_
    · repeat (with_reducible first | apply ag | apply ac | apply af | apply ae | apply ab)
      by_cases hp : toQ x.price < 0
      · repeat (with_reducible first | apply ag | apply ac | apply af | apply ae | apply ab)
        refine aj ?_
        refine aa rfl (aH  rfl fp ?_)
        refine aw rfl (aB (k := 0)  rfl ax hS rfl rfl rfl (.inl rfl) ?_)
        refine ak rfl (av Tryz.call12 rfl (eS x.price _ hxB.1) ?_)
        rintro _ wc5 ⟨rfl, hBc5⟩
        replace hS := hS.grow hBc5
        refine aa rfl (aV  rfl rfl ?_)
        refine aa rfl (ah  rfl ?_)
        refine aW (au 33 (by kernel_rfl) rfl (decide_eq_true (sgnQ_neg.2 hp))) ?_
        refine aW (au 33 (by kernel_rfl) rfl (decide_eq_true (sgnQ_neg.2 hp))) ?_
        refine aW (au 33 (by kernel_rfl) rfl (decide_eq_true (sgnQ_neg.2 hp))) ?_
        refine aW (au 33 (by kernel_rfl) rfl (decide_eq_true (sgnQ_neg.2 hp))) ?_
        refine aa rfl (aJ (vb rfl (decide_eq_true (sgnQ_neg.2 hp))) rfl ?_)
        refine ai ?_
        repeat (with_reducible first | apply ag | apply ac | apply af | apply ae | apply ab)
        exact ⟨_, rfl, h1, rfl, h19, h20, h21, vb rfl (decide_eq_true (.inl hp)).symm, hS⟩
      · repeat (with_reducible first | apply ag | apply ac | apply af | apply ae | apply ab)
        refine aj ?_
        refine aa rfl (aH  rfl fp ?_)
        refine aw rfl (aB (k := 0)  rfl ax hS rfl rfl rfl (.inl rfl) ?_)
        refine ak rfl (av Tryz.call12 rfl (eS x.price _ hxB.1) ?_)
        rintro _ wc6 ⟨rfl, hBc6⟩
        replace hS := hS.grow hBc6
        refine aa rfl (aV  rfl rfl ?_)
        refine aa rfl (ah  rfl ?_)
        refine aa (ar 33 (by kernel_rfl) rfl (decide_eq_false (fun g => hp (sgnQ_neg.1 g)))) (aH  rfl gR ?_)
        refine aw (ar 33 (by kernel_rfl) rfl (decide_eq_false (fun g => hp (sgnQ_neg.1 g)))) (aB (k := 0)  rfl ax hS rfl rfl rfl (.inl rfl) ?_)
        refine ak (ar 33 (by kernel_rfl) rfl (decide_eq_false (fun g => hp (sgnQ_neg.1 g)))) (av Tryz.call12 rfl (eS x.costs _ hxB.2.1) ?_)
        rintro _ wc7 ⟨rfl, hBc7⟩
        replace hS := hS.grow hBc7
        refine aa (ar 33 (by kernel_rfl) rfl (decide_eq_false (fun g => hp (sgnQ_neg.1 g)))) (aV  rfl rfl ?_)
        refine aa rfl (aJ (vb rfl (decide_eq_false (fun g => hp (sgnQ_neg.1 g)))) rfl ?_)
        refine ai ?_
        repeat (with_reducible first | apply ag | apply ac | apply af | apply ae | apply ab)
        exact ⟨_, rfl, h1, rfl, h19, h20, h21, vb rfl (by rw [decide_eq_decide, sgnQ_neg]; exact ⟨.inr, fun g => g.resolve_left hp⟩), hS⟩
    clear hS h1 h19 h20 h21
    rintro ρ w3 ⟨h1, h6, h19, h20, h21, h38, hS⟩
    repeat (with_reducible first | apply ag | apply ac | apply af | apply ae | apply ab)
    by_cases hneg2 : toQ x.price < 0 ∨ toQ x.costs < 0
    · refine aD h38 (decide_eq_true hneg2) ?_
      repeat (with_reducible first | apply ag | apply ac | apply af | apply ae | apply ab)
      have he : dh m x = 7 := by unfold dh; rw [if_neg hl8, if_pos hneg2]
      repeat (with_reducible first | apply ag | apply ac | apply af | apply ae | apply ab)
      refine aj ?_
      refine aa rfl (am  rfl ?_)
      refine ai ?_
      repeat (with_reducible first | apply ag | apply ac | apply af | apply ae | apply ab)
      refine aE ?_
      repeat (with_reducible first | apply ap | apply ao)
      refine aR rfl rfl ?_
      exact ⟨vi rfl (by rw [f2 (by rw [he]; decide), he]), hS.below⟩
    refine aN h38 (decide_eq_false hneg2) ?_
    repeat (with_reducible first | apply ag | apply ac | apply af | apply ae | apply ab)
    have he : dh m x = co (da m) x.charges := by unfold dh; rw [if_neg hl8, if_neg hneg2]
    rw [he] at f1 f2
    repeat (with_reducible first | apply ag | apply ac | apply af | apply ae | apply ab)
    refine aj ?_
    refine aa rfl (aH  h6 dQ ?_)
    refine aw rfl (aB (k := 0)  rfl f0 hS rfl rfl rfl (.inr rfl) ?_)
    refine aa rfl (aG  rfl (hch.below hS.below) ⟨_, Tryz.underlying39⟩ ?_)
    refine aa rfl (ah  rfl ?_)
    refine ai ?_
    repeat (with_reducible first | apply ag | apply af | apply ae | apply ab)
    refine a9 (fun ρ w' => co (da m) x.charges = 0 ∧ ρ 1 = vo ∧ ρ 19 = vi_ ∧ ρ 20 = .int .i64 X.length ∧ ρ 21 = .int .i64 i ∧ St w w' []) ?_ ?_
    · repeat (with_reducible first | apply ag | apply ac | apply af | apply ae | apply ab)
      refine a5 (σ := Nat) (fun k ρ w' => k ≤ x.charges.length ∧ co (da m) (x.charges.take k) = 0 ∧ ρ 1 = vo ∧ ρ 19 = vi_ ∧ ρ 20 = .int .i64 X.length ∧ ρ 21 = .int .i64 i ∧ ρ 40 = .slice ca x.charges.length ccap ∧ ρ 41 = .int .i64 x.charges.length ∧ ρ 42 = .int .i64 k ∧ St w w' []) (fun k => x.charges.length - k) 0
        ⟨Nat.zero_le _, rfl, h1, h19, h20, h21, rfl, rfl, rfl, hS.drop (List.nil_sublist _)⟩ ?_
      clear hS h1 h6 h19 h20 h21 h38
      rintro k ρ w4 ⟨hk1, hok, h1, h19, h20, h21, h40, h41, h42, hS⟩
      repeat (with_reducible first | apply ag | apply ac | apply af | apply ae | apply ab)
      refine aj ?_
      refine aa rfl (aV  h42 h41 ?_)
      refine ai ?_
      repeat (with_reducible first | apply ag | apply ac | apply af | apply ae | apply ab)
      by_cases hk : k < x.charges.length
      · refine aD rfl (decide_eq_true (by omega)) ?_
        repeat (with_reducible first | apply ag | apply ac | apply af | apply ae | apply ab)
        obtain ⟨c, hc⟩ : ∃ c, c = x.charges.getD k zCh := ⟨_, rfl⟩
        have hm2 : c ∈ x.charges := by rw [hc]; exact cb x.charges k zCh hk
        have hcl : Lr c.limit ≤ MX := hxB.2.2 c hm2
        obtain ⟨e1, e2⟩ := fy (da m) x.charges zCh hk hok
        rw [← hc] at e1 e2
        repeat (with_reducible first | apply ag | apply ac | apply af | apply ae | apply ab)
        refine aj ?_
        refine aa rfl (aX (i := k)  h40 h42 (hch.below hS.below) (by omega) (by first | omega | (simp; done) | (simp; omega)) iK ?_)
        refine aw rfl (a6 (i := k) zCh  rfl f6 (hch.below hS.below) (by first | omega | (simp; done) | (simp; omega)) rfl rfl (.inl rfl) ?_)
        refine ak rfl (aZ  f6 hS ?_)
        intro b8 wz9 hS hBz9
        refine ak rfl (a8 (k := 0)  rfl rfl f6 hS rfl rfl rfl (Nat.le_of_ble_eq_true rfl) rfl ?_)
        intro wz10 hS
        refine ai ?_
        repeat (with_reducible first | apply ag | apply ac | apply af | apply ae | apply ab)
        rw [← hc] at hS
        replace hS : St w _ [(_, 62, cS c)] := hS
        refine a9 (fun ρ w' => ρ 1 = vo ∧ ρ 8 = .pointer (some ⟨b8, 0, none⟩) ∧ ρ 19 = vi_ ∧ ρ 20 = .int .i64 X.length ∧ ρ 21 = .int .i64 i ∧ ρ 40 = .slice ca x.charges.length ccap ∧ ρ 41 = .int .i64 x.charges.length ∧ ρ 42 = .int .i64 k ∧ ρ 55 = .bool (decide (c.claim < 0 ∨ (m : Int) ≤ c.claim)) ∧ St w w' [(b8, 62, cS c)]) ?_ ?_
        · repeat (with_reducible first | apply ag | apply ac | apply af | apply ae | apply ab)
          by_cases hp : c.claim < 0
          · repeat (with_reducible first | apply ag | apply ac | apply af | apply ae | apply ab)
            refine aj ?_
            refine aa rfl (aH  rfl fo ?_)
            refine aw rfl (aB (k := 0)  rfl dM hS rfl rfl rfl (.inr rfl) ?_)
            refine aa rfl (aV  rfl rfl ?_)
            refine aa rfl (ah  rfl ?_)
            refine aW (au 49 (by kernel_rfl) rfl (decide_eq_true hp)) ?_
            refine aW (au 49 (by kernel_rfl) rfl (decide_eq_true hp)) ?_
            refine aW (au 49 (by kernel_rfl) rfl (decide_eq_true hp)) ?_
            refine aW (au 49 (by kernel_rfl) rfl (decide_eq_true hp)) ?_
            refine aW (au 49 (by kernel_rfl) rfl (decide_eq_true hp)) ?_
            refine aa rfl (aJ (vb rfl (decide_eq_true hp)) rfl ?_)
            refine ai ?_
            repeat (with_reducible first | apply ag | apply ac | apply af | apply ae | apply ab)
            exact ⟨_, rfl, h1, rfl, h19, h20, h21, h40, h41, h42, vb rfl (decide_eq_true (.inl hp)).symm, hS⟩
          · repeat (with_reducible first | apply ag | apply ac | apply af | apply ae | apply ab)
            refine aj ?_
            refine aa rfl (aH  rfl fo ?_)
            refine aw rfl (aB (k := 0)  rfl dM hS rfl rfl rfl (.inr rfl) ?_)
            refine aa rfl (aV  rfl rfl ?_)
            refine aa rfl (ah  rfl ?_)
            refine aa (ar 49 (by kernel_rfl) rfl (decide_eq_false hp)) (aH  rfl fo ?_)
            refine aw (ar 49 (by kernel_rfl) rfl (decide_eq_false hp)) (aB (k := 0)  rfl dM hS rfl rfl rfl (.inr rfl) ?_)
            refine aa (ar 49 (by kernel_rfl) rfl (decide_eq_false hp)) (ah  h1 ?_)
            refine aa (ar 49 (by kernel_rfl) rfl (decide_eq_false hp)) (aG  rfl (ho.below hS.below) ⟨_, Tryz.underlying24⟩ ?_)
            refine aa (ar 49 (by kernel_rfl) rfl (decide_eq_false hp)) (df  rfl rfl ?_)
            refine aa rfl (aJ (vb rfl (decide_eq_false hp)) rfl ?_)
            refine ai ?_
            repeat (with_reducible first | apply ag | apply ac | apply af | apply ae | apply ab)
            exact ⟨_, rfl, h1, rfl, h19, h20, h21, h40, h41, h42, vb rfl (by rw [decide_eq_decide]; omega), hS⟩
        clear hS h1 h19 h20 h21 h40 h41 h42
        rintro ρ w5 ⟨h1, h8, h19, h20, h21, h40, h41, h42, h55, hS⟩
        repeat (with_reducible first | apply ag | apply ac | apply af | apply ae | apply ab)
        by_cases hr : c.claim < 0 ∨ (m : Int) ≤ c.claim
        · refine aD h55 (decide_eq_true hr) ?_
          repeat (with_reducible first | apply ag | apply ac | apply af | apply ae | apply ab)
          have he1 : da m c = 1 := by unfold da; rw [if_pos hr]
          repeat (with_reducible first | apply ag | apply ac | apply af | apply ae | apply ab)
          refine aj ?_
          refine aa rfl (am  rfl ?_)
          refine ai ?_
          repeat (with_reducible first | apply ag | apply ac | apply af | apply ae | apply ab)
          refine aE ?_
          repeat (with_reducible first | apply ap | apply ao)
          refine aR rfl rfl ?_
          exact ⟨vi rfl (by rw [f2 (by rw [e2 (by rw [he1]; decide), he1]; decide), e2 (by rw [he1]; decide), he1]), hS.below⟩
        refine aN h55 (decide_eq_false hr) ?_
        repeat (with_reducible first | apply ag | apply ac | apply af | apply ae | apply ab)
        refine a9 (fun ρ w' => ρ 1 = vo ∧ ρ 19 = vi_ ∧ ρ 20 = .int .i64 X.length ∧ ρ 21 = .int .i64 i ∧ ρ 40 = .slice ca x.charges.length ccap ∧ ρ 41 = .int .i64 x.charges.length ∧ ρ 42 = .int .i64 k ∧ ρ 63 = .bool (decide (c.lim = true ∧ toQ c.limit < 0)) ∧ St w w' [(b8, 62, cS c)]) ?_ ?_
        · repeat (with_reducible first | apply ag | apply ac | apply af | apply ae | apply ab)
          by_cases hp : c.lim = true
          · repeat (with_reducible first | apply ag | apply ac | apply af | apply ae | apply ab)
            refine aj ?_
            refine aa rfl (aH  h8 iF ?_)
            refine aw rfl (aB (k := 0)  rfl dq hS rfl rfl rfl (.inr rfl) ?_)
            refine aa rfl (ah  rfl ?_)
            refine aa (ar 58 (by kernel_rfl) rfl hp) (aH  h8 fo_62_3 ?_)
            refine aw (ar 58 (by kernel_rfl) rfl hp) (aB (k := 0)  rfl ax hS rfl rfl rfl (.inl rfl) ?_)
            refine ak (ar 58 (by kernel_rfl) rfl hp) (av Tryz.call12 rfl (eS c.limit _ hcl) ?_)
            rintro _ wc11 ⟨rfl, hBc11⟩
            replace hS := hS.grow hBc11
            refine aa (ar 58 (by kernel_rfl) rfl hp) (aV  rfl rfl ?_)
            refine aa rfl (aJ (vb rfl hp) rfl ?_)
            refine ai ?_
            repeat (with_reducible first | apply ag | apply ac | apply af | apply ae | apply ab)
            exact ⟨_, rfl, h1, h19, h20, h21, h40, h41, h42, vb rfl (by rw [decide_eq_decide, sgnQ_neg]; exact ⟨fun g => ⟨hp, g⟩, fun g => g.2⟩), hS⟩
          · repeat (with_reducible first | apply ag | apply ac | apply af | apply ae | apply ab)
            refine aj ?_
            refine aa rfl (aH  h8 iF ?_)
            refine aw rfl (aB (k := 0)  rfl dq hS rfl rfl rfl (.inr rfl) ?_)
            refine aa rfl (ah  rfl ?_)
            refine aW (au 58 (by kernel_rfl) rfl (show c.lim = false from Bool.eq_false_iff.2 hp)) ?_
            refine aW (au 58 (by kernel_rfl) rfl (show c.lim = false from Bool.eq_false_iff.2 hp)) ?_
            refine aW (au 58 (by kernel_rfl) rfl (show c.lim = false from Bool.eq_false_iff.2 hp)) ?_
            refine aW (au 58 (by kernel_rfl) rfl (show c.lim = false from Bool.eq_false_iff.2 hp)) ?_
            refine aa rfl (aJ (vb rfl (show c.lim = false from Bool.eq_false_iff.2 hp)) rfl ?_)
            refine ai ?_
            repeat (with_reducible first | apply ag | apply ac | apply af | apply ae | apply ab)
            exact ⟨_, rfl, h1, h19, h20, h21, h40, h41, h42, vb rfl (decide_eq_false (fun g => hp g.1)).symm, hS⟩
        clear hS h1 h8 h19 h20 h21 h40 h41 h42 h55
        rintro ρ w6 ⟨h1, h19, h20, h21, h40, h41, h42, h63, hS⟩
        repeat (with_reducible first | apply ag | apply ac | apply af | apply ae | apply ab)
        by_cases hlm : c.lim = true ∧ toQ c.limit < 0
        · refine aD h63 (decide_eq_true hlm) ?_
          repeat (with_reducible first | apply ag | apply ac | apply af | apply ae | apply ab)
          have he1 : da m c = 7 := by unfold da; rw [if_neg hr, if_pos hlm]
          repeat (with_reducible first | apply ag | apply ac | apply af | apply ae | apply ab)
          refine aj ?_
          refine aa rfl (am  rfl ?_)
          refine ai ?_
          repeat (with_reducible first | apply ag | apply ac | apply af | apply ae | apply ab)
          refine aE ?_
          repeat (with_reducible first | apply ap | apply ao)
          refine aR rfl rfl ?_
          exact ⟨vi rfl (by rw [f2 (by rw [e2 (by rw [he1]; decide), he1]; decide), e2 (by rw [he1]; decide), he1]), hS.below⟩
        refine aN h63 (decide_eq_false hlm) ?_
        repeat (with_reducible first | apply ag | apply ac | apply af | apply ae | apply ab)
        have he1 : da m c = 0 := by unfold da; rw [if_neg hr, if_neg hlm]
        repeat (with_reducible first | apply ag | apply ac | apply af | apply ae | apply ab)
        refine aj ?_
        refine aa rfl (aK  h42 rfl (IntWalk.i64_in _ (by omega)) ?_)
        refine aa rfl (ah  rfl ?_)
        refine ai ?_
        repeat (with_reducible first | apply ag | apply ac | apply af | apply ae | apply ab)
        exact ⟨k + 1, _, rfl, ⟨hk, e1 he1, h1, h19, h20, h21, h40, h41, vi rfl (by omega), hS.drop (List.nil_sublist _)⟩, by omega⟩
      · refine aN rfl (decide_eq_false (by omega)) ?_
        repeat (with_reducible first | apply ag | apply ac | apply af | apply ae | apply ab)
        refine aU ?_
        repeat (with_reducible first | apply aA | apply az | refine ay rfl ?_)
        repeat (with_reducible first | apply ag | apply ac | apply af | apply ae | apply ab)
        obtain rfl : k = x.charges.length := by omega
        rw [List.take_length] at hok
        exact ⟨_, rfl, hok, h1, h19, h20, h21, hS⟩
    clear hS h1 h6 h19 h20 h21 h38
    rintro ρ w7 ⟨hok2, h1, h19, h20, h21, hS⟩
    repeat (with_reducible first | apply ag | apply ac | apply af | apply ae | apply ab)
    refine aj ?_
    refine aa rfl (aK  h21 rfl (IntWalk.i64_in _ (by omega)) ?_)
    refine aa rfl (ah  rfl ?_)
    refine ai ?_
    repeat (with_reducible first | apply ag | apply ac | apply af | apply ae | apply ab)
    exact ⟨i + 1, _, rfl, ⟨hlt, f1 hok2, h1, h19, h20, vi rfl (by omega), hS⟩, by omega⟩
  · refine aN rfl (decide_eq_false (by omega)) ?_
    repeat (with_reducible first | apply ag | apply ac | apply af | apply ae | apply ab)
    refine aU ?_
    repeat (with_reducible first | apply aA | apply az | refine ay rfl ?_)
    repeat (with_reducible first | apply ag | apply ac | apply af | apply ae | apply ab)
    obtain rfl : i = X.length := by omega
    rw [List.take_length] at hok1
    repeat (with_reducible first | apply ag | apply ac | apply af | apply ae | apply ab)
    refine aj ?_
    refine aa rfl (am  rfl ?_)
    refine ai ?_
    repeat (with_reducible first | apply ag | apply ac | apply af | apply ae | apply ab)
    refine aE ?_
    repeat (with_reducible first | apply ap | apply ao)
    refine aR rfl rfl ?_
    exact ⟨vi rfl hok1.symm, hS.below⟩
end Go.Proofs.YtmghobajmhdbfaaGreatDoor
