/-
  Part 6 of the texts that the law's proof is made of: the framework and the walks.
-/
import Derived.Test.YtmghobajmhdbfaaGreatDoorPm5
namespace Go.Proofs.YtmghobajmhdbfaaGreatDoor
open Go Go.RowKit Go.Sx
set_option maxHeartbeats 1000000 in
theorem rCheck_ok (vi_ vo : Value) (X : List It) (cvs : List Value) (owed : List RR) (w : World) (hX : Its w vi_ X cvs) (ho : Sl aC 3 w vo owed) (hXB : ItB MX X) (hoB : RB MX owed) :
    Ret Tryz.prog 44 #[vi_, vo] w fun r w' => r = .int .i64 (bS X owed) ∧ Below w.heap.size w w' := by
  have hmo := ho.maxLen
  have hmX := hX.sl.maxLen
  rw [hX.zlen] at hmX
  have hzl := hX.zlen
  have hS := St.init w
  obtain ⟨m, hm⟩ : ∃ m, m = owed.length := ⟨_, rfl⟩
  refine enter Tryz.func44 rfl Tryz.ntmps44 rfl ?_
  repeat (with_reducible first | apply ag | apply ac | apply af | apply ae | apply ab)
  refine aj ?_
  refine aa rfl (am  rfl ?_)
  refine ai ?_
  repeat (with_reducible first | apply ag | apply ac | apply af | apply ae | apply ab)
  refine a9 (fun ρ w' => ρ 0 = vi_ ∧ ρ 1 = vo ∧ ρ 17 = .bool (decide (8 < X.length ∨ 24 < owed.length)) ∧ w = w') ?_ ?_
  · by_cases h1 : 8 < X.length
    · repeat (with_reducible first | apply ag | apply ac | apply af | apply ae | apply ab)
      refine aj ?_
      refine aa rfl (ah  rfl ?_)
      refine aa rfl (aG  rfl (hX.sl.below hS.below) ⟨_, Tryz.underlying26⟩ ?_)
      refine aa rfl (cf  rfl rfl ?_)
      refine aa rfl (ah  rfl ?_)
      refine aW (au 13 (by kernel_rfl) rfl (decide_eq_true (by omega))) ?_
      refine aW (au 13 (by kernel_rfl) rfl (decide_eq_true (by omega))) ?_
      refine aW (au 13 (by kernel_rfl) rfl (decide_eq_true (by omega))) ?_
      refine aa rfl (aJ (vb rfl (decide_eq_true (by omega))) rfl ?_)
      refine ai ?_
      repeat (with_reducible first | apply ag | apply ac | apply af | apply ae | apply ab)
      exact ⟨_, rfl, rfl, rfl, vb rfl (decide_eq_true (.inl h1)).symm, rfl⟩
    · repeat (with_reducible first | apply ag | apply ac | apply af | apply ae | apply ab)
      refine aj ?_
      refine aa rfl (ah  rfl ?_)
      refine aa rfl (aG  rfl (hX.sl.below hS.below) ⟨_, Tryz.underlying26⟩ ?_)
      refine aa rfl (cf  rfl rfl ?_)
      refine aa rfl (ah  rfl ?_)
      refine aa (ar 13 (by kernel_rfl) rfl (decide_eq_false (by omega))) (ah  rfl ?_)
      refine aa (ar 13 (by kernel_rfl) rfl (decide_eq_false (by omega))) (aG  rfl (ho.below hS.below) ⟨_, Tryz.underlying24⟩ ?_)
      refine aa (ar 13 (by kernel_rfl) rfl (decide_eq_false (by omega))) (cf  rfl rfl ?_)
      refine aa rfl (aJ (vb rfl (decide_eq_false (by omega))) rfl ?_)
      refine ai ?_
      repeat (with_reducible first | apply ag | apply ac | apply af | apply ae | apply ab)
      exact ⟨_, rfl, rfl, rfl, vb rfl (by rw [decide_eq_decide]; omega), rfl⟩
  rintro ρ w' ⟨h0, h1, h17, rfl⟩
  repeat (with_reducible first | apply ag | apply ac | apply af | apply ae | apply ab)
  by_cases hlong : 8 < X.length ∨ 24 < owed.length
  · refine aD h17 (decide_eq_true hlong) ?_
    repeat (with_reducible first | apply ag | apply ac | apply af | apply ae | apply ab)
    refine aj ?_
    refine aa rfl (am  rfl ?_)
    refine ai ?_
    repeat (with_reducible first | apply ag | apply ac | apply af | apply ae | apply ab)
    refine aE ?_
    repeat (with_reducible first | apply ap | apply ao)
    refine aR rfl rfl ?_
    exact ⟨vi rfl (by unfold bS; rw [if_pos hlong]), hS.below⟩
  refine aN h17 (decide_eq_false hlong) ?_
  repeat (with_reducible first | apply ag | apply ac | apply af | apply ae | apply ab)
  refine aj ?_
  refine aa rfl (am  rfl ?_)
  refine ai ?_
  repeat (with_reducible first | apply ag | apply af | apply ae | apply ab)
  refine a9 (fun ρ w' => gh owed = false ∧ ρ 0 = vi_ ∧ ρ 1 = vo ∧ St w w' []) ?_ ?_
  · repeat (with_reducible first | apply ag | apply ac | apply af | apply ae | apply ab)
    refine a5 (σ := Nat) (fun i ρ w' => i ≤ owed.length ∧ gh (owed.take i) = false ∧ ρ 0 = vi_ ∧ ρ 1 = vo ∧ ρ 5 = .int .i64 i ∧ St w w' []) (fun i => owed.length - i) 0
      ⟨Nat.zero_le _, rfl, h0, h1, rfl, hS⟩ ?_
    clear hS h0 h1 h17
    rintro i ρ w2 ⟨hi, hn, h0, h1, h5, hS⟩
    repeat (with_reducible first | apply ag | apply ac | apply af | apply ae | apply ab)
    refine aj ?_
    refine aa rfl (ah  h5 ?_)
    refine aa rfl (ah  h1 ?_)
    refine aa rfl (aG  rfl (ho.below hS.below) ⟨_, Tryz.underlying24⟩ ?_)
    refine aa rfl (aV  rfl rfl ?_)
    refine ai ?_
    repeat (with_reducible first | apply ag | apply ac | apply af | apply ae | apply ab)
    by_cases hlt : i < owed.length
    · refine aD rfl (decide_eq_true (by omega)) ?_
      repeat (with_reducible first | apply ag | apply ac | apply af | apply ae | apply ab)
      obtain ⟨t1, t2⟩ := negs_take owed hlt hn
      repeat (with_reducible first | apply ag | apply ac | apply af | apply ae | apply ab)
      refine aj ?_
      refine aa rfl (ah  h1 ?_)
      refine aa rfl (ah  h5 ?_)
      refine aa rfl (aX (i := i)  rfl rfl (ho.below hS.below) (by omega) (by first | omega | (simp; done) | (simp; omega)) bH ?_)
      refine aw rfl (a6 (i := i) zRR  rfl ax (ho.below hS.below) (by first | omega | (simp; done) | (simp; omega)) rfl rfl (.inl rfl) ?_)
      refine ak rfl (av Tryz.call70 rfl (gl (owed.getD i zRR) _ (hoB _ (cb owed i zRR hlt))) ?_)
      rintro _ wc1 ⟨rfl, hBc1⟩
      replace hS := hS.grow hBc1
      refine aa rfl (aV  rfl rfl ?_)
      refine ai ?_
      repeat (with_reducible first | apply ag | apply ac | apply af | apply ae | apply ab)
      by_cases hneg : toQ (owed.getD i zRR) < 0
      · refine aD rfl (decide_eq_true (sgnQ_neg.2 hneg)) ?_
        repeat (with_reducible first | apply ag | apply ac | apply af | apply ae | apply ab)
        refine aj ?_
        refine aa rfl (am  rfl ?_)
        refine ai ?_
        repeat (with_reducible first | apply ag | apply ac | apply af | apply ae | apply ab)
        refine aE ?_
        repeat (with_reducible first | apply ap | apply ao)
        refine aR rfl rfl ?_
        exact ⟨vi rfl (by unfold bS; rw [if_neg hlong, if_pos (t2 hneg)]), hS.below⟩
      · refine aN rfl (decide_eq_false (fun g => hneg (sgnQ_neg.1 g))) ?_
        repeat (with_reducible first | apply ag | apply ac | apply af | apply ae | apply ab)
        refine aj ?_
        refine aa rfl (ah  h5 ?_)
        refine aa rfl (aK  rfl rfl (IntWalk.i64_in _ (by omega)) ?_)
        refine aa rfl (am  rfl ?_)
        refine ai ?_
        repeat (with_reducible first | apply ag | apply ac | apply af | apply ae | apply ab)
        exact ⟨i + 1, _, rfl, ⟨hlt, t1 hneg, h0, h1, vi rfl (by omega), hS⟩, by omega⟩
    · refine aN rfl (decide_eq_false (by omega)) ?_
      repeat (with_reducible first | apply ag | apply ac | apply af | apply ae | apply ab)
      refine aU ?_
      repeat (with_reducible first | apply aA | apply az | refine ay rfl ?_)
      repeat (with_reducible first | apply ag | apply ac | apply af | apply ae | apply ab)
      obtain rfl : i = owed.length := by omega
      rw [List.take_length] at hn
      exact ⟨_, rfl, hn, h0, h1, hS⟩
  clear hS h0 h1 h17
  rintro ρ w2 ⟨hneg, h0, h1, hS⟩
  have hfin : bS X owed = co (dh m) X := by unfold bS; rw [if_neg hlong, if_neg (by rw [hneg]; decide), hm]
  rw [hfin]
  repeat (with_reducible first | apply ag | apply ac | apply af | apply ae | apply ab)
  refine aj ?_
  refine aa rfl (am  rfl ?_)
  refine ai ?_
  repeat (with_reducible first | apply ag | apply ac | apply af | apply ae | apply ab)
  refine a5 (σ := Nat) (fun i ρ w' => i ≤ X.length ∧ co (dh m) (X.take i) = 0 ∧ ρ 0 = vi_ ∧ ρ 1 = vo ∧ ρ 6 = .int .i64 i ∧ St w w' []) (fun i => X.length - i) 0
    ⟨Nat.zero_le _, rfl, h0, h1, rfl, hS⟩ ?_
  clear hS h0 h1
  rintro i ρ w2 ⟨hi, hok1, h0, h1, h6, hS⟩
  repeat (with_reducible first | apply ag | apply ac | apply af | apply ae | apply ab)
  refine aj ?_
  refine aa rfl (ah  h6 ?_)
  refine aa rfl (ah  h0 ?_)
  refine aa rfl (aG  rfl (hX.sl.below hS.below) ⟨_, Tryz.underlying26⟩ ?_)
  refine aa rfl (aV  rfl rfl ?_)
  refine ai ?_
  repeat (with_reducible first | apply ag | apply ac | apply af | apply ae | apply ab)
  by_cases hlt : i < X.length
  · refine aD rfl (decide_eq_true (by omega)) ?_
    repeat (with_reducible first | apply ag | apply ac | apply af | apply ae | apply ab)
    obtain ⟨x, hx⟩ : ∃ x, x = X.getD i zIt := ⟨_, rfl⟩
    obtain ⟨cv, hcv⟩ : ∃ cv, cv = cvs.getD i undef := ⟨_, rfl⟩
    have hmem : x ∈ X := by rw [hx]; exact cb X i zIt hlt
    have hxB := hXB x hmem
    have hch := hX.ch i hlt
    rw [← hx, ← hcv] at hch
    have hmc := hch.maxLen
    obtain ⟨ca, ccap, hcve, _⟩ := hch.form
    subst hcve
    have hzg := hX.zget hlt
    rw [← hx, ← hcv] at hzg
    obtain ⟨f1, f2⟩ := fy (dh m) X zIt hlt hok1
    rw [← hx] at f1 f2
    repeat (with_reducible first | apply ag | apply ac | apply af | apply ae | apply ab)
    refine aj ?_
    refine aa rfl (ah  h0 ?_)
    refine aa rfl (ah  h6 ?_)
    refine aa rfl (aX (i := i)  rfl rfl (hX.sl.below hS.below) (by omega) (by first | omega | (simp; done) | (simp; omega)) g8 ?_)
    refine aw rfl (a6 (v := fq x (.slice ca x.charges.length ccap)) (i := i) (zIt, undef)  rfl eD (hX.sl.below hS.below) (by omega) rfl (by rw [hzg]; rfl) (.inl rfl) ?_)
    refine ak rfl (aZ  eD hS ?_)
    intro bi wz2 hS hBz2
    refine ak rfl (a8 (k := 0)  rfl rfl eD hS rfl rfl rfl (Nat.le_of_ble_eq_true rfl) rfl ?_)
    intro wz3 hS
    refine ai ?_
    repeat (with_reducible first | apply ag | apply ac | apply af | apply ae | apply ab)
    replace hS : St w _ [(bi, 41, dx (x, .slice ca x.charges.length ccap))] := hS
    repeat (with_reducible first | apply ag | apply ac | apply af | apply ae | apply ab)
    refine aj ?_
    refine aa rfl (aH  rfl dQ ?_)
    refine aw rfl (aB (k := 0)  rfl f0 hS rfl rfl rfl (.inr rfl) ?_)
    refine aa rfl (aG  rfl (hch.below hS.below) ⟨_, Tryz.underlying39⟩ ?_)
    refine aa rfl (cf  rfl rfl ?_)
    refine ai ?_
    repeat (with_reducible first | apply ag | apply ac | apply af | apply ae | apply ab)
    by_cases hl8 : 8 < x.charges.length
    · refine aD rfl (decide_eq_true (by omega)) ?_
      repeat (with_reducible first | apply ag | apply ac | apply af | apply ae | apply ab)
      have he : dh m x = 2 := by unfold dh; rw [if_pos hl8]
      repeat (with_reducible first | apply ag | apply ac | apply af | apply ae | apply ab)
      refine aj ?_
      refine aa rfl (am  rfl ?_)
      refine ai ?_
      repeat (with_reducible first | apply ag | apply ac | apply af | apply ae | apply ab)
      refine aE ?_
      repeat (with_reducible first | apply ap | apply ao)
      refine aR rfl rfl ?_
      exact ⟨vi rfl (by rw [f2 (by rw [he]; decide), he]), hS.below⟩
    refine aN rfl (decide_eq_false (by omega)) ?_
    repeat (with_reducible first | apply ag | apply ac | apply af | apply ae | apply ab)
    refine a9 (fun ρ w' => ρ 0 = vi_ ∧ ρ 1 = vo ∧ ρ 6 = .int .i64 i ∧ ρ 7 = .pointer (some ⟨bi, 0, none⟩) ∧ ρ 53 = .bool (decide (toQ x.price < 0 ∨ toQ x.costs < 0)) ∧ St w w' [(bi, 41, dx (x, .slice ca x.charges.length ccap))]) ?_ ?_
    · repeat (with_reducible first | apply ag | apply ac | apply af | apply ae | apply ab)
      by_cases hp : toQ x.price < 0
      · repeat (with_reducible first | apply ag | apply ac | apply af | apply ae | apply ab)
        refine aj ?_
        refine aa rfl (aH  rfl fp ?_)
        refine aw rfl (aB (k := 0)  rfl ax hS rfl rfl rfl (.inl rfl) ?_)
        refine ak rfl (av Tryz.call70 rfl (gl x.price _ hxB.1) ?_)
        rintro _ wc4 ⟨rfl, hBc4⟩
        replace hS := hS.grow hBc4
        refine aa rfl (aV  rfl rfl ?_)
        refine aa rfl (ah  rfl ?_)
        refine aW (au 48 (by kernel_rfl) rfl (decide_eq_true (sgnQ_neg.2 hp))) ?_
        refine aW (au 48 (by kernel_rfl) rfl (decide_eq_true (sgnQ_neg.2 hp))) ?_
        refine aW (au 48 (by kernel_rfl) rfl (decide_eq_true (sgnQ_neg.2 hp))) ?_
        refine aW (au 48 (by kernel_rfl) rfl (decide_eq_true (sgnQ_neg.2 hp))) ?_
        refine aa rfl (aJ (vb rfl (decide_eq_true (sgnQ_neg.2 hp))) rfl ?_)
        refine ai ?_
        repeat (with_reducible first | apply ag | apply ac | apply af | apply ae | apply ab)
        exact ⟨_, rfl, h0, h1, h6, rfl, vb rfl (decide_eq_true (.inl hp)).symm, hS⟩
      · repeat (with_reducible first | apply ag | apply ac | apply af | apply ae | apply ab)
        refine aj ?_
        refine aa rfl (aH  rfl fp ?_)
        refine aw rfl (aB (k := 0)  rfl ax hS rfl rfl rfl (.inl rfl) ?_)
        refine ak rfl (av Tryz.call70 rfl (gl x.price _ hxB.1) ?_)
        rintro _ wc5 ⟨rfl, hBc5⟩
        replace hS := hS.grow hBc5
        refine aa rfl (aV  rfl rfl ?_)
        refine aa rfl (ah  rfl ?_)
        refine aa (ar 48 (by kernel_rfl) rfl (decide_eq_false (fun g => hp (sgnQ_neg.1 g)))) (aH  rfl gR ?_)
        refine aw (ar 48 (by kernel_rfl) rfl (decide_eq_false (fun g => hp (sgnQ_neg.1 g)))) (aB (k := 0)  rfl ax hS rfl rfl rfl (.inl rfl) ?_)
        refine ak (ar 48 (by kernel_rfl) rfl (decide_eq_false (fun g => hp (sgnQ_neg.1 g)))) (av Tryz.call70 rfl (gl x.costs _ hxB.2.1) ?_)
        rintro _ wc6 ⟨rfl, hBc6⟩
        replace hS := hS.grow hBc6
        refine aa (ar 48 (by kernel_rfl) rfl (decide_eq_false (fun g => hp (sgnQ_neg.1 g)))) (aV  rfl rfl ?_)
        refine aa rfl (aJ (vb rfl (decide_eq_false (fun g => hp (sgnQ_neg.1 g)))) rfl ?_)
        refine ai ?_
        repeat (with_reducible first | apply ag | apply ac | apply af | apply ae | apply ab)
        exact ⟨_, rfl, h0, h1, h6, rfl, vb rfl (by rw [decide_eq_decide, sgnQ_neg]; exact ⟨.inr, fun g => g.resolve_left hp⟩), hS⟩
    clear hS h0 h1 h6
    rintro ρ w3 ⟨h0, h1, h6, h7, h53, hS⟩
    repeat (with_reducible first | apply ag | apply ac | apply af | apply ae | apply ab)
    by_cases hneg2 : toQ x.price < 0 ∨ toQ x.costs < 0
    · refine aD h53 (decide_eq_true hneg2) ?_
      repeat (with_reducible first | apply ag | apply ac | apply af | apply ae | apply ab)
      have he : dh m x = 7 := by unfold dh; rw [if_neg hl8, if_pos hneg2]
      repeat (with_reducible first | apply ag | apply ac | apply af | apply ae | apply ab)
      refine aj ?_
      refine aa rfl (am  rfl ?_)
      refine ai ?_
      repeat (with_reducible first | apply ag | apply ac | apply af | apply ae | apply ab)
      refine aE ?_
      repeat (with_reducible first | apply ap | apply ao)
      refine aR rfl rfl ?_
      exact ⟨vi rfl (by rw [f2 (by rw [he]; decide), he]), hS.below⟩
    refine aN h53 (decide_eq_false hneg2) ?_
    repeat (with_reducible first | apply ag | apply ac | apply af | apply ae | apply ab)
    have he : dh m x = co (da m) x.charges := by unfold dh; rw [if_neg hl8, if_neg hneg2]
    rw [he] at f1 f2
    repeat (with_reducible first | apply ag | apply ac | apply af | apply ae | apply ab)
    refine aj ?_
    refine aa rfl (am  rfl ?_)
    refine ai ?_
    repeat (with_reducible first | apply ag | apply af | apply ae | apply ab)
    refine a9 (fun ρ w' => co (da m) x.charges = 0 ∧ ρ 0 = vi_ ∧ ρ 1 = vo ∧ ρ 6 = .int .i64 i ∧ St w w' []) ?_ ?_
    · repeat (with_reducible first | apply ag | apply ac | apply af | apply ae | apply ab)
      refine a5 (σ := Nat) (fun k ρ w' => k ≤ x.charges.length ∧ co (da m) (x.charges.take k) = 0 ∧ ρ 0 = vi_ ∧ ρ 1 = vo ∧ ρ 6 = .int .i64 i ∧ ρ 7 = .pointer (some ⟨bi, 0, none⟩) ∧ ρ 8 = .int .i64 k ∧ St w w' [(bi, 41, dx (x, .slice ca x.charges.length ccap))]) (fun k => x.charges.length - k) 0
        ⟨Nat.zero_le _, rfl, h0, h1, h6, h7, rfl, hS⟩ ?_
      clear hS h0 h1 h6 h7 h53
      rintro k ρ w4 ⟨hk1, hok, h0, h1, h6, h7, h8, hS⟩
      repeat (with_reducible first | apply ag | apply ac | apply af | apply ae | apply ab)
      refine aj ?_
      refine aa rfl (ah  h8 ?_)
      refine aa rfl (aH  h7 dQ ?_)
      refine aw rfl (aB (k := 0)  rfl f0 hS rfl rfl rfl (.inr rfl) ?_)
      refine aa rfl (aG  rfl (hch.below hS.below) ⟨_, Tryz.underlying39⟩ ?_)
      refine aa rfl (aV  rfl rfl ?_)
      refine ai ?_
      repeat (with_reducible first | apply ag | apply ac | apply af | apply ae | apply ab)
      by_cases hk : k < x.charges.length
      · refine aD rfl (decide_eq_true (by omega)) ?_
        repeat (with_reducible first | apply ag | apply ac | apply af | apply ae | apply ab)
        obtain ⟨c, hc⟩ : ∃ c, c = x.charges.getD k zCh := ⟨_, rfl⟩
        have hm2 : c ∈ x.charges := by rw [hc]; exact cb x.charges k zCh hk
        have hcl : Lr c.limit ≤ MX := hxB.2.2 c hm2
        obtain ⟨e1, e2⟩ := fy (da m) x.charges zCh hk hok
        rw [← hc] at e1 e2
        repeat (with_reducible first | apply ag | apply ac | apply af | apply ae | apply ab)
        refine aj ?_
        refine aa rfl (aH  h7 dQ ?_)
        refine aw rfl (aB (k := 0)  rfl f0 hS rfl rfl rfl (.inr rfl) ?_)
        refine aa rfl (ah  h8 ?_)
        refine aa rfl (aX (i := k)  rfl rfl (hch.below hS.below) (by omega) (by first | omega | (simp; done) | (simp; omega)) iK ?_)
        refine aw rfl (a6 (i := k) zCh  rfl f6 (hch.below hS.below) (by first | omega | (simp; done) | (simp; omega)) rfl rfl (.inl rfl) ?_)
        refine ak rfl (aZ  f6 hS ?_)
        intro bc wz7 hS hBz7
        refine ak rfl (a8 (k := 0)  rfl rfl f6 hS rfl rfl rfl (Nat.le_of_ble_eq_true rfl) rfl ?_)
        intro wz8 hS
        refine ai ?_
        repeat (with_reducible first | apply ag | apply ac | apply af | apply ae | apply ab)
        rw [← hc] at hS
        replace hS : St w _ [(bc, 62, cS c), (bi, 41, dx (x, .slice ca x.charges.length ccap))] := hS
        refine a9 (fun ρ w' => ρ 0 = vi_ ∧ ρ 1 = vo ∧ ρ 6 = .int .i64 i ∧ ρ 7 = .pointer (some ⟨bi, 0, none⟩) ∧ ρ 8 = .int .i64 k ∧ ρ 9 = .pointer (some ⟨bc, 0, none⟩) ∧ ρ 75 = .bool (decide (c.claim < 0 ∨ (m : Int) ≤ c.claim)) ∧ St w w' [(bc, 62, cS c), (bi, 41, dx (x, .slice ca x.charges.length ccap))]) ?_ ?_
        · repeat (with_reducible first | apply ag | apply ac | apply af | apply ae | apply ab)
          by_cases hp : c.claim < 0
          · repeat (with_reducible first | apply ag | apply ac | apply af | apply ae | apply ab)
            refine aj ?_
            refine aa rfl (aH  rfl fo ?_)
            refine aw rfl (aB (k := 0)  rfl dM hS rfl rfl rfl (.inr rfl) ?_)
            refine aa rfl (aV  rfl rfl ?_)
            refine aa rfl (ah  rfl ?_)
            refine aW (au 69 (by kernel_rfl) rfl (decide_eq_true hp)) ?_
            refine aW (au 69 (by kernel_rfl) rfl (decide_eq_true hp)) ?_
            refine aW (au 69 (by kernel_rfl) rfl (decide_eq_true hp)) ?_
            refine aW (au 69 (by kernel_rfl) rfl (decide_eq_true hp)) ?_
            refine aW (au 69 (by kernel_rfl) rfl (decide_eq_true hp)) ?_
            refine aa rfl (aJ (vb rfl (decide_eq_true hp)) rfl ?_)
            refine ai ?_
            repeat (with_reducible first | apply ag | apply ac | apply af | apply ae | apply ab)
            exact ⟨_, rfl, h0, h1, h6, h7, h8, rfl, vb rfl (decide_eq_true (.inl hp)).symm, hS⟩
          · repeat (with_reducible first | apply ag | apply ac | apply af | apply ae | apply ab)
            refine aj ?_
            refine aa rfl (aH  rfl fo ?_)
            refine aw rfl (aB (k := 0)  rfl dM hS rfl rfl rfl (.inr rfl) ?_)
            refine aa rfl (aV  rfl rfl ?_)
            refine aa rfl (ah  rfl ?_)
            refine aa (ar 69 (by kernel_rfl) rfl (decide_eq_false hp)) (aH  rfl fo ?_)
            refine aw (ar 69 (by kernel_rfl) rfl (decide_eq_false hp)) (aB (k := 0)  rfl dM hS rfl rfl rfl (.inr rfl) ?_)
            refine aa (ar 69 (by kernel_rfl) rfl (decide_eq_false hp)) (ah  h1 ?_)
            refine aa (ar 69 (by kernel_rfl) rfl (decide_eq_false hp)) (aG  rfl (ho.below hS.below) ⟨_, Tryz.underlying24⟩ ?_)
            refine aa (ar 69 (by kernel_rfl) rfl (decide_eq_false hp)) (df  rfl rfl ?_)
            refine aa rfl (aJ (vb rfl (decide_eq_false hp)) rfl ?_)
            refine ai ?_
            repeat (with_reducible first | apply ag | apply ac | apply af | apply ae | apply ab)
            exact ⟨_, rfl, h0, h1, h6, h7, h8, rfl, vb rfl (by rw [decide_eq_decide]; omega), hS⟩
        clear hS h0 h1 h6 h7 h8
        rintro ρ w5 ⟨h0, h1, h6, h7, h8, h9, h75, hS⟩
        repeat (with_reducible first | apply ag | apply ac | apply af | apply ae | apply ab)
        by_cases hr : c.claim < 0 ∨ (m : Int) ≤ c.claim
        · refine aD h75 (decide_eq_true hr) ?_
          repeat (with_reducible first | apply ag | apply ac | apply af | apply ae | apply ab)
          have he1 : da m c = 1 := by unfold da; rw [if_pos hr]
          repeat (with_reducible first | apply ag | apply ac | apply af | apply ae | apply ab)
          refine aj ?_
          refine aa rfl (am  rfl ?_)
          refine ai ?_
          repeat (with_reducible first | apply ag | apply ac | apply af | apply ae | apply ab)
          refine aE ?_
          repeat (with_reducible first | apply ap | apply ao)
          refine aR rfl rfl ?_
          exact ⟨vi rfl (by rw [f2 (by rw [e2 (by rw [he1]; decide), he1]; decide), e2 (by rw [he1]; decide), he1]), hS.below⟩
        refine aN h75 (decide_eq_false hr) ?_
        repeat (with_reducible first | apply ag | apply ac | apply af | apply ae | apply ab)
        refine a9 (fun ρ w' => ρ 0 = vi_ ∧ ρ 1 = vo ∧ ρ 6 = .int .i64 i ∧ ρ 7 = .pointer (some ⟨bi, 0, none⟩) ∧ ρ 8 = .int .i64 k ∧ ρ 83 = .bool (decide (c.lim = true ∧ toQ c.limit < 0)) ∧ St w w' [(bc, 62, cS c), (bi, 41, dx (x, .slice ca x.charges.length ccap))]) ?_ ?_
        · repeat (with_reducible first | apply ag | apply ac | apply af | apply ae | apply ab)
          by_cases hp : c.lim = true
          · repeat (with_reducible first | apply ag | apply ac | apply af | apply ae | apply ab)
            refine aj ?_
            refine aa rfl (aH  h9 iF ?_)
            refine aw rfl (aB (k := 0)  rfl dq hS rfl rfl rfl (.inr rfl) ?_)
            refine aa rfl (ah  rfl ?_)
            refine aa (ar 78 (by kernel_rfl) rfl hp) (aH  h9 fo_62_3 ?_)
            refine aw (ar 78 (by kernel_rfl) rfl hp) (aB (k := 0)  rfl ax hS rfl rfl rfl (.inl rfl) ?_)
            refine ak (ar 78 (by kernel_rfl) rfl hp) (av Tryz.call70 rfl (gl c.limit _ hcl) ?_)
            rintro _ wc9 ⟨rfl, hBc9⟩
            replace hS := hS.grow hBc9
            refine aa (ar 78 (by kernel_rfl) rfl hp) (aV  rfl rfl ?_)
            refine aa rfl (aJ (vb rfl hp) rfl ?_)
            refine ai ?_
            repeat (with_reducible first | apply ag | apply ac | apply af | apply ae | apply ab)
            exact ⟨_, rfl, h0, h1, h6, h7, h8, vb rfl (by rw [decide_eq_decide, sgnQ_neg]; exact ⟨fun g => ⟨hp, g⟩, fun g => g.2⟩), hS⟩
          · repeat (with_reducible first | apply ag | apply ac | apply af | apply ae | apply ab)
            refine aj ?_
            refine aa rfl (aH  h9 iF ?_)
            refine aw rfl (aB (k := 0)  rfl dq hS rfl rfl rfl (.inr rfl) ?_)
            refine aa rfl (ah  rfl ?_)
            refine aW (au 78 (by kernel_rfl) rfl (show c.lim = false from Bool.eq_false_iff.2 hp)) ?_
            refine aW (au 78 (by kernel_rfl) rfl (show c.lim = false from Bool.eq_false_iff.2 hp)) ?_
            refine aW (au 78 (by kernel_rfl) rfl (show c.lim = false from Bool.eq_false_iff.2 hp)) ?_
            refine aW (au 78 (by kernel_rfl) rfl (show c.lim = false from Bool.eq_false_iff.2 hp)) ?_
            refine aa rfl (aJ (vb rfl (show c.lim = false from Bool.eq_false_iff.2 hp)) rfl ?_)
            refine ai ?_
            repeat (with_reducible first | apply ag | apply ac | apply af | apply ae | apply ab)
            exact ⟨_, rfl, h0, h1, h6, h7, h8, vb rfl (decide_eq_false (fun g => hp g.1)).symm, hS⟩
        clear hS h0 h1 h6 h7 h8 h9 h75
        rintro ρ w6 ⟨h0, h1, h6, h7, h8, h83, hS⟩
        repeat (with_reducible first | apply ag | apply ac | apply af | apply ae | apply ab)
        by_cases hlm : c.lim = true ∧ toQ c.limit < 0
        · refine aD h83 (decide_eq_true hlm) ?_
          repeat (with_reducible first | apply ag | apply ac | apply af | apply ae | apply ab)
          have he1 : da m c = 7 := by unfold da; rw [if_neg hr, if_pos hlm]
          repeat (with_reducible first | apply ag | apply ac | apply af | apply ae | apply ab)
          refine aj ?_
          refine aa rfl (am  rfl ?_)
          refine ai ?_
          repeat (with_reducible first | apply ag | apply ac | apply af | apply ae | apply ab)
          refine aE ?_
          repeat (with_reducible first | apply ap | apply ao)
          refine aR rfl rfl ?_
          exact ⟨vi rfl (by rw [f2 (by rw [e2 (by rw [he1]; decide), he1]; decide), e2 (by rw [he1]; decide), he1]), hS.below⟩
        refine aN h83 (decide_eq_false hlm) ?_
        repeat (with_reducible first | apply ag | apply ac | apply af | apply ae | apply ab)
        have he1 : da m c = 0 := by unfold da; rw [if_neg hr, if_neg hlm]
        repeat (with_reducible first | apply ag | apply ac | apply af | apply ae | apply ab)
        refine aj ?_
        refine aa rfl (ah  h8 ?_)
        refine aa rfl (aK  rfl rfl (IntWalk.i64_in _ (by omega)) ?_)
        refine aa rfl (am  rfl ?_)
        refine ai ?_
        repeat (with_reducible first | apply ag | apply ac | apply af | apply ae | apply ab)
        exact ⟨k + 1, _, rfl, ⟨hk, e1 he1, h0, h1, h6, h7, vi rfl (by omega), hS.drop (List.sublist_cons_self _ _)⟩, by omega⟩
      · refine aN rfl (decide_eq_false (by omega)) ?_
        repeat (with_reducible first | apply ag | apply ac | apply af | apply ae | apply ab)
        refine aU ?_
        repeat (with_reducible first | apply aA | apply az | refine ay rfl ?_)
        repeat (with_reducible first | apply ag | apply ac | apply af | apply ae | apply ab)
        obtain rfl : k = x.charges.length := by omega
        rw [List.take_length] at hok
        exact ⟨_, rfl, hok, h0, h1, h6, hS.drop (List.nil_sublist _)⟩
    clear hS h0 h1 h6 h7 h53
    rintro ρ w7 ⟨hok2, h0, h1, h6, hS⟩
    repeat (with_reducible first | apply ag | apply ac | apply af | apply ae | apply ab)
    refine aj ?_
    refine aa rfl (ah  h6 ?_)
    refine aa rfl (aK  rfl rfl (IntWalk.i64_in _ (by omega)) ?_)
    refine aa rfl (am  rfl ?_)
    refine ai ?_
    repeat (with_reducible first | apply ag | apply ac | apply af | apply ae | apply ab)
    exact ⟨i + 1, _, rfl, ⟨hlt, f1 hok2, h0, h1, vi rfl (by omega), hS⟩, by omega⟩
  · refine aN rfl (decide_eq_false (by omega)) ?_
    repeat (with_reducible first | apply ag | apply ac | apply af | apply ae | apply ab)
    refine aU ?_
    repeat (with_reducible first | apply aA | apply az | refine ay rfl ?_)
    repeat (with_reducible first | apply ag | apply ac | apply af | apply ae | apply ab)
    obtain rfl : i = X.length := by omega
    rw [List.take_length] at hok1
    repeat (with_reducible first | apply ag | apply ac | apply af | apply ae | apply ab)
    refine aj ?_
    refine aa rfl (am  rfl ?_)
    refine ai ?_
    repeat (with_reducible first | apply ag | apply ac | apply af | apply ae | apply ab)
    refine aE ?_
    repeat (with_reducible first | apply ap | apply ao)
    refine aR rfl rfl ?_
    exact ⟨vi rfl hok1.symm, hS.below⟩
theorem positive_ok (r : RR) (w : World) (hr : Lr r + 1 ≤ MX) :
    Ret Tryz.prog 37 #[bE r] w fun v w' => v = bE (ofQ (d8 (toQ r) 0)) ∧ Below w.heap.size w w' := by
  have hz : toQ zRR = 0 := by rw [← toQ_ofQ 0, cI]; rfl
  have hzl : Lr zRR = 1 := by decide
  have hS := St.init w
  refine enter Tryz.func37 rfl Tryz.ntmps37 rfl ?_
  repeat (with_reducible first | apply ag | apply ac | apply af | apply ae | apply ab)
  refine aj ?_
  refine ak rfl (bX (new := aC r)  rfl rfl hS ?_)
  intro b1 wz2 hS hBz2
  refine ak rfl (aZ  ax hS ?_)
  intro b3 wz4 hS hBz4
  refine ai ?_
  repeat (with_reducible first | apply ag | apply ac | apply af | apply ae | apply ab)
  refine aj ?_
  refine aw rfl (aB (k := 1)  rfl ax hS rfl rfl rfl (.inl rfl) ?_)
  refine aa rfl (ce  rfl eJ ?_)
  refine ak rfl (av Tryz.call67 rfl (QMax_ok r zRR _ (by omega)) ?_)
  rintro _ wc5 ⟨rfl, hBc5⟩
  replace hS := hS.grow hBc5
  refine ak rfl (a8 (k := 0)  rfl rfl ax hS rfl rfl rfl (Nat.le_of_ble_eq_true rfl) rfl ?_)
  intro wz6 hS
  refine ai ?_
  repeat (with_reducible first | apply ag | apply ac | apply af | apply ae | apply ab)
  refine aE ?_
  repeat (with_reducible first | apply ap | apply ao)
  refine bN (k := 0) rfl rfl ax hS rfl rfl ?_
  rw [hz]
  exact ⟨rfl, hS.below⟩
theorem posQ_max (q : Rat) : posQ q = d8 q 0 := by
  unfold posQ d8
  by_cases h : q < 0
  · rw [if_pos h, if_neg (Rat.not_le.2 h)]
  · rw [if_neg h, if_pos (Rat.not_lt.1 h)]
theorem L_max (p q : Rat) : L (d8 p q) ≤ max (L p) (L q) := by unfold d8; split <;> omega
theorem jg (p q : Rat) : L (dK p q) ≤ max (L p) (L q) := by unfold dK; split <;> omega
theorem gO (p : Rat) : L (d8 p 0) ≤ L p := by
  have h1 := L_max p 0
  have h2 := L_pos p
  rw [gK] at h1
  omega
/-- The proceeds of an item. -/
def d7 (x : It) : Rat := d8 (d8 (toQ x.price) 0 - d8 (toQ x.costs) 0) 0
theorem L_proc (x : It) : L (d7 x) ≤ Lr x.price + Lr x.costs + 1 := by
  unfold d7
  have h1 := gO (d8 (toQ x.price) 0 - d8 (toQ x.costs) 0)
  have h2 := jj (d8 (toQ x.price) 0) (d8 (toQ x.costs) 0)
  have h3 := gO (toQ x.price)
  have h4 := gO (toQ x.costs)
  have h5 := fG x.price
  have h6 := fG x.costs
  omega
theorem Proceeds_ok (x : It) (ca : Option Addr) (n cap : Nat) (w : World) (hr : Lr x.price + Lr x.costs + 2 ≤ MX) :
    Ret Tryz.prog 11 #[fq x (.slice ca n cap)] w fun v w' => v = bE (ofQ (d7 x)) ∧ Below w.heap.size w w' := by
  have h1 := gO (toQ x.price)
  have h2 := gO (toQ x.costs)
  have h3 := fG x.price
  have h4 := fG x.costs
  have h5 := jj (d8 (toQ x.price) 0) (d8 (toQ x.costs) 0)
  have hS := St.init w
  refine enter Tryz.func11 rfl Tryz.ntmps11 rfl ?_
  repeat (with_reducible first | apply ag | apply ac | apply af | apply ae | apply ab)
  refine aj ?_
  refine ak rfl (bX (new := dx (x, .slice ca n cap))  rfl rfl hS ?_)
  intro b1 wz2 hS hBz2
  refine ak rfl (aZ  ax hS ?_)
  intro b3 wz4 hS hBz4
  refine ai ?_
  repeat (with_reducible first | apply ag | apply ac | apply af | apply ae | apply ab)
  refine bm [(0, .pure), (1, .read), (3, .pure), (4, .read), (2, .grow), (5, .grow), (6, .grow), (7, .grow), (8, .free)] (by kernel_rfl) (by kernel_rfl) hS ?_
  intro wz5 hS hBz5
  refine al rfl rfl (aH  rfl fp ?_)
  refine aF rfl rfl (aB (k := 1)  rfl ax hS rfl rfl rfl (.inl rfl) ?_)
  refine al rfl rfl (aH  rfl gR ?_)
  refine aF rfl rfl (aB (k := 1)  rfl ax hS rfl rfl rfl (.inl rfl) ?_)
  refine aS rfl rfl (av Tryz.call37 rfl (positive_ok x.price _ (by omega)) ?_)
  rintro _ wc6 ⟨rfl, hBc6⟩
  replace hS := hS.grow hBc6
  refine ⟨hBc6, ?_⟩
  refine aS rfl rfl (av Tryz.call37 rfl (positive_ok x.costs _ (by omega)) ?_)
  rintro _ wc7 ⟨rfl, hBc7⟩
  replace hS := hS.grow hBc7
  refine ⟨hBc7, ?_⟩
  refine aS rfl rfl (av Tryz.call29 rfl (cK (ofQ (d8 (toQ x.price) 0)) (ofQ (d8 (toQ x.costs) 0)) _ (by rw [Lr_ofQ, Lr_ofQ]; omega)) ?_)
  rintro _ wc8 ⟨rfl, hBc8⟩
  replace hS := hS.grow hBc8
  refine ⟨hBc8, ?_⟩
  rw [toQ_ofQ, toQ_ofQ]
  refine aS rfl rfl (av Tryz.call37 rfl (positive_ok (ofQ (d8 (toQ x.price) 0 - d8 (toQ x.costs) 0)) _ (by rw [Lr_ofQ]; omega)) ?_)
  rintro _ wc9 ⟨rfl, hBc9⟩
  replace hS := hS.grow hBc9
  refine ⟨hBc9, ?_⟩
  refine bJ rfl rfl (a8 (k := 0)  rfl rfl ax hS rfl rfl rfl (Nat.le_of_ble_eq_true rfl) rfl ?_)
  intro wz10 hS
  refine bC ?_
  repeat (with_reducible first | apply ag | apply ac | apply af | apply ae | apply ab)
  refine aE ?_
  repeat (with_reducible first | apply ap | apply ao)
  refine bN (k := 0) rfl rfl ax hS rfl rfl ?_
  rw [toQ_ofQ]
  exact ⟨rfl, hS.below⟩
theorem rpositive_ok (r : RR) (w : World) (hr : Lr r ≤ MX) :
    Ret Tryz.prog 74 #[bE r] w fun v w' => v = bE (ofQ (d8 (toQ r) 0)) ∧ Below w.heap.size w w' := by
  have hS := St.init w
  refine enter Tryz.func74 rfl Tryz.ntmps74 rfl ?_
  repeat (with_reducible first | apply ag | apply ac | apply af | apply ae | apply ab)
  refine aj ?_
  refine ak rfl (bX (new := aC r)  rfl rfl hS ?_)
  intro b1 wz2 hS hBz2
  refine ak rfl (aZ  ax hS ?_)
  intro b3 wz4 hS hBz4
  refine ai ?_
  repeat (with_reducible first | apply ag | apply ac | apply af | apply ae | apply ab)
  refine aj ?_
  refine aw rfl (aB (k := 1)  rfl ax hS rfl rfl rfl (.inl rfl) ?_)
  refine ak rfl (av Tryz.call49 rfl (iE r _ hr) ?_)
  rintro _ wc5 ⟨rfl, hBc5⟩
  replace hS := hS.grow hBc5
  refine ak rfl (av Tryz.call73 rfl (rPositive_ok (toQ r) _) ?_)
  rintro _ wc6 ⟨rfl, hBc6⟩
  replace hS := hS.grow hBc6
  refine ak rfl (a8 (k := 0)  rfl rfl ax hS rfl rfl rfl (Nat.le_of_ble_eq_true rfl) rfl ?_)
  intro wz7 hS
  refine ai ?_
  repeat (with_reducible first | apply ag | apply ac | apply af | apply ae | apply ab)
  refine aE ?_
  repeat (with_reducible first | apply ap | apply ao)
  refine bN (k := 0) rfl rfl ax hS rfl rfl ?_
  rw [posQ_max]
  exact ⟨rfl, hS.below⟩
theorem rProceeds_ok (x : It) (ca : Option Addr) (n cap : Nat) (w : World) (hr : Lr x.price + Lr x.costs + 2 ≤ MX) :
    Ret Tryz.prog 48 #[fq x (.slice ca n cap)] w fun v w' => v = bE (ofQ (d7 x)) ∧ Below w.heap.size w w' := by
  have h1 := gO (toQ x.price)
  have h2 := gO (toQ x.costs)
  have h3 := fG x.price
  have h4 := fG x.costs
  have hS := St.init w
  refine enter Tryz.func48 rfl Tryz.ntmps48 rfl ?_
  repeat (with_reducible first | apply ag | apply ac | apply af | apply ae | apply ab)
  refine aj ?_
  refine ak rfl (bX (new := dx (x, .slice ca n cap))  rfl rfl hS ?_)
  intro b1 wz2 hS hBz2
  refine ak rfl (aZ  ax hS ?_)
  intro b3 wz4 hS hBz4
  refine ai ?_
  repeat (with_reducible first | apply ag | apply ac | apply af | apply ae | apply ab)
  refine bm [(0, .pure), (1, .read), (3, .pure), (4, .read), (2, .grow), (5, .grow), (6, .grow), (7, .grow), (8, .free)] (by kernel_rfl) (by kernel_rfl) hS ?_
  intro wz5 hS hBz5
  refine al rfl rfl (aH  rfl fp ?_)
  refine aF rfl rfl (aB (k := 1)  rfl ax hS rfl rfl rfl (.inl rfl) ?_)
  refine al rfl rfl (aH  rfl gR ?_)
  refine aF rfl rfl (aB (k := 1)  rfl ax hS rfl rfl rfl (.inl rfl) ?_)
  refine aS rfl rfl (av Tryz.call74 rfl (rpositive_ok x.price _ (by omega)) ?_)
  rintro _ wc6 ⟨rfl, hBc6⟩
  replace hS := hS.grow hBc6
  refine ⟨hBc6, ?_⟩
  refine aS rfl rfl (av Tryz.call74 rfl (rpositive_ok x.costs _ (by omega)) ?_)
  rintro _ wc7 ⟨rfl, hBc7⟩
  replace hS := hS.grow hBc7
  refine ⟨hBc7, ?_⟩
  refine aS rfl rfl (av Tryz.call46 rfl (e6 (d8 (toQ x.price) 0) (d8 (toQ x.costs) 0) _ (by omega)) ?_)
  rintro _ wc8 ⟨rfl, hBc8⟩
  replace hS := hS.grow hBc8
  refine ⟨hBc8, ?_⟩
  refine aS rfl rfl (av Tryz.call73 rfl (rPositive_ok (d8 (toQ x.price) 0 - d8 (toQ x.costs) 0) _) ?_)
  rintro _ wc9 ⟨rfl, hBc9⟩
  replace hS := hS.grow hBc9
  refine ⟨hBc9, ?_⟩
  refine bJ rfl rfl (a8 (k := 0)  rfl rfl ax hS rfl rfl rfl (Nat.le_of_ble_eq_true rfl) rfl ?_)
  intro wz10 hS
  refine bC ?_
  repeat (with_reducible first | apply ag | apply ac | apply af | apply ae | apply ab)
  refine aE ?_
  repeat (with_reducible first | apply ap | apply ao)
  refine bN (k := 0) rfl rfl ax hS rfl rfl ?_
  rw [posQ_max]
  exact ⟨rfl, hS.below⟩
/-- Has a claim a charge on an item? -/
def cD (x : It) (c : Int) : Bool := x.charges.any fun k => decide (k.claim = c)
theorem secures_take (l : List Ch) (c : Int) {i : Nat} (hi : i < l.length) (h : (l.take i).any (fun k => decide (k.claim = c)) = false) :
    ((l.getD i zCh).claim ≠ c → (l.take (i + 1)).any (fun k => decide (k.claim = c)) = false) ∧ ((l.getD i zCh).claim = c → l.any (fun k => decide (k.claim = c)) = true) := by
  have ht := cR l i zCh hi
  constructor
  · intro h1
    rw [ht, List.any_append, h]
    simpa using h1
  · intro h1
    rw [List.any_eq_true]
    exact ⟨_, cb l i zCh hi, decide_eq_true h1⟩
theorem Secures_ok (x : It) (cv : Value) (c : Int) (w : World) (hch : Sl cS 6 w cv x.charges) :
    Ret Tryz.prog 13 #[fq x cv, .int .i64 c] w fun v w' => v = .bool (cD x c) ∧ Below w.heap.size w w' := by
  have hmc := hch.maxLen
  obtain ⟨ca, ccap, hcve, _⟩ := hch.form
  subst hcve
  have hS := St.init w
  refine enter Tryz.func13 rfl Tryz.ntmps13 rfl ?_
  repeat (with_reducible first | apply ag | apply ac | apply af | apply ae | apply ab)
  refine aj ?_
  refine ak rfl (bX (new := dx (x, .slice ca x.charges.length ccap))  rfl rfl hS ?_)
  intro b1 wz2 hS hBz2
  refine aa rfl (am  rfl ?_)
  refine ai ?_
  repeat (with_reducible first | apply ag | apply ac | apply af | apply ae | apply ab)
  refine aj ?_
  refine aa rfl (am  rfl ?_)
  refine ai ?_
  repeat (with_reducible first | apply ag | apply ac | apply af | apply ae | apply ab)
  refine a5 (σ := Nat) (fun k ρ w' => k ≤ x.charges.length ∧ (x.charges.take k).any (fun k => decide (k.claim = c)) = false ∧ ρ 1 = .int .i64 c ∧ ρ 2 = .pointer (some ⟨b1, 0, none⟩) ∧ ρ 5 = .int .i64 k ∧ St w w' [(b1, 41, dx (x, .slice ca x.charges.length ccap))]) (fun k => x.charges.length - k) 0
    ⟨Nat.zero_le _, rfl, rfl, rfl, rfl, hS⟩ ?_
  clear hS
  rintro k ρ w2 ⟨hk1, hok, h1, h2, h5, hS⟩
  repeat (with_reducible first | apply ag | apply ac | apply af | apply ae | apply ab)
  refine aj ?_
  refine aa rfl (ah  h5 ?_)
  refine aa rfl (aH  h2 dQ ?_)
  refine aw rfl (aB (k := 0)  rfl f0 hS rfl rfl rfl (.inr rfl) ?_)
  refine aa rfl (aG  rfl (hch.below hS.below) ⟨_, Tryz.underlying39⟩ ?_)
  refine aa rfl (aV  rfl rfl ?_)
  refine ai ?_
  repeat (with_reducible first | apply ag | apply ac | apply af | apply ae | apply ab)
  by_cases hk : k < x.charges.length
  · refine aD rfl (decide_eq_true (by omega)) ?_
    repeat (with_reducible first | apply ag | apply ac | apply af | apply ae | apply ab)
    obtain ⟨e1, e2⟩ := secures_take x.charges c hk hok
    repeat (with_reducible first | apply ag | apply ac | apply af | apply ae | apply ab)
    refine aj ?_
    refine aa rfl (aH  h2 dQ ?_)
    refine aw rfl (aB (k := 0)  rfl f0 hS rfl rfl rfl (.inr rfl) ?_)
    refine aa rfl (ah  h5 ?_)
    refine aa rfl (aX (i := k)  rfl rfl (hch.below hS.below) (by omega) (by first | omega | (simp; done) | (simp; omega)) iK ?_)
    refine aa rfl (s_fldr  rfl (spot_el (hch.below hS.below) (fun _ => rfl) (by decide) (by first | omega | (simp; done) | (simp; omega))) fo ?_)
    refine aw rfl (s_ldfe (i := k) (off := 0) zCh  rfl dM (hch.below hS.below) (fun _ => rfl) (by decide) (by first | omega | (simp; done) | (simp; omega)) rfl rfl (.inr rfl) ?_)
    refine aa rfl (ah  h1 ?_)
    refine aa rfl (c6  rfl rfl ?_)
    refine ai ?_
    repeat (with_reducible first | apply ag | apply ac | apply af | apply ae | apply ab)
    by_cases he : (x.charges.getD k zCh).claim = c
    · refine aD rfl (decide_eq_true he) ?_
      repeat (with_reducible first | apply ag | apply ac | apply af | apply ae | apply ab)
      refine aj ?_
      refine aa rfl (am  rfl ?_)
      refine ai ?_
      repeat (with_reducible first | apply ag | apply ac | apply af | apply ae | apply ab)
      refine aE ?_
      repeat (with_reducible first | apply ap | apply ao)
      refine aR rfl rfl ?_
      exact ⟨congrArg Value.bool (e2 he).symm, hS.below⟩
    · refine aN rfl (decide_eq_false he) ?_
      repeat (with_reducible first | apply ag | apply ac | apply af | apply ae | apply ab)
      refine aj ?_
      refine aa rfl (ah  h5 ?_)
      refine aa rfl (aK  rfl rfl (IntWalk.i64_in _ (by omega)) ?_)
      refine aa rfl (am  rfl ?_)
      refine ai ?_
      repeat (with_reducible first | apply ag | apply ac | apply af | apply ae | apply ab)
      exact ⟨k + 1, _, rfl, ⟨hk, e1 he, h1, h2, vi rfl (by omega), hS⟩, by omega⟩
  · refine aN rfl (decide_eq_false (by omega)) ?_
    repeat (with_reducible first | apply ag | apply ac | apply af | apply ae | apply ab)
    refine aU ?_
    repeat (with_reducible first | apply aA | apply az | refine ay rfl ?_)
    repeat (with_reducible first | apply ag | apply ac | apply af | apply ae | apply ab)
    obtain rfl : k = x.charges.length := by omega
    rw [List.take_length] at hok
    repeat (with_reducible first | apply ag | apply ac | apply af | apply ae | apply ab)
    refine aj ?_
    refine aa rfl (am  rfl ?_)
    refine ai ?_
    repeat (with_reducible first | apply ag | apply ac | apply af | apply ae | apply ab)
    refine aE ?_
    repeat (with_reducible first | apply ap | apply ao)
    refine aR rfl rfl ?_
    exact ⟨congrArg Value.bool hok.symm, hS.below⟩
end Go.Proofs.YtmghobajmhdbfaaGreatDoor
namespace Go.Proofs.YtmghobajmhdbfaaGreatDoor
open Go Go.RowKit Go.Sx
def sumIf (n : Nat) (p : Nat → Bool) (f : Nat → Rat) : Rat :=
  match n with
  | 0 => 0
  | n + 1 => sumIf n p f + (if p n = true then f n else 0)
theorem c3 {n : Nat} {p q : Nat → Bool} {f g : Nat → Rat} (h : ∀ i, i < n → p i = q i ∧ f i = g i) : sumIf n p f = sumIf n q g := by
  induction n with
  | zero => rfl
  | succ n ih =>
    rw [sumIf, sumIf, ih (fun i hi => h i (by omega)), (h n (by omega)).1, (h n (by omega)).2]
theorem sumIf_none (n : Nat) (f : Nat → Rat) : sumIf n (fun _ => false) f = 0 := by
  induction n with
  | zero => rfl
  | succ n ih => rw [sumIf, ih]; simp [Rat.add_zero]
theorem im (n : Nat) (p : Nat → Bool) (f : Nat → Rat) (K : Nat) (h : ∀ i, i < n → L (f i) ≤ K) : L (sumIf n p f) ≤ n * (K + 1) + 1 := by
  induction n with
  | zero => rw [sumIf, gK]; omega
  | succ n ih =>
    have h1 := ih (fun i hi => h i (by omega))
    have h2 := h n (by omega)
    rw [sumIf, Nat.add_mul]
    split
    · have := jh (sumIf n p f) (f n); omega
    · rw [Rat.add_zero]; omega
/-- One more member of the set. -/
theorem sumIf_add {n : Nat} {p q : Nat → Bool} {f : Nat → Rat} {j : Nat} (hj : j < n) (hp : p j = false) (hq : q j = true) (h : ∀ i, i < n → i ≠ j → p i = q i) : sumIf n q f = sumIf n p f + f j := by
  induction n with
  | zero => omega
  | succ n ih =>
    rw [sumIf, sumIf]
    by_cases hjn : j = n
    · subst hjn
      rw [c3 (p := q) (q := p) (g := f) (fun i hi => ⟨(h i (by omega) (by omega)).symm, rfl⟩), hp, hq]
      simp [Rat.add_zero]
    · rw [ih (by omega) (fun i hi hne => h i (by omega) hne), h n (by omega) (fun e => hjn e.symm)]
      grind
def eq (f : Nat → Rat) : Nat → Rat
  | 0 => f 0
  | k + 1 => dK (eq f k) (f k)
theorem L_mins (f : Nat → Rat) (K N : Nat) (h : ∀ i, i < N ∨ i = 0 → L (f i) ≤ K) : L (eq f N) ≤ K := by
  induction N with
  | zero => exact h 0 (.inr rfl)
  | succ N ih =>
    have h1 := ih (fun i hi => h i (by omega))
    have h2 := h N (.inl (by omega))
    have := jg (eq f N) (f N)
    rw [eq]; omega
theorem mins_one (f : Nat → Rat) : eq f 1 = f 0 := by unfold eq eq dK; split <;> rfl
/-- Does a claim have a charge on an item outside of the cut? -/
def cG (X : List It) (cut c : Nat) : Bool := (List.range X.length).any fun i => !cut.testBit i && cD (X.getD i zIt) c
def prF (X : List It) (i : Nat) : Rat := d7 (X.getD i zIt)
def owF (owed : List RR) (c : Nat) : Rat := toQ (owed.getD c zRR)
def cJ (X : List It) (owed : List RR) (set : Nat → Bool) (cut : Nat) : Rat :=
  sumIf X.length (fun i => cut.testBit i) (prF X) + sumIf owed.length (fun c => set c && cG X cut c) (owF owed)
def dL (X : List It) (owed : List RR) (set : Nat → Bool) : Rat := eq (cJ X owed set) (2 ^ X.length)
def bR (X : List It) (owed : List RR) (k : Nat) : Rat := if k = 0 then 0 else dL X owed (fun i => decide (i < k))
theorem ij {X : List It} {K : Nat} (h : ItB K X) {i : Nat} (hi : i < X.length) : L (prF X i) ≤ 2 * K + 1 := by
  have h1 := h _ (cb X i zIt hi)
  have h2 := L_proc (X.getD i zIt)
  unfold prF; omega
theorem ix {owed : List RR} {K : Nat} (h : RB K owed) {c : Nat} (hc : c < owed.length) : L (owF owed c) ≤ K :=
  Nat.le_trans (fG _) (h _ (cb owed c zRR hc))
theorem iy {X : List It} {owed : List RR} {K : Nat} (hX : ItB K X) (ho : RB K owed) (hx8 : X.length ≤ 8) (ho24 : owed.length ≤ 24) (set : Nat → Bool) (cut : Nat) : L (cJ X owed set cut) ≤ 40 * K + 45 := by
  unfold cJ
  have h1 := im X.length (fun i => cut.testBit i) (prF X) (2 * K + 1) (fun i hi => ij hX hi)
  have h2 := im owed.length (fun c => set c && cG X cut c) (owF owed) K (fun c hc => ix ho hc)
  have h3 := jh (sumIf X.length (fun i => cut.testBit i) (prF X)) (sumIf owed.length (fun c => set c && cG X cut c) (owF owed))
  have h4 : X.length * (2 * K + 1 + 1) ≤ 8 * (2 * K + 1 + 1) := Nat.mul_le_mul_right _ hx8
  have h5 : owed.length * (K + 1) ≤ 24 * (K + 1) := Nat.mul_le_mul_right _ ho24
  omega
theorem L_capQ {X : List It} {owed : List RR} {K : Nat} (hX : ItB K X) (ho : RB K owed) (hx8 : X.length ≤ 8) (ho24 : owed.length ≤ 24) (set : Nat → Bool) : L (dL X owed set) ≤ 40 * K + 45 :=
  L_mins _ _ _ (fun i _ => iy hX ho hx8 ho24 set i)
theorem iz {X : List It} {owed : List RR} {K : Nat} (hX : ItB K X) (ho : RB K owed) (hx8 : X.length ≤ 8) (ho24 : owed.length ≤ 24) (k : Nat) : L (bR X owed k) ≤ 40 * K + 45 := by
  unfold bR
  split
  · rw [gK]; omega
  · exact L_capQ hX ho hx8 ho24 _
/-- The lowest bit that is set. -/
def low (x : Nat) : Nat := ((List.range 8).find? fun i => x.testBit i).getD 0
theorem low_fin : ∀ x : Fin 256, x.val ≠ 0 → low x.val < 8 ∧ x.val.testBit (low x.val) = true ∧ (x.val &&& (x.val - 1)) < x.val ∧ ∀ i : Fin 8, (x.val &&& (x.val - 1)).testBit i.val = (x.val.testBit i.val && decide (i.val ≠ low x.val)) := by decide +kernel
theorem low_spec {x n : Nat} (hx : x ≠ 0) (hn : n ≤ 8) (h : x < 2 ^ n) : low x < n ∧ x.testBit (low x) = true ∧ (x &&& (x - 1)) < x ∧ (∀ i, i < n → (x &&& (x - 1)).testBit i = (x.testBit i && decide (i ≠ low x))) := by
  have h8 : x < 256 := Nat.lt_of_lt_of_le h (show 2 ^ n ≤ 2 ^ 8 from Nat.pow_le_pow_right (by decide) hn)
  obtain ⟨a, b, c, d⟩ := low_fin ⟨x, h8⟩ hx
  refine ⟨?_, b, c, fun i hi => d ⟨i, by omega⟩⟩
  rcases Nat.lt_or_ge (low x) n with g | g
  · exact g
  · exfalso
    have : x.testBit (low x) = false := Nat.testBit_lt_two_pow (Nat.lt_of_lt_of_le h (Nat.pow_le_pow_right (by decide) g))
    rw [this] at b; cases b
/-- What a cut pays: by its lowest item. -/
theorem cut_step (f : Nat → Rat) {n x : Nat} (hx : x ≠ 0) (hn : n ≤ 8) (h : x < 2 ^ n) : sumIf n (fun i => x.testBit i) f = sumIf n (fun i => (x &&& (x - 1)).testBit i) f + f (low x) := by
  obtain ⟨a, b, _, d⟩ := low_spec hx hn h
  refine sumIf_add a ?_ b (fun i hi hne => ?_)
  · rw [d _ a]; simp
  · rw [d i hi]; simp [hne]
end Go.Proofs.YtmghobajmhdbfaaGreatDoor
namespace Go.Proofs.YtmghobajmhdbfaaGreatDoor
open Go Go.RowKit Go.Sx
def tzTab : List Nat := [0, 1, 56, 2, 57, 49, 28, 3, 61, 58, 42, 50, 38, 29, 17, 4, 62, 47, 59, 36, 45, 43, 51, 22, 53, 39, 33, 30, 24, 18, 12, 5, 63, 55, 48, 27, 60, 41, 37, 16, 46, 35, 44, 21, 52, 32, 23, 11, 54, 26, 40, 15, 34, 20, 31, 10, 25, 14, 19, 9, 13, 8, 7, 6]
theorem tz_fin : ∀ x : Fin 256, x.val ≠ 0 → ((x.val &&& (18446744073709551616 - x.val)) * 285870213051353865) % 18446744073709551616 / 2 ^ 58 < 64 ∧
    tzTab.getD (((x.val &&& (18446744073709551616 - x.val)) * 285870213051353865) % 18446744073709551616 / 2 ^ 58) 0 = low x.val ∧ (x.val &&& (18446744073709551616 - x.val)) ≤ 128 := by decide +kernel
section
variable {P : Program} {N : Nat} {ρ : Nat → Value} {w : World}
  {d : Option Tmp} {ty : TypeId} {pos : String} {aft : Array Edge} {g : Option (Nat × Bool)} {x y : Operand} {t e : TypeId} {K : Value → Prop}
/-- A place in an array that is a variable of the program's. -/
theorem s_ixg {b n i sz : Nat} {zz : List Value} {kk : IntKind} {m : Int} (hx : ev N ρ x = .pointer (some ⟨b, 0, none⟩)) (hy : ev N ρ y = .int kk m) (hm : m = (i : Int)) (hi : i < n)
    (ht : P.underlying t = some (.array n e)) (he : cw P e = some (sz, false, zz)) (h : K (.pointer (some ⟨b, i * sz, none⟩))) :
    bP P N ρ ⟨d, .indexAddr t x y, ty, pos, aft, g⟩ K := by
  obtain ⟨ii, dd, zv, hi1, hu, _, hsz, _⟩ := dZ he
  subst hm hsz
  refine ⟨_, fun w => ?_, h⟩
  simp [execOp, hx, hy, Instr.indexAt, asIntOf, run_underlying ht, hi, sizeOf, typeInfo, hi1, add_lit, Instr.sureAddr]
end
theorem TrailingZeros64_ok (x : Nat) (w : World) (h0 : x ≠ 0) (h8 : x < 256) (hT : At w ⟨2, 0, none⟩ (Kr .u8 tzTab)) :
    Ret Tryz.prog 97 #[.int .u64 x] w fun v w' => v = .int .i64 (low x) ∧ w' = w := by
  obtain ⟨a, b, c⟩ := tz_fin ⟨x, h8⟩ h0
  simp only at a b c
  obtain ⟨y, hy⟩ : ∃ y, y = x &&& (18446744073709551616 - x) := ⟨_, rfl⟩
  rw [← hy] at a b c
  obtain ⟨i, hi⟩ : ∃ i, i = y * 285870213051353865 % 18446744073709551616 / 2 ^ 58 := ⟨_, rfl⟩
  rw [← hi] at a b
  have hl : low x < 8 := (low_fin ⟨x, h8⟩ h0).1
  have hge : (Kr .u8 tzTab)[i]? = some (.int .u8 (low x : Nat)) := by rw [Kr_get _ _ (by show i < 64; exact a), b]
  have hcell := hT i _ hge
  rw [add_lit, Nat.zero_add] at hcell
  refine enter Tryz.func97 rfl Tryz.ntmps97 rfl ?_
  repeat (with_reducible first | apply ag | apply ac | apply af | apply ae | apply ab)
  refine aj ?_
  refine aa rfl (am  rfl ?_)
  refine ai ?_
  repeat (with_reducible first | apply ag | apply ac | apply af | apply ae | apply ab)
  refine aj ?_
  refine aa rfl (ah  rfl ?_)
  refine aa rfl (c6  rfl rfl ?_)
  refine ai ?_
  repeat (with_reducible first | apply ag | apply ac | apply af | apply ae | apply ab)
  refine aN rfl (decide_eq_false (by omega)) ?_
  repeat (with_reducible first | apply ag | apply ac | apply af | apply ae | apply ab)
  refine aj ?_
  refine aa rfl (ah  rfl ?_)
  refine aa rfl (ah  rfl ?_)
  refine aa rfl (s_neg  rfl (r := ((18446744073709551616 - x : Nat) : Int)) (by rw [e7]; omega) ?_)
  refine aa rfl (gz  rfl rfl (r := ((y : Nat) : Int)) (by rw [hy]; exact go rfl _ _ (by show x < 18446744073709551616; omega) (by show _ < 18446744073709551616; omega)) ?_)
  refine aa rfl (f5  rfl rfl (r := ((y * 285870213051353865 % 18446744073709551616 : Nat) : Int)) (by rw [e7]; omega) ?_)
  refine aa rfl (dk  rfl rfl (by omega) (r := ((i : Nat) : Int)) (by rw [hi]; exact dp _ 58 (by decide)) ?_)
  refine aa rfl (s_ixg (n := 64) (i := i) rfl rfl rfl a Tryz.underlying138 vi_5 ?_)
  refine aw rfl (gJ (v := .int .u8 (low x : Nat))  rfl vi_5 (At.one (by rw [Nat.mul_one]; exact hcell)) rfl rfl (.inr rfl) ?_)
  refine aa rfl (aL  rfl Tryz.underlying3 ⟨_, Tryz.underlying5⟩ (r := ((low x : Nat) : Int)) (by exact eG _ ⟨rfl, by omega, by omega⟩) ?_)
  refine aa rfl (am  rfl ?_)
  refine ai ?_
  repeat (with_reducible first | apply ag | apply ac | apply af | apply ae | apply ab)
  refine aE ?_
  repeat (with_reducible first | apply ap | apply ao)
  refine aR rfl rfl ?_
  exact ⟨rfl, rfl⟩
theorem TrailingZeros_ok (x : Nat) (w : World) (h0 : x ≠ 0) (h8 : x < 256) (hT : At w ⟨2, 0, none⟩ (Kr .u8 tzTab)) :
    Ret Tryz.prog 69 #[.int .u64 x] w fun v w' => v = .int .i64 (low x) ∧ w' = w := by
  refine enter Tryz.func69 rfl Tryz.ntmps69 rfl ?_
  repeat (with_reducible first | apply ag | apply ac | apply af | apply ae | apply ab)
  refine aj ?_
  refine aa rfl (am  rfl ?_)
  refine ai ?_
  repeat (with_reducible first | apply ag | apply ac | apply af | apply ae | apply ab)
  refine aN rfl (rfl) ?_
  repeat (with_reducible first | apply ag | apply ac | apply af | apply ae | apply ab)
  refine aj ?_
  refine aa rfl (ah  rfl ?_)
  refine ak rfl (av Tryz.call97 rfl (TrailingZeros64_ok x w h0 h8 hT) ?_)
  rintro v w' ⟨rfl, rfl⟩
  refine aa rfl (am  rfl ?_)
  refine ai ?_
  repeat (with_reducible first | apply ag | apply ac | apply af | apply ae | apply ab)
  refine aE ?_
  repeat (with_reducible first | apply ap | apply ao)
  refine aR rfl rfl ?_
  exact ⟨rfl, rfl⟩
end Go.Proofs.YtmghobajmhdbfaaGreatDoor
namespace Go.Proofs.YtmghobajmhdbfaaGreatDoor
open Go Go.RowKit Go.Sx
theorem fB (xs : List RR) : ∀ u ∈ xs.flatMap aC, u.oneCell' = true := by
  intro u hu
  obtain ⟨x, _, hx⟩ := List.mem_flatMap.1 hu
  simp only [aC, List.mem_cons, List.not_mem_nil, or_false] at hx
  rcases hx with rfl | rfl | rfl <;> rfl
theorem fU : toQ zRR = 0 := by rw [← toQ_ofQ 0, cI]; rfl
theorem Lr_zRR : Lr zRR = 1 := by decide
theorem built_Net (a : Option Addr) (n c : Nat) : Tryz.prog.built 67 [(2, .slice a n c)] = some #[.slice none 0 0, .slice none 0 0, .slice a n c] := by kernel_rfl
/-- What the claims' masks say, when the first i items are done, and of the next one its first k charges. -/
structure Masks (X : List It) (m i k : Nat) (R : List Nat) : Prop where
  len : R.length = m
  lt : ∀ c, c < m → R.getD c 0 < 256
  bit : ∀ c, c < m → ∀ j, (R.getD c 0).testBit j = ((decide (j < i) && cD (X.getD j zIt) c) || (decide (j = i) && ((X.getD i zIt).charges.take k).any (fun q => decide (q.claim = (c : Int)))))
theorem Masks.start (X : List It) (m : Nat) : Masks X m 0 0 (List.replicate m 0) := by
  have h : ∀ c, (List.replicate m 0).getD c 0 = 0 := by
    intro c
    rw [List.getD_eq_getElem?_getD, List.getElem?_replicate]
    split <;> rfl
  refine ⟨by simp, fun c _ => by rw [h]; decide, fun c _ j => ?_⟩
  rw [h]; simp
theorem Masks.next {X : List It} {m i : Nat} {R : List Nat} (h : Masks X m i (X.getD i zIt).charges.length R) : Masks X m (i + 1) 0 R := by
  refine ⟨h.len, h.lt, fun c hc j => ?_⟩
  rw [h.bit c hc j, List.take_length, List.take_zero, List.any_nil, Bool.and_false, Bool.or_false]
  by_cases h1 : j = i
  · subst h1; simp [cD]
  · by_cases h2 : j < i
    · have h3 : j < i + 1 := by omega
      simp [h1, h2, h3]
    · have h3 : ¬ j < i + 1 := by omega
      simp [h1, h2, h3]
theorem Masks.charge {X : List It} {m i k c0 : Nat} {R : List Nat} (h : Masks X m i k R) (hi : i < 8) (hk : k < (X.getD i zIt).charges.length) (hcl0 : ((X.getD i zIt).charges.getD k zCh).claim = (c0 : Int)) (hc0 : c0 < m) :
    Masks X m i (k + 1) (R.set c0 (R.getD c0 0 ||| 2 ^ i)) := by
  have ht := cR (X.getD i zIt).charges k zCh hk
  have hg : ∀ c, c < m → (R.set c0 (R.getD c0 0 ||| 2 ^ i)).getD c 0 = if c = c0 then R.getD c0 0 ||| 2 ^ i else R.getD c 0 := by
    intro c hcm
    rw [List.getD_eq_getElem?_getD, List.getElem?_set]
    by_cases he : c = c0
    · subst he; rw [if_pos rfl, if_pos rfl, if_pos (by rw [h.len]; exact hcm)]; rfl
    · rw [if_neg (fun g => he g.symm), if_neg he, List.getD_eq_getElem?_getD]
  have hp : 2 ^ i < 256 := Nat.lt_of_lt_of_le (Nat.pow_lt_pow_right (by decide) hi) (by decide)
  refine ⟨by simp [h.len], fun c hcm => ?_, fun c hcm j => ?_⟩
  · rw [hg c hcm]
    split
    · exact Nat.or_lt_two_pow (n := 8) (h.lt c0 hc0) hp
    · exact h.lt c hcm
  · rw [hg c hcm, ht, List.any_append]
    simp only [List.any_cons, List.any_nil, Bool.or_false, hcl0]
    by_cases he : c = c0
    · subst he
      rw [if_pos rfl, Nat.testBit_or, h.bit c hcm j, Nat.testBit_two_pow]
      by_cases hj : j = i
      · subst hj; simp
      · have : ¬ i = j := fun e => hj e.symm
        simp [hj, this]
    · rw [if_neg he, h.bit c hcm j]
      have : ¬ ((c0 : Int) = (c : Int)) := by omega
      simp [this]
def bV (X : List It) : List RR := X.map fun x => ofQ (d7 x)
def bU (owed : List RR) : List RR := owed.map fx
theorem procs_take (X : List It) {i : Nat} (hi : i < X.length) : bV (X.take (i + 1)) = bV (X.take i) ++ [ofQ (d7 (X.getD i zIt))] := by
  unfold bV; rw [cR X i zIt hi, List.map_append]; rfl
theorem owed_take (l : List RR) {i : Nat} (hi : i < l.length) : bU (l.take (i + 1)) = bU (l.take i) ++ [fx (l.getD i zRR)] := by
  unfold bU; rw [cR l i zRR hi, List.map_append]; rfl
set_option maxHeartbeats 1000000 in
theorem gT (vi_ vo : Value) (X : List It) (cvs : List Value) (owed : List RR) (K : Nat) (w : World) (hX : Its w vi_ X cvs) (ho : Sl aC 3 w vo owed) (hXB : ItB K X) (hoB : RB K owed) (hK : 2 * K + 2 ≤ MX) (hX8 : X.length ≤ 8) (ho24 : owed.length ≤ 24)
    (hcl : ∀ x ∈ X, ∀ c ∈ x.charges, 0 ≤ c.claim ∧ c.claim < owed.length) :
    Ret Tryz.prog 26 #[vi_, vo] w fun v w' => ∃ sP sO LP LO bI R, v = .agg #[sP, sO, .slice (some ⟨bI, 0, none⟩) owed.length owed.length] ∧ Gl aC 36 3 sP (bV X) LP ∧ Gl aC 36 3 sO (bU owed) LO ∧ Masks X owed.length X.length 0 R ∧
      St w w' ([(bI, 85, Kr .u64 R)] ++ LO ++ LP) := by
  have hM : MX = 1099511627776 := rfl
  have hmo := ho.maxLen
  have hzl := hX.zlen
  obtain ⟨m, hm⟩ : ∃ m, m = owed.length := ⟨_, rfl⟩
  have hS := St.init w
  refine enter Tryz.func26 rfl Tryz.ntmps26 rfl ?_
  repeat (with_reducible first | apply ag | apply ac | apply af | apply ae | apply ab)
  refine aj ?_
  refine ak rfl (aZ  eK hS ?_)
  intro b4 wz1 hS hBz1
  refine ai ?_
  repeat (with_reducible first | apply ag | apply ac | apply af | apply ae | apply ab)
  refine aj ?_
  refine aa rfl (ah  rfl ?_)
  refine aa rfl (aG  rfl (ho.below hS.below) ⟨_, Tryz.underlying24⟩ ?_)
  refine ak rfl (c4 (n := owed.length)  rfl rfl iR (by omega) (by omega) (by omega) (by omega) hS ?_)
  intro bI wz2 hS hBz2
  refine aa rfl (ce  rfl (built_Net _ _ _) ?_)
  refine ak rfl (aZ  eK hS ?_)
  intro bn wz3 hS hBz3
  refine ak rfl (a8 (k := 0)  rfl rfl eK hS rfl rfl rfl (Nat.le_of_ble_eq_true rfl) rfl ?_)
  intro wz4 hS
  refine ai ?_
  repeat (with_reducible first | apply ag | apply ac | apply af | apply ae | apply ab)
  rw [← hm]
  rw [← hm] at hS
  replace hS : St w _ ([(bn, 67, [.slice none 0 0, .slice none 0 0, .slice (some ⟨bI, 0, none⟩) m m]), (bI, 85, Kr .u64 (List.replicate m 0)), (b4, 67, [.slice none 0 0, .slice none 0 0, .slice none 0 0])] ++ []) := hS
  repeat (with_reducible first | apply ag | apply ac | apply af | apply ae | apply ab)
  refine aj ?_
  refine aa rfl (ah  rfl ?_)
  refine aa rfl (aG  rfl (ho.below hS.below) ⟨_, Tryz.underlying24⟩ ?_)
  refine aa rfl (ah  rfl ?_)
  refine ai ?_
  repeat (with_reducible first | apply ag | apply af | apply ae | apply ab)
  refine a9 (fun ρ w' => ρ 0 = vi_ ∧ ρ 1 = vo ∧ ρ 4 = .pointer (some ⟨b4, 0, none⟩) ∧ ρ 5 = .pointer (some ⟨bn, 0, none⟩) ∧ ∃ sO LO, Gl aC 36 3 sO (bU owed) LO ∧
      St w w' ([(bn, 67, [.slice none 0 0, sO, .slice (some ⟨bI, 0, none⟩) m m]), (bI, 85, Kr .u64 (List.replicate m 0)), (b4, 67, [.slice none 0 0, .slice none 0 0, .slice none 0 0])] ++ LO)) ?_ ?_
  · repeat (with_reducible first | apply ag | apply ac | apply af | apply ae | apply ab)
    refine a5 (σ := Nat) (fun i ρ w' => i ≤ owed.length ∧ ρ 0 = vi_ ∧ ρ 1 = vo ∧ ρ 4 = .pointer (some ⟨b4, 0, none⟩) ∧ ρ 5 = .pointer (some ⟨bn, 0, none⟩) ∧ ρ 16 = vo ∧ ρ 17 = .int .i64 owed.length ∧ ρ 18 = .int .i64 i ∧ ∃ sO LO, Gl aC 36 3 sO (bU (owed.take i)) LO ∧
        St w w' ([(bn, 67, [.slice none 0 0, sO, .slice (some ⟨bI, 0, none⟩) m m]), (bI, 85, Kr .u64 (List.replicate m 0)), (b4, 67, [.slice none 0 0, .slice none 0 0, .slice none 0 0])] ++ LO)) (fun i => owed.length - i) 0
      ⟨Nat.zero_le _, rfl, rfl, rfl, rfl, rfl, rfl, rfl, ⟨_, [], Gl.nil _ _ _, hS⟩⟩ ?_
    clear hS
    rintro i ρ w2 ⟨hi, h0, h1, h4, h5, h16, h17, h18, sO, LO, hG, hS⟩
    obtain ⟨aO, cO, hsO⟩ := hG.len
    subst hsO
    repeat (with_reducible first | apply ag | apply ac | apply af | apply ae | apply ab)
    refine aj ?_
    refine aa rfl (aV  h18 h17 ?_)
    refine ai ?_
    repeat (with_reducible first | apply ag | apply ac | apply af | apply ae | apply ab)
    by_cases hlt : i < owed.length
    · refine aD rfl (decide_eq_true (by omega)) ?_
      repeat (with_reducible first | apply ag | apply ac | apply af | apply ae | apply ab)
      have hr := hoB _ (cb owed i zRR hlt)
      have hlen : (bU (owed.take i)).length = i := by simp [bU]; omega
      repeat (with_reducible first | apply ag | apply ac | apply af | apply ae | apply ab)
      refine aj ?_
      refine aa rfl (aX (i := i)  h16 h18 (ho.below hS.below) (by omega) (by first | omega | (simp; done) | (simp; omega)) bH ?_)
      refine aw rfl (a6 (i := i) zRR  rfl ax (ho.below hS.below) (by first | omega | (simp; done) | (simp; omega)) rfl rfl (.inl rfl) ?_)
      refine ak rfl (aZ  ax hS ?_)
      intro b7 wz5 hS hBz5
      refine ak rfl (a8 (k := 0)  rfl rfl ax hS rfl rfl rfl (Nat.le_of_ble_eq_true rfl) rfl ?_)
      intro wz6 hS
      refine ai ?_
      repeat (with_reducible first | apply ag | apply ac | apply af | apply ae | apply ab)
      replace hS : St w _ ([(b7, 36, aC (owed.getD i zRR)), (bn, 67, [.slice none 0 0, .slice aO (bU (owed.take i)).length cO, .slice (some ⟨bI, 0, none⟩) m m]), (bI, 85, Kr .u64 (List.replicate m 0)), (b4, 67, [.slice none 0 0, .slice none 0 0, .slice none 0 0])] ++ LO) := hS
      repeat (with_reducible first | apply ag | apply ac | apply af | apply ae | apply ab)
      refine bm [(0, .pure), (1, .read), (2, .read), (3, .pure), (4, .grow), (5, .grow), (6, .free), (7, .pure), (8, .free)] (by kernel_rfl) (by kernel_rfl) hS ?_
      intro wz7 hS hBz7
      refine al rfl rfl (aH  h5 fk ?_)
      refine aF rfl rfl (aB (k := 1)  rfl cX hS rfl rfl rfl (.inr rfl) ?_)
      refine aF rfl rfl (aB (k := 0)  rfl ax hS rfl rfl rfl (.inl rfl) ?_)
      refine al rfl rfl (ce  rfl eJ ?_)
      refine aS rfl rfl (av Tryz.call14 rfl (iu (owed.getD i zRR) zRR _ (by rw [Lr_zRR]; omega)) ?_)
      rintro r w3 ⟨rfl, hB3⟩
      refine ⟨hB3, ?_⟩
      rw [fU, Rat.add_zero]
      replace hS := hS.grow hB3
      replace hS : St w _ ([(b7, 36, aC (owed.getD i zRR)), (bn, 67, [.slice none 0 0, .slice aO (bU (owed.take i)).length cO, .slice (some ⟨bI, 0, none⟩) m m]), (bI, 85, Kr .u64 (List.replicate m 0)), (b4, 67, [.slice none 0 0, .slice none 0 0, .slice none 0 0])] ++ LO) := hS
      refine aS rfl rfl (dJ (vs := [bE (ofQ (toQ (owed.getD i zRR)))])  rfl bH rfl (by decide) (by decide) (by decide) (by simp [Value.cells, bE]) rfl hS ?_)
      intro b8 wz9 hS hBz9
      refine ⟨hBz9, ?_⟩
      refine bJ rfl rfl (eH [fx (owed.getD i zRR)]  rfl rfl bH (by decide) hG hS rfl rfl bg (fB [fx (owed.getD i zRR)]) (by first | omega | (simp only [List.length_cons, List.length_nil]; omega)) (by first | omega | (simp only [List.length_cons, List.length_nil]; omega)) ?_)
      intro va10 La10 wa10 hG hS hga10
      refine al rfl rfl (aH  h5 fk ?_)
      refine bJ rfl rfl (ir (k := 1)  rfl rfl cX hS rfl (Nat.le_of_ble_eq_true rfl) (by obtain ⟨a, c, h⟩ := hG.len; rw [h]; rfl) ?_)
      intro wz11 hS
      refine bC ?_
      repeat (with_reducible first | apply ag | apply ac | apply af | apply ae | apply ab)
      replace hS : St w _ ((b7, 36, aC (owed.getD i zRR)) :: ([(bn, 67, [.slice none 0 0, _, .slice (some ⟨bI, 0, none⟩) m m]), (bI, 85, Kr .u64 (List.replicate m 0)), (b4, 67, [.slice none 0 0, .slice none 0 0, .slice none 0 0])] ++ _)) := hS
      repeat (with_reducible first | apply ag | apply ac | apply af | apply ae | apply ab)
      refine aj ?_
      refine aa rfl (aK  h18 rfl (IntWalk.i64_in _ (by omega)) ?_)
      refine aa rfl (ah  rfl ?_)
      refine ai ?_
      repeat (with_reducible first | apply ag | apply ac | apply af | apply ae | apply ab)
      refine ⟨i + 1, _, rfl, ⟨hlt, h0, h1, h4, h5, h16, h17, vi rfl (by omega), ⟨_, _, ?_, hS.drop (List.sublist_cons_self _ _)⟩⟩, by omega⟩
      rw [owed_take owed hlt]; exact hG
    · refine aN rfl (decide_eq_false (by omega)) ?_
      repeat (with_reducible first | apply ag | apply ac | apply af | apply ae | apply ab)
      refine aU ?_
      repeat (with_reducible first | apply aA | apply az | refine ay rfl ?_)
      repeat (with_reducible first | apply ag | apply ac | apply af | apply ae | apply ab)
      obtain rfl : i = owed.length := by omega
      rw [List.take_length] at hG hS
      exact ⟨_, rfl, h0, h1, h4, h5, ⟨_, _, hG, hS⟩⟩
  clear hS
  rintro ρ w2 ⟨h0, h1, h4, h5, sO, LO, hGO, hS⟩
  obtain ⟨aO, cO, hsO⟩ := hGO.len
  rw [hsO] at hS
  repeat (with_reducible first | apply ag | apply ac | apply af | apply ae | apply ab)
  refine aj ?_
  refine aa rfl (ah  h0 ?_)
  refine aa rfl (aG  rfl (hX.sl.below hS.below) ⟨_, Tryz.underlying26⟩ ?_)
  refine aa rfl (ah  rfl ?_)
  refine ai ?_
  repeat (with_reducible first | apply ag | apply ac | apply af | apply ae | apply ab)
  rw [hzl]
  refine a5 (σ := Nat) (fun i ρ w' => i ≤ X.length ∧ ρ 4 = .pointer (some ⟨b4, 0, none⟩) ∧ ρ 5 = .pointer (some ⟨bn, 0, none⟩) ∧ ρ 31 = vi_ ∧ ρ 32 = .int .i64 X.length ∧ ρ 33 = .int .i64 i ∧ ∃ sP LP R, Gl aC 36 3 sP (bV (X.take i)) LP ∧ Masks X m i 0 R ∧
      St w w' ([(bn, 67, [sP, .slice aO (bU owed).length cO, .slice (some ⟨bI, 0, none⟩) m m]), (bI, 85, Kr .u64 R), (b4, 67, [.slice none 0 0, .slice none 0 0, .slice none 0 0])] ++ LO ++ LP)) (fun i => X.length - i) 0
    ⟨Nat.zero_le _, h4, h5, rfl, rfl, rfl, ⟨_, [], _, Gl.nil _ _ _, Masks.start X m, by rw [List.append_nil]; exact hS⟩⟩ ?_
  clear hS h0 h1 h4 h5
  rintro i ρ w3 ⟨hi, h4, h5, h31, h32, h33, sP, LP, R, hG, hR, hS⟩
  obtain ⟨aP, cP, hsP⟩ := hG.len
  subst hsP
  repeat (with_reducible first | apply ag | apply ac | apply af | apply ae | apply ab)
  refine aj ?_
  refine aa rfl (aV  h33 h32 ?_)
  refine ai ?_
  repeat (with_reducible first | apply ag | apply ac | apply af | apply ae | apply ab)
  by_cases hlt : i < X.length
  · refine aD rfl (decide_eq_true (by omega)) ?_
    repeat (with_reducible first | apply ag | apply ac | apply af | apply ae | apply ab)
    obtain ⟨x, hx⟩ : ∃ x, x = X.getD i zIt := ⟨_, rfl⟩
    obtain ⟨cv, hcv⟩ : ∃ cv, cv = cvs.getD i undef := ⟨_, rfl⟩
    have hmem : x ∈ X := by rw [hx]; exact cb X i zIt hlt
    have hxB := hXB x hmem
    have hch := hX.ch i hlt
    rw [← hx, ← hcv] at hch
    have hmc := hch.maxLen
    obtain ⟨ca, ccap, hcve, _⟩ := hch.form
    subst hcve
    have hzg := hX.zget hlt
    rw [← hx, ← hcv] at hzg
    have hlen : (bV (X.take i)).length = i := by simp [bV]; omega
    repeat (with_reducible first | apply ag | apply ac | apply af | apply ae | apply ab)
    refine aj ?_
    refine aa rfl (ah  h33 ?_)
    refine aa rfl (aX (i := i)  h31 h33 (hX.sl.below hS.below) (by omega) (by first | omega | (simp; done) | (simp; omega)) g8 ?_)
    refine aw rfl (a6 (v := fq x (.slice ca x.charges.length ccap)) (i := i) (zIt, undef)  rfl eD (hX.sl.below hS.below) (by omega) rfl (by rw [hzg]; rfl) (.inl rfl) ?_)
    refine ak rfl (aZ  eD hS ?_)
    intro b9 wz12 hS hBz12
    refine aa rfl (am  rfl ?_)
    refine ak rfl (a8 (k := 0)  rfl rfl eD hS rfl rfl rfl (Nat.le_of_ble_eq_true rfl) rfl ?_)
    intro wz13 hS
    refine ai ?_
    repeat (with_reducible first | apply ag | apply ac | apply af | apply ae | apply ab)
    replace hS : St w _ ([(b9, 41, dx (x, .slice ca x.charges.length ccap)), (bn, 67, [.slice aP (bV (X.take i)).length cP, .slice aO (bU owed).length cO, .slice (some ⟨bI, 0, none⟩) m m]), (bI, 85, Kr .u64 R), (b4, 67, [.slice none 0 0, .slice none 0 0, .slice none 0 0])] ++ LO ++ LP) := hS
    repeat (with_reducible first | apply ag | apply ac | apply af | apply ae | apply ab)
    refine bm [(0, .pure), (1, .read), (2, .read), (3, .grow), (4, .grow), (5, .free), (6, .pure), (7, .free)] (by kernel_rfl) (by kernel_rfl) hS ?_
    intro wz14 hS hBz14
    refine al rfl rfl (aH  h5 eT ?_)
    refine aF rfl rfl (aB (k := 1)  rfl cX hS rfl rfl rfl (.inr rfl) ?_)
    refine aF rfl rfl (aB (k := 0)  rfl eD hS rfl rfl rfl (.inl rfl) ?_)
    refine aS rfl rfl (av Tryz.call11 rfl (Proceeds_ok x ca x.charges.length ccap _ (by have := hxB.1; have := hxB.2.1; omega)) ?_)
    rintro r w4 ⟨rfl, hB4⟩
    refine ⟨hB4, ?_⟩
    replace hS := hS.grow hB4
    replace hS : St w _ ([(b9, 41, dx (x, .slice ca x.charges.length ccap)), (bn, 67, [.slice aP (bV (X.take i)).length cP, .slice aO (bU owed).length cO, .slice (some ⟨bI, 0, none⟩) m m]), (bI, 85, Kr .u64 R), (b4, 67, [.slice none 0 0, .slice none 0 0, .slice none 0 0])] ++ LO ++ LP) := hS
    refine aS rfl rfl (dJ (vs := [bE (ofQ (d7 x))])  rfl bH rfl (by decide) (by decide) (by decide) (by simp [Value.cells, bE]) rfl hS ?_)
    intro b15 wz16 hS hBz16
    refine ⟨hBz16, ?_⟩
    refine bJ rfl rfl (eH [ofQ (d7 x)]  rfl rfl bH (by decide) hG hS rfl rfl bg (fB [ofQ (d7 x)]) (by first | omega | (simp only [List.length_cons, List.length_nil]; omega)) (by first | omega | (simp only [List.length_cons, List.length_nil]; omega)) ?_)
    intro va17 La17 wa17 hG hS hga17
    refine al rfl rfl (aH  h5 eT ?_)
    refine bJ rfl rfl (ir (k := 1)  rfl rfl cX hS rfl (Nat.le_of_ble_eq_true rfl) (by obtain ⟨a, c, h⟩ := hG.len; rw [h]; rfl) ?_)
    intro wz18 hS
    refine bC ?_
    repeat (with_reducible first | apply ag | apply ac | apply af | apply ae | apply ab)
    rw [hx, ← procs_take X hlt] at hG
    obtain ⟨aP2, cP2, hsP2⟩ := hG.len
    subst hsP2
    replace hS : St w _ ([(b9, 41, dx (x, .slice ca x.charges.length ccap)), (bn, 67, [.slice aP2 (bV (X.take (i + 1))).length cP2, .slice aO (bU owed).length cO, .slice (some ⟨bI, 0, none⟩) m m]), (bI, 85, Kr .u64 R), (b4, 67, [.slice none 0 0, .slice none 0 0, .slice none 0 0])] ++ LO ++ _) := hS
    repeat (with_reducible first | apply ag | apply ac | apply af | apply ae | apply ab)
    refine aj ?_
    refine aa rfl (aH  rfl dQ ?_)
    refine aw rfl (aB (k := 0)  rfl f0 hS rfl rfl rfl (.inr rfl) ?_)
    refine aa rfl (aG  rfl (hch.below hS.below) ⟨_, Tryz.underlying39⟩ ?_)
    refine aa rfl (ah  rfl ?_)
    refine ai ?_
    repeat (with_reducible first | apply ag | apply af | apply ae | apply ab)
    refine a9 (fun ρ w' => ρ 4 = .pointer (some ⟨b4, 0, none⟩) ∧ ρ 5 = .pointer (some ⟨bn, 0, none⟩) ∧ ρ 31 = vi_ ∧ ρ 32 = .int .i64 X.length ∧ ρ 33 = .int .i64 i ∧ ∃ R, Masks X m i x.charges.length R ∧
      St w w' ([(bn, 67, [.slice aP2 (bV (X.take (i + 1))).length cP2, .slice aO (bU owed).length cO, .slice (some ⟨bI, 0, none⟩) m m]), (bI, 85, Kr .u64 R), (b4, 67, [.slice none 0 0, .slice none 0 0, .slice none 0 0])] ++ LO ++ La17)) ?_ ?_
    · repeat (with_reducible first | apply ag | apply ac | apply af | apply ae | apply ab)
      refine a5 (σ := Nat) (fun k ρ w' => k ≤ x.charges.length ∧ ρ 4 = .pointer (some ⟨b4, 0, none⟩) ∧ ρ 5 = .pointer (some ⟨bn, 0, none⟩) ∧ ρ 31 = vi_ ∧ ρ 32 = .int .i64 X.length ∧ ρ 33 = .int .i64 i ∧ ρ 8 = .int .i64 i ∧ ρ 46 = .slice ca x.charges.length ccap ∧ ρ 47 = .int .i64 x.charges.length ∧ ρ 48 = .int .i64 k ∧ ∃ R, Masks X m i k R ∧
          St w w' ([(bn, 67, [.slice aP2 (bV (X.take (i + 1))).length cP2, .slice aO (bU owed).length cO, .slice (some ⟨bI, 0, none⟩) m m]), (bI, 85, Kr .u64 R), (b4, 67, [.slice none 0 0, .slice none 0 0, .slice none 0 0])] ++ LO ++ La17)) (fun k => x.charges.length - k) 0
        ⟨Nat.zero_le _, h4, h5, h31, h32, h33, rfl, rfl, rfl, rfl, ⟨R, hR, hS.drop (List.sublist_cons_self _ _)⟩⟩ ?_
      clear hS
      rintro k ρ w5 ⟨hk, h4, h5, h31, h32, h33, h8, h46, h47, h48, R, hR, hS⟩
      repeat (with_reducible first | apply ag | apply ac | apply af | apply ae | apply ab)
      refine aj ?_
      refine aa rfl (aV  h48 h47 ?_)
      refine ai ?_
      repeat (with_reducible first | apply ag | apply ac | apply af | apply ae | apply ab)
      by_cases hlk : k < x.charges.length
      · refine aD rfl (decide_eq_true (by omega)) ?_
        repeat (with_reducible first | apply ag | apply ac | apply af | apply ae | apply ab)
        have hcm := hcl x hmem _ (cb x.charges k zCh hlk)
        obtain ⟨c0, hc0⟩ : ∃ c0 : Nat, (x.charges.getD k zCh).claim = (c0 : Int) := ⟨_, (Int.toNat_of_nonneg hcm.1).symm⟩
        have hc0m : c0 < m := by omega
        have hRl := hR.len
        have hRlt := hR.lt c0 hc0m
        have hp : 2 ^ i < 256 := Nat.lt_of_lt_of_le (Nat.pow_lt_pow_right (by decide) (show i < 8 by omega)) (by decide)
        have hnew := hR.charge (by omega) (by rw [← hx]; exact hlk) (by rw [← hx]; exact hc0) hc0m
        obtain ⟨nv, hnv⟩ : ∃ nv, nv = R.getD c0 0 ||| 2 ^ i := ⟨_, rfl⟩
        have hnv8 : nv < 256 := by rw [hnv]; exact Nat.or_lt_two_pow (n := 8) hRlt hp
        rw [← hnv] at hnew
        obtain ⟨cc, hcc⟩ : ∃ cc, cc = x.charges.getD k zCh := ⟨_, rfl⟩
        rw [← hcc] at hc0
        obtain ⟨cl, pr, lm, li⟩ := cc
        have hc1 : cl = (c0 : Int) := hc0
        subst hc1
        repeat (with_reducible first | apply ag | apply ac | apply af | apply ae | apply ab)
        refine aj ?_
        refine aa rfl (aX (i := k)  h46 h48 (hch.below hS.below) (by omega) (by first | omega | (simp; done) | (simp; omega)) iK ?_)
        refine aw rfl (a6 (i := k) zCh  rfl f6 (hch.below hS.below) (by first | omega | (simp; done) | (simp; omega)) rfl rfl (.inl rfl) ?_)
        refine ak rfl (aZ  f6 hS ?_)
        intro b11 wz19 hS hBz19
        refine ak rfl (a8 (k := 0)  rfl rfl f6 hS rfl rfl rfl (Nat.le_of_ble_eq_true rfl) rfl ?_)
        intro wz20 hS
        refine ai ?_
        repeat (with_reducible first | apply ag | apply ac | apply af | apply ae | apply ab)
        replace hS : St w _ ([(b11, 62, cS (x.charges.getD k zCh)), (bn, 67, [.slice aP2 (bV (X.take (i + 1))).length cP2, .slice aO (bU owed).length cO, .slice (some ⟨bI, 0, none⟩) m m]), (bI, 85, Kr .u64 R), (b4, 67, [.slice none 0 0, .slice none 0 0, .slice none 0 0])] ++ LO ++ La17) := hS
        rw [← hcc] at hS
        repeat (with_reducible first | apply ag | apply ac | apply af | apply ae | apply ab)
        refine bm [(0, .pure), (1, .read), (2, .pure), (3, .read), (4, .pure), (5, .read), (6, .pure), (7, .pure), (8, .pure), (9, .pure), (10, .free)] (by kernel_rfl) (by kernel_rfl) hS ?_
        intro wz21 hS hBz21
        refine al rfl rfl (aH  h5 iB ?_)
        refine aF rfl rfl (aB (k := 1)  rfl jr hS rfl rfl rfl (.inr rfl) ?_)
        refine al rfl rfl (aH  rfl fo ?_)
        refine aF rfl rfl (aB (k := 0)  rfl dM hS rfl rfl rfl (.inr rfl) ?_)
        refine al rfl rfl (a7 (i := c0)  rfl rfl (by omega) (by first | omega | (simp; done) | (simp; omega)) iR ?_)
        refine aF rfl rfl (ct (k := 2) (i := c0)  rfl jn hS rfl (by omega) (by first | omega | (simp; done) | (simp; omega)) ?_)
        refine al rfl rfl (ah  h8 ?_)
        refine al rfl rfl (ef  rfl rfl (by omega) (ee 1 i ((2 ^ i : Nat) : Int) (by show i ≤ 64; omega) (aQ _ ⟨by rw [Nat.one_mul], Int.natCast_nonneg _, by omega⟩)) ?_)
        refine al rfl rfl (gN  rfl rfl (r := ((nv : Nat) : Int)) (by rw [hnv]; exact dR rfl _ _ (by show _ < 18446744073709551616; omega) (by show _ < 18446744073709551616; omega)) ?_)
        refine al rfl rfl (a7 (i := c0)  rfl rfl (by omega) (by first | omega | (simp; done) | (simp; omega)) iR ?_)
        refine bJ rfl rfl (cW (k := 2) (i := c0) (a := nv)  rfl rfl (by omega) jn hS rfl (by omega) (by first | omega | (simp; done) | (simp; omega)) ?_)
        intro wz22 hS
        refine bC ?_
        repeat (with_reducible first | apply ag | apply ac | apply af | apply ae | apply ab)
        refine aj ?_
        refine aa rfl (aK  h48 rfl (IntWalk.i64_in _ (by omega)) ?_)
        refine aa rfl (ah  rfl ?_)
        refine ai ?_
        repeat (with_reducible first | apply ag | apply ac | apply af | apply ae | apply ab)
        exact ⟨k + 1, _, rfl, ⟨hlk, h4, h5, h31, h32, h33, h8, h46, h47, vi rfl (by omega), ⟨_, hnew, hS.drop (List.sublist_cons_self _ _)⟩⟩, by omega⟩
      · refine aN rfl (decide_eq_false (by omega)) ?_
        repeat (with_reducible first | apply ag | apply ac | apply af | apply ae | apply ab)
        refine aU ?_
        repeat (with_reducible first | apply aA | apply az | refine ay rfl ?_)
        repeat (with_reducible first | apply ag | apply ac | apply af | apply ae | apply ab)
        obtain rfl : k = x.charges.length := by omega
        exact ⟨_, rfl, h4, h5, h31, h32, h33, ⟨_, hR, hS⟩⟩
    clear hS
    rintro ρ w5 ⟨h4, h5, h31, h32, h33, R, hR, hS⟩
    repeat (with_reducible first | apply ag | apply ac | apply af | apply ae | apply ab)
    refine aj ?_
    refine aa rfl (aK  h33 rfl (IntWalk.i64_in _ (by omega)) ?_)
    refine aa rfl (ah  rfl ?_)
    refine ai ?_
    repeat (with_reducible first | apply ag | apply ac | apply af | apply ae | apply ab)
    rw [hx] at hR
    exact ⟨i + 1, _, rfl, ⟨hlt, h4, h5, h31, h32, vi rfl (by omega), ⟨_, _, R, hG, hR.next, hS⟩⟩, by omega⟩
  · refine aN rfl (decide_eq_false (by omega)) ?_
    repeat (with_reducible first | apply ag | apply ac | apply af | apply ae | apply ab)
    refine aU ?_
    repeat (with_reducible first | apply aA | apply az | refine ay rfl ?_)
    repeat (with_reducible first | apply ag | apply ac | apply af | apply ae | apply ab)
    obtain rfl : i = X.length := by omega
    rw [List.take_length] at hG hS
    repeat (with_reducible first | apply ag | apply ac | apply af | apply ae | apply ab)
    refine aj ?_
    refine aw rfl (aB (k := 0)  h5 eK hS rfl rfl rfl (.inl rfl) ?_)
    refine ak rfl (a8 (k := 2)  h4 rfl eK hS rfl rfl rfl (Nat.le_of_ble_eq_true rfl) rfl ?_)
    intro wz23 hS
    refine ai ?_
    repeat (with_reducible first | apply ag | apply ac | apply af | apply ae | apply ab)
    refine aE ?_
    repeat (with_reducible first | apply ap | apply ao)
    refine bN (k := 2) rfl h4 eK hS rfl rfl ?_
    subst hm
    rw [hsO] at hGO
    refine ⟨_, _, _, _, bI, R, rfl, hG, hGO, hR, ?_⟩
    exact hS.drop (H' := [(bI, 85, Kr .u64 R)] ++ LO ++ LP) (.cons _ (.cons_cons _ (.cons _ (List.Sublist.refl _))))
end Go.Proofs.YtmghobajmhdbfaaGreatDoor
namespace Go.Sx
open Go Go.RowKit Go.Proofs.YtmghobajmhdbfaaGreatDoor
def tab {α : Type} (n : Nat) (f : Nat → α) : List α := (List.range n).map f
theorem bp {α : Type} (n : Nat) (f : Nat → α) : (tab n f).length = n := by simp [tab]
theorem cE {α : Type} {n : Nat} (f : Nat → α) (d : α) {i : Nat} (h : i < n) : (tab n f).getD i d = f i := by
  simp [tab, List.getD_eq_getElem?_getD, h]
theorem bs {α : Type} {n : Nat} {f g : Nat → α} (h : ∀ i, i < n → f i = g i) : tab n f = tab n g := by
  unfold tab; exact List.map_congr_left fun i hi => h i (List.mem_range.1 hi)
theorem fN {α : Type} (n : Nat) (d : α) : List.replicate n d = tab n fun _ => d := by
  refine List.ext_getElem (by simp [tab]) fun i h1 h2 => ?_
  simp [tab]
theorem eU {α : Type} {n : Nat} (f : Nat → α) (i : Nat) (v : α) : (tab n f).set i v = tab n fun j => if j = i then v else f j := by
  refine List.ext_getElem (by simp [tab]) fun j h1 h2 => ?_
  rw [List.getElem_set]
  simp only [tab, List.getElem_map, List.getElem_range]
  by_cases h : i = j
  · subst h; simp
  · rw [if_neg h, if_neg (fun e => h e.symm)]
theorem tab_of {α : Type} (l : List α) (d : α) : l = tab l.length fun i => l.getD i d := by
  refine List.ext_getElem (by simp [tab]) fun i h1 h2 => ?_
  simp [tab, List.getD_eq_getElem?_getD, h1]
theorem tab_succ {α : Type} (n : Nat) (f : Nat → α) : tab (n + 1) f = tab n f ++ [f n] := by
  simp [tab, List.range_succ]
theorem and_i64 (m n : Nat) (hm : m < 2 ^ 63) (hn : n < 2 ^ 63) : dg .and .i64 m n = ((m &&& n : Nat) : Int) := by
  have hlt : m &&& n < 2 ^ 63 := Nat.lt_of_le_of_lt Nat.and_le_left hm
  show IntKind.wrap .i64 (((BitVec.ofInt 64 (m : Int) &&& BitVec.ofInt 64 (n : Int)).toNat : Nat) : Int) = _
  rw [BitVec.ofInt_natCast, BitVec.ofInt_natCast, BitVec.toNat_and, BitVec.toNat_ofNat, BitVec.toNat_ofNat, Nat.mod_eq_of_lt (by omega), Nat.mod_eq_of_lt (by omega)]
  exact eG _ ⟨rfl, by omega, by omega⟩
/-- The bits of m that n has not. -/
def i8 (m n : Nat) : Nat := (BitVec.ofNat 64 m &&& ~~~ BitVec.ofNat 64 n).toNat
theorem andn_bit (m n i : Nat) (hi : i < 64) : (i8 m n).testBit i = (m.testBit i && !n.testBit i) := by
  unfold i8
  rw [BitVec.testBit_toNat, BitVec.getLsbD_and, BitVec.getLsbD_not, BitVec.getLsbD_ofNat, BitVec.getLsbD_ofNat]
  simp [hi]
theorem andn_lt (m n : Nat) : i8 m n < 2 ^ 64 := (BitVec.ofNat 64 m &&& ~~~ BitVec.ofNat 64 n).isLt
theorem andn_nat (m n : Nat) : dg .andNot .u64 m n = ((i8 m n : Nat) : Int) := by
  show IntKind.wrap .u64 (((BitVec.ofInt 64 (m : Int) &&& ~~~ BitVec.ofInt 64 (n : Int)).toNat : Nat) : Int) = _
  rw [BitVec.ofInt_natCast, BitVec.ofInt_natCast]
  have h := andn_lt m n
  unfold i8 at h ⊢
  exact aQ _ ⟨rfl, by omega, by omega⟩
theorem andn_ne {m n : Nat} : i8 m n ≠ 0 ↔ ∃ i, i < 64 ∧ m.testBit i = true ∧ n.testBit i = false := by
  constructor
  · intro h
    refine Classical.byContradiction fun hn => h (Nat.eq_of_testBit_eq fun i => ?_)
    rw [Nat.zero_testBit]
    by_cases hi : i < 64
    · rw [andn_bit m n i hi]
      cases h1 : m.testBit i with
      | false => rfl
      | true =>
        cases h2 : n.testBit i with
        | true => rfl
        | false => exact absurd ⟨i, hi, h1, h2⟩ hn
    · exact Nat.testBit_lt_two_pow (Nat.lt_of_lt_of_le (andn_lt m n) (Nat.pow_le_pow_right (by decide) (by omega)))
  · rintro ⟨i, hi, h1, h2⟩ h0
    have := andn_bit m n i hi
    rw [h0, h1, h2] at this
    simp at this
end Go.Sx
namespace Go.Proofs.YtmghobajmhdbfaaGreatDoor
open Go Go.RowKit Go.Sx
/-- What the cut's items pay. -/
def dy (X : List It) (cut : Nat) : Rat := sumIf X.length (fun i => cut.testBit i) (prF X)
def gW (X : List It) (J : Nat) (j : Nat) : RR := if j < J then ofQ (dy X j) else zRR
theorem payF_zero (X : List It) : dy X 0 = 0 := by
  unfold dy
  rw [c3 (q := fun _ => false) (g := prF X) (fun i _ => ⟨Nat.zero_testBit i, rfl⟩), sumIf_none]
theorem L_payF {X : List It} {K : Nat} (hX : ItB K X) (hx8 : X.length ≤ 8) (cut : Nat) : L (dy X cut) ≤ 16 * K + 17 := by
  have h1 := im X.length (fun i => cut.testBit i) (prF X) (2 * K + 1) (fun i hi => ij hX hi)
  have h4 : X.length * (2 * K + 1 + 1) ≤ 8 * (2 * K + 1 + 1) := Nat.mul_le_mul_right _ hx8
  unfold dy
  omega
theorem fD (X : List It) : (bV X).length = X.length := by simp [bV]
theorem gu (X : List It) {i : Nat} (h : i < X.length) : (bV X).getD i zRR = ofQ (prF X i) := by
  unfold bV prF
  simp [List.getD_eq_getElem?_getD, h]
theorem ia (l : List RR) : (bU l).length = l.length := by simp [bU]
theorem owed_get (l : List RR) {c : Nat} (h : c < l.length) : (bU l).getD c zRR = ofQ (owF l c) := by
  unfold bU owF
  simp [List.getD_eq_getElem?_getD, h, fx]
set_option maxHeartbeats 1000000 in
theorem cuts_ok (sP sO sM : Value) (X : List It) (K : Nat) (w : World) (hP : Sl aC 3 w sP (bV X)) (hXB : ItB K X) (hK : 18 * K + 18 ≤ MX) (hX8 : X.length ≤ 8)
    (hT : At w ⟨2, 0, none⟩ (Kr .u8 tzTab)) :
    Ret Tryz.prog 41 #[.agg #[sP, sO, sM]] w fun v w' => ∃ b, v = .slice (some ⟨b, 0, none⟩) (2 ^ X.length) (2 ^ X.length) ∧ St w w' [(b, 36, (tab (2 ^ X.length) fun j => ofQ (dy X j)).flatMap aC)] := by
  have hM : MX = 1099511627776 := rfl
  have hpl := fD X
  obtain ⟨n, hn⟩ : ∃ n, n = 2 ^ X.length := ⟨_, rfl⟩
  have hn1 : 1 ≤ n := by rw [hn]; exact Nat.one_le_two_pow
  have hn256 : n ≤ 256 := by rw [hn]; exact Nat.pow_le_pow_right (n := 2) (by decide) hX8
  have hzero : (List.replicate n zRR) = tab n (gW X 1) := by
    rw [fN]
    refine bs fun i _ => ?_
    unfold gW
    split
    · obtain rfl : i = 0 := by omega
      rw [payF_zero, cI]; rfl
    · rfl
  have hS := St.init w
  refine enter Tryz.func41 rfl Tryz.ntmps41 rfl ?_
  repeat (with_reducible first | apply ag | apply ac | apply af | apply ae | apply ab)
  refine aj ?_
  refine ak rfl (bX (new := [sP, sO, sM])  rfl rfl hS ?_)
  intro b1 wz1 hS hBz1
  refine aa rfl (am  rfl ?_)
  refine ai ?_
  repeat (with_reducible first | apply ag | apply ac | apply af | apply ae | apply ab)
  refine aj ?_
  refine aa rfl (aH  rfl eT ?_)
  refine aw rfl (aB (k := 0)  rfl cX hS rfl rfl rfl (.inr rfl) ?_)
  refine aa rfl (aG  rfl (hP.below hS.below) ⟨_, Tryz.underlying24⟩ ?_)
  refine aa rfl (ef  rfl rfl (by omega) (ee 1 (bV X).length ((n : Nat) : Int) (by show _ ≤ 64; omega) (eG _ ⟨by rw [Nat.one_mul, hpl, hn], by omega, by omega⟩)) ?_)
  refine ak rfl (eu (enc := aC) (n := n) zRR  rfl rfl bH rfl (by omega) (by omega) (by omega) (by omega) hS ?_)
  intro bc wz2 hS hBz2
  refine aa rfl (am  rfl ?_)
  refine ai ?_
  repeat (with_reducible first | apply ag | apply ac | apply af | apply ae | apply ab)
  refine aj ?_
  refine aa rfl (am  rfl ?_)
  refine ai ?_
  repeat (with_reducible first | apply ag | apply ac | apply af | apply ae | apply ab)
  rw [hzero] at hS
  refine a5 (σ := Nat) (fun j ρ w' => 1 ≤ j ∧ j ≤ n ∧ ρ 1 = .pointer (some ⟨b1, 0, none⟩) ∧ ρ 3 = .slice (some ⟨bc, 0, none⟩) n n ∧ ρ 4 = .int .i64 j ∧
      St w w' [(bc, 36, (tab n (gW X j)).flatMap aC), (b1, 67, [sP, sO, sM])]) (fun j => n - j) 1
    ⟨Nat.le_refl _, hn1, rfl, rfl, rfl, hS⟩ ?_
  clear hS
  rintro j ρ w2 ⟨hj1, hj, h1, h3, h4, hS⟩
  have htl := bp n (gW X j)
  repeat (with_reducible first | apply ag | apply ac | apply af | apply ae | apply ab)
  refine aj ?_
  refine aa rfl (ah  h4 ?_)
  refine aa rfl (ah  h3 ?_)
  refine aa rfl (dC  rfl ⟨_, Tryz.underlying24⟩ ?_)
  refine aa rfl (aV  rfl rfl ?_)
  refine ai ?_
  repeat (with_reducible first | apply ag | apply ac | apply af | apply ae | apply ab)
  by_cases hlt : j < n
  · refine aD rfl (decide_eq_true (by omega)) ?_
    repeat (with_reducible first | apply ag | apply ac | apply af | apply ae | apply ab)
    have hj2 : j < 2 ^ X.length := by rw [← hn]; exact hlt
    obtain ⟨hl1, hl2, hl3, hl4⟩ := low_spec (show j ≠ 0 by omega) hX8 hj2
    have hcut := cut_step (prF X) (show j ≠ 0 by omega) hX8 hj2
    have hval : toQ ((tab n (gW X j)).getD (j &&& (j - 1)) zRR) + toQ ((bV X).getD (low j) zRR) = dy X j := by
      rw [cE _ _ (by omega), gu X hl1, toQ_ofQ]
      unfold gW
      rw [if_pos hl3, toQ_ofQ]
      unfold dy
      rw [← hcut]
    have hLp := L_payF hXB hX8 (j &&& (j - 1))
    have hLq := ij hXB hl1
    have hL1 : Lr ((tab n (gW X j)).getD (j &&& (j - 1)) zRR) ≤ 16 * K + 17 := by
      rw [cE _ _ (by omega)]
      unfold gW
      rw [if_pos hl3, Lr_ofQ]; exact hLp
    have hL2 : Lr ((bV X).getD (low j) zRR) ≤ 2 * K + 1 := by rw [gu X hl1, Lr_ofQ]; exact hLq
    repeat (with_reducible first | apply ag | apply ac | apply af | apply ae | apply ab)
    refine bm [(0, .pure), (1, .pure), (2, .pure), (3, .pure), (4, .pure), (5, .pure), (6, .pure), (7, .pure), (8, .read), (9, .pure), (10, .read), (11, .pure), (12, .pure), (13, .grow), (14, .pure), (15, .read), (16, .grow), (17, .pure), (18, .free)] (by kernel_rfl) (by kernel_rfl) hS ?_
    intro wz3 hS hBz3
    refine al rfl rfl (ah  h3 ?_)
    refine al rfl rfl (ah  h4 ?_)
    refine al rfl rfl (ah  h3 ?_)
    refine al rfl rfl (ah  h4 ?_)
    refine al rfl rfl (ah  h4 ?_)
    refine al rfl rfl (bG  rfl rfl (r := ((j - 1 : Nat) : Int)) (by exact eG _ ⟨by omega, by omega, by omega⟩) ?_)
    refine al rfl rfl (gz  rfl rfl (r := ((j &&& (j - 1) : Nat) : Int)) (by exact and_i64 _ _ (by omega) (by omega)) ?_)
    refine al rfl rfl (a7 (i := (j &&& (j - 1)))  rfl rfl (by omega) (by first | omega | (simp; done) | (simp; omega)) bH ?_)
    refine aF rfl rfl (gm (k := 0) (i := (j &&& (j - 1))) (enc := aC) zRR (fun _ => rfl)  rfl ax hS rfl (by first | omega | simp) (by first | omega | (simp; done) | (simp; omega)) rfl (.inl rfl) ?_)
    refine al rfl rfl (aH  h1 eT ?_)
    refine aF rfl rfl (aB (k := 1)  rfl cX hS rfl rfl rfl (.inr rfl) ?_)
    refine al rfl rfl (ah  h4 ?_)
    refine al rfl rfl (aL  rfl Tryz.underlying85 ⟨_, Tryz.underlying3⟩ (IntWalk.u64_in _ (by omega)) ?_)
    refine aS rfl rfl (av Tryz.call69 rfl (TrailingZeros_ok j _ (by omega) (by omega) (hT.below hS.below)) ?_)
    rintro r w3 ⟨rfl, rfl⟩
    refine ⟨(Below.refl _ _), ?_⟩
    refine al rfl rfl (aX (i := low j)  rfl rfl (hP.below hS.below) (by omega) (by first | omega | (simp; done) | (simp; omega)) bH ?_)
    refine aF rfl rfl (a6 (i := low j) zRR  rfl ax (hP.below hS.below) (by first | omega | (simp; done) | (simp; omega)) rfl rfl (.inl rfl) ?_)
    refine aS rfl rfl (av Tryz.call14 rfl (iu ((tab n (gW X j)).getD (j &&& (j - 1)) zRR) ((bV X).getD (low j) zRR) _ (by omega)) ?_)
    rintro r w3 ⟨rfl, hB3⟩
    refine ⟨hB3, ?_⟩
    rw [hval]
    replace hS := hS.grow hB3
    refine al rfl rfl (a7 (i := j)  rfl rfl (by omega) (by first | omega | (simp; done) | (simp; omega)) bH ?_)
    refine bJ rfl rfl (fC (k := 0) (i := j) (enc := aC) (ofQ (dy X j)) (fun _ => rfl)  rfl rfl ax hS rfl (by first | omega | simp) (by first | omega | (simp; done) | (simp; omega)) rfl rfl ?_)
    intro wz4 hS
    refine bC ?_
    repeat (with_reducible first | apply ag | apply ac | apply af | apply ae | apply ab)
    refine aj ?_
    refine aa rfl (ah  h4 ?_)
    refine aa rfl (aK  rfl rfl (IntWalk.i64_in _ (by omega)) ?_)
    refine aa rfl (am  rfl ?_)
    refine ai ?_
    repeat (with_reducible first | apply ag | apply ac | apply af | apply ae | apply ab)
    refine ⟨j + 1, _, rfl, ⟨by omega, by omega, h1, h3, vi rfl (by omega), hS.cast ?_⟩, by omega⟩
    show [_, _] = _
    rw [eU, bs (f := fun i => if i = j then ofQ (dy X j) else gW X j i) (g := gW X (j + 1)) fun i hi => ?_]
    unfold gW
    by_cases e : i = j
    · subst e; rw [if_pos rfl, if_pos (by omega)]
    · rw [if_neg e]
      by_cases e2 : i < j
      · rw [if_pos e2, if_pos (by omega)]
      · rw [if_neg e2, if_neg (by omega)]
  · refine aN rfl (decide_eq_false (by omega)) ?_
    repeat (with_reducible first | apply ag | apply ac | apply af | apply ae | apply ab)
    refine aU ?_
    repeat (with_reducible first | apply aA | apply az | refine ay rfl ?_)
    repeat (with_reducible first | apply ag | apply ac | apply af | apply ae | apply ab)
    obtain rfl : j = n := by omega
    repeat (with_reducible first | apply ag | apply ac | apply af | apply ae | apply ab)
    refine aj ?_
    refine aa rfl (ah  h3 ?_)
    refine aa rfl (am  rfl ?_)
    refine ai ?_
    repeat (with_reducible first | apply ag | apply ac | apply af | apply ae | apply ab)
    refine aE ?_
    repeat (with_reducible first | apply ap | apply ao)
    refine aR rfl rfl ?_
    subst hn
    refine ⟨bc, rfl, ?_⟩
    refine (hS.drop (H' := [_]) (List.sublist_append_left [_] _)).cast ?_
    rw [bs (f := gW X (2 ^ X.length)) (g := fun j => ofQ (dy X j)) fun i hi => by unfold gW; rw [if_pos hi]]
end Go.Proofs.YtmghobajmhdbfaaGreatDoor
namespace Go.Proofs.YtmghobajmhdbfaaGreatDoor
open Go Go.RowKit Go.Sx
theorem outs_andn {X : List It} {m c : Nat} {R : List Nat} (hR : Masks X m X.length 0 R) (hX8 : X.length ≤ 8) (hc : c < m) (j : Nat) : i8 (R.getD c 0) j ≠ 0 ↔ cG X j c = true := by
  have hlt := hR.lt c hc
  have hbit := hR.bit c hc
  rw [andn_ne, cG, List.any_eq_true]
  constructor
  · rintro ⟨i, _, h1, h2⟩
    rw [hbit] at h1
    simp only [List.take_zero, List.any_nil, Bool.and_false, Bool.or_false, Bool.and_eq_true, decide_eq_true_eq] at h1
    exact ⟨i, List.mem_range.2 h1.1, by rw [h1.2, h2]; rfl⟩
  · rintro ⟨i, hi, h⟩
    have hi := List.mem_range.1 hi
    simp only [Bool.and_eq_true, Bool.not_eq_true'] at h
    refine ⟨i, by omega, ?_, h.1⟩
    rw [hbit, decide_eq_true hi, h.2]; rfl
def dlt (X : List It) (owed : List RR) (c j : Nat) : Rat := if cG X j c = true then owF owed c else 0
def f8 (q : Nat → Rat) (d : Nat → Rat) (J j : Nat) : RR := ofQ (if j < J then q j + d j else q j)
theorem rowT_set {q d : Nat → Rat} {n j : Nat} (hj : j < n) : (tab n (f8 q d j)).set j (ofQ (q j + d j)) = tab n (f8 q d (j + 1)) := by
  rw [eU]
  refine bs fun i hi => ?_
  unfold f8
  by_cases e : i = j
  · subst e; rw [if_pos rfl, if_pos (by omega)]
  · rw [if_neg e]
    by_cases e2 : i < j
    · rw [if_pos e2, if_pos (by omega)]
    · rw [if_neg e2, if_neg (by omega)]
set_option maxHeartbeats 1000000 in
theorem nadd_ok (sP sO sM : Value) (b N c K KL : Nat) (q : Nat → Rat) (X : List It) (owed : List RR) (R : List Nat) (w0 w : World) (H : List Blk) (hS : St w0 w ((b, 36, (tab N fun j => ofQ (q j)).flatMap aC) :: H))
    (hO : ∀ w' C, St w0 w' ((b, 36, C) :: H) → Sl aC 3 w' sO (bU owed)) (hMr : ∀ w' C, St w0 w' ((b, 36, C) :: H) → Sl (uk .u64) 1 w' sM R)
    (hN : N ≤ 256) (hX8 : X.length ≤ 8) (hc : c < owed.length) (hR : Masks X owed.length X.length 0 R) (hq : ∀ j, j < N → L (q j) ≤ K) (hoB : RB KL owed) (hK : K + KL ≤ MX) :
    Ret Tryz.prog 42 #[.agg #[sP, sO, sM], .slice (some ⟨b, 0, none⟩) N N, .int .i64 c] w fun v w' => v = .tuple #[] ∧ St w0 w' ((b, 36, (tab N fun j => ofQ (q j + dlt X owed c j)).flatMap aC) :: H) := by
  have hM : MX = 1099511627776 := rfl
  have hRl := hR.len
  have hcR : c < R.length := by omega
  have hol := ia owed
  have hmx := (hO _ _ hS).maxLen
  have hRlt := hR.lt c hc
  have h00 : (tab N fun j => ofQ (q j)) = tab N (f8 q (dlt X owed c) 0) := bs fun i _ => by unfold f8; rw [if_neg (Nat.not_lt_zero _)]
  rw [h00] at hS
  refine enter Tryz.func42 rfl Tryz.ntmps42 rfl ?_
  repeat (with_reducible first | apply ag | apply ac | apply af | apply ae | apply ab)
  refine aj ?_
  refine ak rfl (bX (new := [sP, sO, sM])  rfl rfl hS ?_)
  intro b3 wz1 hS hBz1
  refine ai ?_
  repeat (with_reducible first | apply ag | apply ac | apply af | apply ae | apply ab)
  refine aj ?_
  refine aa rfl (ah  rfl ?_)
  refine aa rfl (dC  rfl ⟨_, Tryz.underlying24⟩ ?_)
  refine aa rfl (ah  rfl ?_)
  refine ai ?_
  repeat (with_reducible first | apply ag | apply ac | apply af | apply ae | apply ab)
  refine a5 (σ := Nat) (fun j ρ w' => j ≤ N ∧ ρ 1 = .slice (some ⟨b, 0, none⟩) N N ∧ ρ 2 = .int .i64 c ∧ ρ 3 = .pointer (some ⟨b3, 0, none⟩) ∧ ρ 8 = .int .i64 N ∧ ρ 9 = .int .i64 j ∧
      St w0 w' ((b3, 67, [sP, sO, sM]) :: (b, 36, (tab N (f8 q (dlt X owed c) j)).flatMap aC) :: H)) (fun j => N - j) 0
    ⟨Nat.zero_le _, rfl, rfl, rfl, rfl, rfl, hS⟩ ?_
  clear hS
  rintro j ρ w2 ⟨hj, h1, h2, h3, h8, h9, hS⟩
  have htl := bp N (f8 q (dlt X owed c) j)
  repeat (with_reducible first | apply ag | apply ac | apply af | apply ae | apply ab)
  refine aj ?_
  refine aa rfl (aV  h9 h8 ?_)
  refine ai ?_
  repeat (with_reducible first | apply ag | apply ac | apply af | apply ae | apply ab)
  by_cases hlt : j < N
  · refine aD rfl (decide_eq_true (by omega)) ?_
    repeat (with_reducible first | apply ag | apply ac | apply af | apply ae | apply ab)
    refine aj ?_
    refine aa rfl (ah  h9 ?_)
    refine aa rfl (am  rfl ?_)
    refine ai ?_
    repeat (with_reducible first | apply ag | apply ac | apply af | apply ae | apply ab)
    refine aj ?_
    refine aa rfl (aH  h3 iB ?_)
    refine aw rfl (aB (k := 0)  rfl jr hS rfl rfl rfl (.inr rfl) ?_)
    refine aa rfl (ah  h2 ?_)
    refine aa rfl (aX (i := c)  rfl rfl (hMr _ _ (hS.drop (List.sublist_cons_self _ _))) (by omega) (by first | omega | (simp; done) | (simp; omega)) iR ?_)
    refine aw rfl (a6 (i := c) 0  rfl jn (hMr _ _ (hS.drop (List.sublist_cons_self _ _))) (by first | omega | (simp; done) | (simp; omega)) rfl rfl (.inr rfl) ?_)
    refine aa rfl (ah  rfl ?_)
    refine aa rfl (aL  rfl Tryz.underlying85 ⟨_, Tryz.underlying3⟩ (IntWalk.u64_in _ (by omega)) ?_)
    refine aa rfl (s_andn  rfl rfl (r := ((i8 (R.getD c 0) j : Nat) : Int)) (by exact andn_nat _ _) ?_)
    refine aa rfl (e9  rfl rfl ?_)
    refine ai ?_
    repeat (with_reducible first | apply ag | apply af | apply ae | apply ab)
    refine a9 (fun ρ w' => ρ 1 = .slice (some ⟨b, 0, none⟩) N N ∧ ρ 2 = .int .i64 c ∧ ρ 3 = .pointer (some ⟨b3, 0, none⟩) ∧ ρ 8 = .int .i64 N ∧ ρ 9 = .int .i64 j ∧
      St w0 w' ((b3, 67, [sP, sO, sM]) :: (b, 36, (tab N (f8 q (dlt X owed c) (j + 1))).flatMap aC) :: H)) ?_ ?_
    · have han := outs_andn hR hX8 hc j
      repeat (with_reducible first | apply ag | apply ac | apply af | apply ae | apply ab)
      by_cases ho : cG X j c = true
      · have hne := han.2 ho
        refine aD rfl (decide_eq_true (by omega)) ?_
        repeat (with_reducible first | apply ag | apply ac | apply af | apply ae | apply ab)
        have hval : toQ ((tab N (f8 q (dlt X owed c) j)).getD j zRR) + toQ ((bU owed).getD c zRR) = q j + dlt X owed c j := by
          rw [cE _ _ hlt, owed_get owed hc, toQ_ofQ]
          unfold f8 dlt
          rw [if_neg (Nat.lt_irrefl _), toQ_ofQ, if_pos ho]
        have hL1 : Lr ((tab N (f8 q (dlt X owed c) j)).getD j zRR) ≤ K := by
          rw [cE _ _ hlt]
          unfold f8
          rw [if_neg (Nat.lt_irrefl _), Lr_ofQ]; exact hq j hlt
        have hL2 : Lr ((bU owed).getD c zRR) ≤ KL := by rw [owed_get owed hc, Lr_ofQ]; exact ix hoB hc
        repeat (with_reducible first | apply ag | apply ac | apply af | apply ae | apply ab)
        refine bm [(0, .pure), (1, .pure), (2, .pure), (3, .pure), (4, .pure), (5, .read), (6, .pure), (7, .read), (8, .pure), (9, .pure), (10, .read), (11, .grow), (12, .pure), (13, .free)] (by kernel_rfl) (by kernel_rfl) hS ?_
        intro wz2 hS hBz2
        refine al rfl rfl (ah  h1 ?_)
        refine al rfl rfl (ah  rfl ?_)
        refine al rfl rfl (ah  h1 ?_)
        refine al rfl rfl (ah  rfl ?_)
        refine al rfl rfl (a7 (i := j)  rfl rfl (by omega) (by first | omega | (simp; done) | (simp; omega)) bH ?_)
        refine aF rfl rfl (gm (k := 1) (i := j) (enc := aC) zRR (fun _ => rfl)  rfl ax hS rfl (by first | omega | simp) (by first | omega | (simp; done) | (simp; omega)) rfl (.inl rfl) ?_)
        refine al rfl rfl (aH  h3 fk ?_)
        refine aF rfl rfl (aB (k := 0)  rfl cX hS rfl rfl rfl (.inr rfl) ?_)
        refine al rfl rfl (ah  h2 ?_)
        refine al rfl rfl (aX (i := c)  rfl rfl (hO _ _ (hS.drop (List.sublist_cons_self _ _))) (by omega) (by first | omega | (simp; done) | (simp; omega)) bH ?_)
        refine aF rfl rfl (a6 (i := c) zRR  rfl ax (hO _ _ (hS.drop (List.sublist_cons_self _ _))) (by first | omega | (simp; done) | (simp; omega)) rfl rfl (.inl rfl) ?_)
        refine aS rfl rfl (av Tryz.call14 rfl (iu ((tab N (f8 q (dlt X owed c) j)).getD j zRR) ((bU owed).getD c zRR) _ (by omega)) ?_)
        rintro r w3 ⟨rfl, hB3⟩
        refine ⟨hB3, ?_⟩
        rw [hval]
        replace hS := hS.grow hB3
        refine al rfl rfl (a7 (i := j)  rfl rfl (by omega) (by first | omega | (simp; done) | (simp; omega)) bH ?_)
        refine bJ rfl rfl (fC (k := 1) (i := j) (enc := aC) (ofQ (q j + dlt X owed c j)) (fun _ => rfl)  rfl rfl ax hS rfl (by first | omega | simp) (by first | omega | (simp; done) | (simp; omega)) rfl rfl ?_)
        intro wz3 hS
        refine bC ?_
        repeat (with_reducible first | apply ag | apply ac | apply af | apply ae | apply ab)
        refine ⟨_, rfl, h1, h2, h3, h8, h9, hS.cast ?_⟩
        show _ :: _ :: _ = _
        rw [rowT_set hlt]
      · have hne : i8 (R.getD c 0) j = 0 := Decidable.not_not.1 (fun h => ho (han.1 h))
        refine aN rfl (decide_eq_false (by omega)) ?_
        repeat (with_reducible first | apply ag | apply ac | apply af | apply ae | apply ab)
        refine ⟨_, rfl, h1, h2, h3, h8, h9, hS.cast ?_⟩
        have : tab N (f8 q (dlt X owed c) j) = tab N (f8 q (dlt X owed c) (j + 1)) := bs fun i hi => by
          unfold f8
          by_cases e : i = j
          · subst e; rw [if_neg (Nat.lt_irrefl _), if_pos (Nat.lt_succ_self _)]; unfold dlt; rw [if_neg ho, Rat.add_zero]
          · by_cases e2 : i < j
            · rw [if_pos e2, if_pos (by omega)]
            · rw [if_neg e2, if_neg (by omega)]
        rw [this]
    clear hS
    rintro ρ w3 ⟨h1, h2, h3, h8, h9, hS⟩
    repeat (with_reducible first | apply ag | apply ac | apply af | apply ae | apply ab)
    refine aj ?_
    refine aa rfl (aK  h9 rfl (IntWalk.i64_in _ (by omega)) ?_)
    refine aa rfl (ah  rfl ?_)
    refine ai ?_
    repeat (with_reducible first | apply ag | apply ac | apply af | apply ae | apply ab)
    exact ⟨j + 1, _, rfl, ⟨hlt, h1, h2, h3, h8, vi rfl (by omega), hS⟩, by omega⟩
  · refine aN rfl (decide_eq_false (by omega)) ?_
    repeat (with_reducible first | apply ag | apply ac | apply af | apply ae | apply ab)
    refine aU ?_
    repeat (with_reducible first | apply aA | apply az | refine ay rfl ?_)
    repeat (with_reducible first | apply ag | apply ac | apply af | apply ae | apply ab)
    obtain rfl : j = N := by omega
    refine r_none rfl ⟨rfl, (hS.drop (List.sublist_cons_self _ _)).cast ?_⟩
    rw [bs (f := f8 q (dlt X owed c) j) (g := fun j => ofQ (q j + dlt X owed c j)) fun i hi => by unfold f8; rw [if_pos hi]]
theorem least_ok (v : Value) (q : Nat → Rat) (N K : Nat) (w : World) (hv : Sl aC 3 w v (tab N fun j => ofQ (q j))) (hN : 0 < N) (hq : ∀ j, j < N → L (q j) ≤ K) (hK : 2 * K ≤ MX) :
    Ret Tryz.prog 43 #[v] w fun r w' => r = bE (ofQ (eq q N)) ∧ Below w.heap.size w w' := by
  have hM : MX = 1099511627776 := rfl
  have hmx := hv.maxLen
  have htl := bp N fun j => ofQ (q j)
  have hg : ∀ i, i < N → (tab N fun j => ofQ (q j)).getD i zRR = ofQ (q i) := fun i hi => cE _ _ hi
  rw [htl] at hmx
  have hS := St.init w
  refine enter Tryz.func43 rfl Tryz.ntmps43 rfl ?_
  repeat (with_reducible first | apply ag | apply ac | apply af | apply ae | apply ab)
  refine aj ?_
  refine ak rfl (aZ  ax hS ?_)
  intro b2 wz1 hS hBz1
  refine ai ?_
  repeat (with_reducible first | apply ag | apply ac | apply af | apply ae | apply ab)
  refine aj ?_
  refine aa rfl (ah  rfl ?_)
  refine aa rfl (aX (i := 0)  rfl rfl (hv.below hS.below) (by omega) (by first | omega | (simp; done) | (simp; omega)) bH ?_)
  refine aw rfl (a6 (i := 0) zRR  rfl ax (hv.below hS.below) (by first | omega | (simp; done) | (simp; omega)) rfl rfl (.inl rfl) ?_)
  refine ak rfl (aZ  ax hS ?_)
  intro b3 wz2 hS hBz2
  refine ak rfl (a8 (k := 0)  rfl rfl ax hS rfl rfl rfl (Nat.le_of_ble_eq_true rfl) rfl ?_)
  intro wz3 hS
  refine ai ?_
  repeat (with_reducible first | apply ag | apply ac | apply af | apply ae | apply ab)
  refine aj ?_
  refine aa rfl (ah  rfl ?_)
  refine aa rfl (aG  rfl (hv.below hS.below) ⟨_, Tryz.underlying24⟩ ?_)
  refine aa rfl (ah  rfl ?_)
  refine ai ?_
  repeat (with_reducible first | apply ag | apply ac | apply af | apply ae | apply ab)
  rw [htl]
  have hg0 := hg 0 hN
  replace hS : St w _ [(b3, 36, aC ((tab N fun j => ofQ (q j)).getD 0 zRR)), (b2, 36, aC zRR)] := hS
  rw [hg0] at hS
  refine a5 (σ := Nat) (fun i ρ w' => i ≤ N ∧ ρ 0 = v ∧ ρ 2 = .pointer (some ⟨b2, 0, none⟩) ∧ ρ 3 = .pointer (some ⟨b3, 0, none⟩) ∧ ρ 9 = v ∧ ρ 10 = .int .i64 N ∧ ρ 11 = .int .i64 i ∧
      St w w' [(b3, 36, aC (ofQ (eq q i))), (b2, 36, aC zRR)]) (fun i => N - i) 0
    ⟨Nat.zero_le _, rfl, rfl, rfl, rfl, rfl, rfl, hS⟩ ?_
  clear hS
  rintro i ρ w2 ⟨hi, h0, h2, h3, h9, h10, h11, hS⟩
  repeat (with_reducible first | apply ag | apply ac | apply af | apply ae | apply ab)
  refine aj ?_
  refine aa rfl (aV  h11 h10 ?_)
  refine ai ?_
  repeat (with_reducible first | apply ag | apply ac | apply af | apply ae | apply ab)
  by_cases hlt : i < N
  · refine aD rfl (decide_eq_true (by omega)) ?_
    repeat (with_reducible first | apply ag | apply ac | apply af | apply ae | apply ab)
    have hgi := hg i hlt
    have hLi := hq i hlt
    have hLm : L (eq q i) ≤ K := L_mins q K i (fun k hk => hq k (by omega))
    repeat (with_reducible first | apply ag | apply ac | apply af | apply ae | apply ab)
    refine aj ?_
    refine aa rfl (aX (i := i)  h9 h11 (hv.below hS.below) (by omega) (by first | omega | (simp; done) | (simp; omega)) bH ?_)
    refine aw rfl (a6 (i := i) zRR  rfl ax (hv.below hS.below) (by first | omega | (simp; done) | (simp; omega)) rfl rfl (.inl rfl) ?_)
    refine ak rfl (aZ  ax hS ?_)
    intro b5 wz4 hS hBz4
    refine ak rfl (a8 (k := 0)  rfl rfl ax hS rfl rfl rfl (Nat.le_of_ble_eq_true rfl) rfl ?_)
    intro wz5 hS
    refine ai ?_
    repeat (with_reducible first | apply ag | apply ac | apply af | apply ae | apply ab)
    replace hS : St w _ [(b5, 36, aC ((tab N fun j => ofQ (q j)).getD i zRR)), (b3, 36, aC (ofQ (eq q i))), (b2, 36, aC zRR)] := hS
    rw [hgi] at hS
    repeat (with_reducible first | apply ag | apply ac | apply af | apply ae | apply ab)
    refine aj ?_
    refine aw rfl (aB (k := 1)  h3 ax hS rfl rfl rfl (.inl rfl) ?_)
    refine aw rfl (aB (k := 0)  rfl ax hS rfl rfl rfl (.inl rfl) ?_)
    refine ak rfl (av Tryz.call47 rfl (fX (ofQ (eq q i)) (ofQ (q i)) _ (by rw [Lr_ofQ, Lr_ofQ]; omega)) ?_)
    rintro r w3 ⟨rfl, hB3⟩
    rw [toQ_ofQ, toQ_ofQ]
    replace hS := hS.grow hB3
    refine ak rfl (a8 (k := 1)  h3 rfl ax hS rfl rfl rfl (Nat.le_of_ble_eq_true rfl) rfl ?_)
    intro wz6 hS
    refine ai ?_
    repeat (with_reducible first | apply ag | apply ac | apply af | apply ae | apply ab)
    refine aj ?_
    refine aa rfl (aK  h11 rfl (IntWalk.i64_in _ (by omega)) ?_)
    refine aa rfl (ah  rfl ?_)
    refine ai ?_
    repeat (with_reducible first | apply ag | apply ac | apply af | apply ae | apply ab)
    exact ⟨i + 1, _, rfl, ⟨hlt, h0, h2, h3, h9, h10, vi rfl (by omega), hS.drop (List.sublist_cons_self _ _)⟩, by omega⟩
  · refine aN rfl (decide_eq_false (by omega)) ?_
    repeat (with_reducible first | apply ag | apply ac | apply af | apply ae | apply ab)
    refine aU ?_
    repeat (with_reducible first | apply aA | apply az | refine ay rfl ?_)
    repeat (with_reducible first | apply ag | apply ac | apply af | apply ae | apply ab)
    obtain rfl : i = N := by omega
    repeat (with_reducible first | apply ag | apply ac | apply af | apply ae | apply ab)
    refine aj ?_
    refine aw rfl (aB (k := 0)  h3 ax hS rfl rfl rfl (.inl rfl) ?_)
    refine ak rfl (a8 (k := 1)  h2 rfl ax hS rfl rfl rfl (Nat.le_of_ble_eq_true rfl) rfl ?_)
    intro wz7 hS
    refine ai ?_
    repeat (with_reducible first | apply ag | apply ac | apply af | apply ae | apply ab)
    refine aE ?_
    repeat (with_reducible first | apply ap | apply ao)
    refine bN (k := 1) rfl h2 ax hS rfl rfl ?_
    exact ⟨rfl, hS.below⟩
end Go.Proofs.YtmghobajmhdbfaaGreatDoor
namespace Go.Proofs.YtmghobajmhdbfaaGreatDoor
open Go Go.RowKit Go.Sx
theorem dP (X : List It) (owed : List RR) (set : Nat → Bool) (j : Nat) : cJ X owed set j = dy X j + sumIf owed.length (fun c => set c && cG X j c) (owF owed) := rfl
theorem gw (X : List It) (owed : List RR) (j : Nat) : cJ X owed (fun _ => false) j = dy X j := by
  rw [dP, c3 (q := fun _ => false) (g := owF owed) (fun i _ => ⟨Bool.false_and _, rfl⟩), sumIf_none, Rat.add_zero]
theorem fc (X : List It) (owed : List RR) {s t : Nat → Bool} (h : ∀ c, c < owed.length → s c = t c) (j : Nat) : cJ X owed s j = cJ X owed t j := by
  rw [dP, dP, c3 (q := fun c => t c && cG X j c) (g := owF owed) (fun i hi => ⟨by rw [h i hi], rfl⟩)]
theorem capF_step (X : List It) (owed : List RR) {s t : Nat → Bool} {c : Nat} (hc : c < owed.length) (hs : s c = false) (ht : t c = true) (h : ∀ i, i < owed.length → i ≠ c → s i = t i) (j : Nat) : cJ X owed s j + dlt X owed c j = cJ X owed t j := by
  rw [dP, dP]
  unfold dlt
  by_cases ho : cG X j c = true
  · rw [if_pos ho, sumIf_add (p := fun c => s c && cG X j c) (q := fun c => t c && cG X j c) hc (by simp [hs]) (by simp [ht, ho]) (fun i hi hne => by simp [h i hi hne])]
    grind
  · rw [if_neg ho, Rat.add_zero]
    refine congrArg (dy X j + ·) (c3 fun i hi => ⟨?_, rfl⟩)
    by_cases e : i = c
    · subst e; simp [ho]
    · rw [h i hi e]
def iP (X : List It) (owed : List RR) (J c : Nat) : RR := if c < J then ofQ (bR X owed (c + 1) - bR X owed c) else zRR
theorem preQ_succ (X : List It) (owed : List RR) (c : Nat) : bR X owed (c + 1) = eq (cJ X owed fun i => decide (i < c + 1)) (2 ^ X.length) := by
  unfold bR dL
  rw [if_neg (Nat.succ_ne_zero _)]
set_option maxHeartbeats 1000000 in
theorem totals_ok (sP sO sM : Value) (X : List It) (owed : List RR) (R : List Nat) (K : Nat) (w : World) (hP : Sl aC 3 w sP (bV X)) (hO : Sl aC 3 w sO (bU owed)) (hMr : Sl (uk .u64) 1 w sM R) (hR : Masks X owed.length X.length 0 R)
    (hXB : ItB K X) (hoB : RB K owed) (hK : 80 * K + 90 ≤ MX) (hX8 : X.length ≤ 8) (ho24 : owed.length ≤ 24)
    (hT : At w ⟨2, 0, none⟩ (Kr .u8 tzTab)) :
    Ret Tryz.prog 27 #[.agg #[sP, sO, sM]] w fun v w' => ∃ b, v = .slice (some ⟨b, 0, none⟩) owed.length owed.length ∧ St w w' [(b, 36, (tab owed.length fun c => ofQ (bR X owed (c + 1) - bR X owed c)).flatMap aC)] := by
  have hM : MX = 1099511627776 := rfl
  have hol := ia owed
  obtain ⟨N, hN⟩ : ∃ N, N = 2 ^ X.length := ⟨_, rfl⟩
  have hN256 : N ≤ 256 := by rw [hN]; exact Nat.pow_le_pow_right (n := 2) (by decide) hX8
  have hN1 : 1 ≤ N := by rw [hN]; exact Nat.one_le_two_pow
  obtain ⟨m, hm⟩ : ∃ m, m = owed.length := ⟨_, rfl⟩
  have hzero : (List.replicate m zRR) = tab m (iP X owed 0) := by
    rw [fN]; exact bs fun i _ => by unfold iP; rw [if_neg (Nat.not_lt_zero _)]
  have hS := St.init w
  refine enter Tryz.func27 rfl Tryz.ntmps27 rfl ?_
  repeat (with_reducible first | apply ag | apply ac | apply af | apply ae | apply ab)
  refine aj ?_
  refine ak rfl (bX (new := [sP, sO, sM])  rfl rfl hS ?_)
  intro b1 wz1 hS hBz1
  refine aa rfl (am  rfl ?_)
  refine ai ?_
  repeat (with_reducible first | apply ag | apply ac | apply af | apply ae | apply ab)
  refine aj ?_
  refine aa rfl (aH  rfl fk ?_)
  refine aw rfl (aB (k := 0)  rfl cX hS rfl rfl rfl (.inr rfl) ?_)
  refine aa rfl (aG  rfl (hO.below hS.below) ⟨_, Tryz.underlying24⟩ ?_)
  refine ak rfl (eu (enc := aC) (n := m) zRR  rfl rfl bH rfl (by omega) (by omega) (by omega) (by omega) hS ?_)
  intro bo wz2 hS hBz2
  refine aa rfl (am  rfl ?_)
  refine ai ?_
  repeat (with_reducible first | apply ag | apply ac | apply af | apply ae | apply ab)
  rw [hol, ← hm]
  rw [hzero] at hS
  repeat (with_reducible first | apply ag | apply ac | apply af | apply ae | apply ab)
  refine aj ?_
  refine aw rfl (aB (k := 1)  rfl eK hS rfl rfl rfl (.inl rfl) ?_)
  refine ak rfl (av Tryz.call41 rfl (cuts_ok sP sO sM X K _ (hP.below hS.below) hXB (by omega) hX8 (hT.below hS.below)) ?_)
  rintro r w3 ⟨bc, rfl, hS3⟩
  rw [← hN] at hS3 ⊢
  replace hS := hS.join hS3
  refine aa rfl (am  rfl ?_)
  refine ai ?_
  repeat (with_reducible first | apply ag | apply ac | apply af | apply ae | apply ab)
  refine aj ?_
  refine aa rfl (ce  rfl eJ ?_)
  refine ak rfl (aZ  ax hS ?_)
  intro b5 wz3 hS hBz3
  refine ak rfl (a8 (k := 0)  rfl rfl ax hS rfl rfl rfl (Nat.le_of_ble_eq_true rfl) rfl ?_)
  intro wz4 hS
  refine ai ?_
  repeat (with_reducible first | apply ag | apply ac | apply af | apply ae | apply ab)
  replace hS : St w _ [(b5, 36, aC zRR), (bc, 36, (tab N fun j => ofQ (dy X j)).flatMap aC), (bo, 36, (tab m (iP X owed 0)).flatMap aC), (b1, 67, [sP, sO, sM])] := hS
  replace hS := hS.perm (List.Perm.swap _ _ _)
  have hz : aC zRR = aC (ofQ (bR X owed 0)) := by unfold bR; rw [if_pos rfl, cI]; rfl
  have hc0 : (tab N fun j => ofQ (dy X j)) = tab N fun j => ofQ (cJ X owed (fun i => decide (i < 0)) j) := bs fun j _ => by
    rw [fc X owed (t := fun _ => false) (fun c _ => by simp), gw]
  rw [hz, hc0] at hS
  repeat (with_reducible first | apply ag | apply ac | apply af | apply ae | apply ab)
  refine aj ?_
  refine aa rfl (ah  rfl ?_)
  refine aa rfl (dC  rfl ⟨_, Tryz.underlying24⟩ ?_)
  refine aa rfl (ah  rfl ?_)
  refine ai ?_
  repeat (with_reducible first | apply ag | apply ac | apply af | apply ae | apply ab)
  refine a5 (σ := Nat) (fun c ρ w' => c ≤ m ∧ ρ 1 = .pointer (some ⟨b1, 0, none⟩) ∧ ρ 3 = .slice (some ⟨bo, 0, none⟩) m m ∧ ρ 4 = .slice (some ⟨bc, 0, none⟩) N N ∧ ρ 5 = .pointer (some ⟨b5, 0, none⟩) ∧ ρ 16 = .int .i64 m ∧ ρ 17 = .int .i64 c ∧
      St w w' [(bc, 36, (tab N fun j => ofQ (cJ X owed (fun i => decide (i < c)) j)).flatMap aC), (b5, 36, aC (ofQ (bR X owed c))), (bo, 36, (tab m (iP X owed c)).flatMap aC), (b1, 67, [sP, sO, sM])]) (fun c => m - c) 0
    ⟨Nat.zero_le _, rfl, rfl, rfl, rfl, rfl, rfl, hS⟩ ?_
  clear hS
  rintro c ρ w4 ⟨hc, h1, h3, h4, h5, h16, h17, hS⟩
  have htl := bp m (iP X owed c)
  repeat (with_reducible first | apply ag | apply ac | apply af | apply ae | apply ab)
  refine aj ?_
  refine aa rfl (aV  h17 h16 ?_)
  refine ai ?_
  repeat (with_reducible first | apply ag | apply ac | apply af | apply ae | apply ab)
  by_cases hlt : c < m
  · refine aD rfl (decide_eq_true (by omega)) ?_
    repeat (with_reducible first | apply ag | apply ac | apply af | apply ae | apply ab)
    have hcl : c < owed.length := by omega
    repeat (with_reducible first | apply ag | apply ac | apply af | apply ae | apply ab)
    refine aj ?_
    refine aa rfl (ah  h17 ?_)
    refine aa rfl (am  rfl ?_)
    refine ai ?_
    repeat (with_reducible first | apply ag | apply ac | apply af | apply ae | apply ab)
    refine aj ?_
    refine aw rfl (aB (k := 3)  h1 eK hS rfl rfl rfl (.inl rfl) ?_)
    refine aa rfl (ah  h4 ?_)
    refine aa rfl (ah  rfl ?_)
    refine ak rfl (av Tryz.call42 rfl (nadd_ok sP sO sM bc N c (40 * K + 45) K (cJ X owed (fun i => decide (i < c))) X owed R w _ _ hS (fun _ _ h => hO.below h.below) (fun _ _ h => hMr.below h.below) hN256 hX8 hcl hR (fun j _ => iy hXB hoB hX8 ho24 _ j) hoB (by omega)) ?_)
    rintro r w5 ⟨rfl, hS⟩
    rw [bs (g := fun j => ofQ (cJ X owed (fun i => decide (i < c + 1)) j)) fun j _ => by
      rw [capF_step X owed (t := fun i => decide (i < c + 1)) hcl (by simp) (by simp) (fun i _ hne => decide_eq_decide.2 (by omega))]] at hS
    refine ai ?_
    repeat (with_reducible first | apply ag | apply ac | apply af | apply ae | apply ab)
    refine aj ?_
    refine aa rfl (ah  h4 ?_)
    have hsl : Sl aC 3 _ (.slice (some ⟨bc, 0, none⟩) N N) _ := hS.sle (k := 0) (enc := aC) (n := N) (cap := N) rfl bg (by rw [bp]; exact Nat.le_refl _) (Nat.le_refl _) (by omega)
    rw [List.take_of_length_le (by rw [bp]; exact Nat.le_refl _)] at hsl
    refine ak rfl (av Tryz.call43 rfl (least_ok _ (cJ X owed (fun i => decide (i < c + 1))) N (40 * K + 45) _ hsl (by omega) (fun j _ => iy hXB hoB hX8 ho24 _ j) (by omega)) ?_)
    rintro r w6 ⟨rfl, hB6⟩
    rw [hN, ← preQ_succ, ← hN]
    replace hS := hS.grow hB6
    refine ak rfl (aZ  ax hS ?_)
    intro b7 wz5 hS hBz5
    refine ak rfl (a8 (k := 0)  rfl rfl ax hS rfl rfl rfl (Nat.le_of_ble_eq_true rfl) rfl ?_)
    intro wz6 hS
    refine ai ?_
    repeat (with_reducible first | apply ag | apply ac | apply af | apply ae | apply ab)
    have hL1 := iz hXB hoB hX8 ho24 (c + 1)
    have hL2 := iz hXB hoB hX8 ho24 c
    repeat (with_reducible first | apply ag | apply ac | apply af | apply ae | apply ab)
    refine aj ?_
    refine aa rfl (ah  h3 ?_)
    refine aa rfl (ah  rfl ?_)
    refine aw rfl (aB (k := 0)  rfl ax hS rfl rfl rfl (.inl rfl) ?_)
    refine aw rfl (aB (k := 2)  h5 ax hS rfl rfl rfl (.inl rfl) ?_)
    refine ak rfl (av Tryz.call29 rfl (cK (ofQ (bR X owed (c + 1))) (ofQ (bR X owed c)) _ (by rw [Lr_ofQ, Lr_ofQ]; omega)) ?_)
    rintro r w7 ⟨rfl, hB7⟩
    rw [toQ_ofQ, toQ_ofQ]
    replace hS := hS.grow hB7
    refine aa rfl (a7 (i := c)  rfl rfl (by omega) (by first | omega | (simp; done) | (simp; omega)) bH ?_)
    refine ak rfl (fC (k := 3) (i := c) (enc := aC) (ofQ (bR X owed (c + 1) - bR X owed c)) (fun _ => rfl)  rfl rfl ax hS rfl (by first | omega | simp) (by first | omega | (simp; done) | (simp; omega)) rfl rfl ?_)
    intro wz7 hS
    refine ai ?_
    repeat (with_reducible first | apply ag | apply ac | apply af | apply ae | apply ab)
    refine aj ?_
    refine aw rfl (aB (k := 0)  rfl ax hS rfl rfl rfl (.inl rfl) ?_)
    refine ak rfl (a8 (k := 2)  h5 rfl ax hS rfl rfl rfl (Nat.le_of_ble_eq_true rfl) rfl ?_)
    intro wz8 hS
    refine ai ?_
    repeat (with_reducible first | apply ag | apply ac | apply af | apply ae | apply ab)
    have hset : (tab m (iP X owed c)).set c (ofQ (bR X owed (c + 1) - bR X owed c)) = tab m (iP X owed (c + 1)) := by
      rw [eU]
      refine bs fun i hi => ?_
      unfold iP
      by_cases e : i = c
      · subst e; rw [if_pos rfl, if_pos (by omega)]
      · rw [if_neg e]
        by_cases e2 : i < c
        · rw [if_pos e2, if_pos (by omega)]
        · rw [if_neg e2, if_neg (by omega)]
    replace hS : St w _ [(b7, 36, aC (ofQ (bR X owed (c + 1)))), (bc, 36, (tab N fun j => ofQ (cJ X owed (fun i => decide (i < c + 1)) j)).flatMap aC), (b5, 36, aC (ofQ (bR X owed (c + 1)))), (bo, 36, ((tab m (iP X owed c)).set c (ofQ (bR X owed (c + 1) - bR X owed c))).flatMap aC), (b1, 67, [sP, sO, sM])] := hS
    rw [hset] at hS
    repeat (with_reducible first | apply ag | apply ac | apply af | apply ae | apply ab)
    refine aj ?_
    refine aa rfl (aK  h17 rfl (IntWalk.i64_in _ (by omega)) ?_)
    refine aa rfl (ah  rfl ?_)
    refine ai ?_
    repeat (with_reducible first | apply ag | apply ac | apply af | apply ae | apply ab)
    exact ⟨c + 1, _, rfl, ⟨hlt, h1, h3, h4, h5, h16, vi rfl (by omega), hS.drop (List.sublist_cons_self _ _)⟩, by omega⟩
  · refine aN rfl (decide_eq_false (by omega)) ?_
    repeat (with_reducible first | apply ag | apply ac | apply af | apply ae | apply ab)
    refine aU ?_
    repeat (with_reducible first | apply aA | apply az | refine ay rfl ?_)
    repeat (with_reducible first | apply ag | apply ac | apply af | apply ae | apply ab)
    obtain rfl : c = m := by omega
    repeat (with_reducible first | apply ag | apply ac | apply af | apply ae | apply ab)
    refine aj ?_
    refine aa rfl (ah  h3 ?_)
    refine aa rfl (am  rfl ?_)
    refine ai ?_
    repeat (with_reducible first | apply ag | apply ac | apply af | apply ae | apply ab)
    refine aE ?_
    repeat (with_reducible first | apply ap | apply ao)
    refine aR rfl rfl ?_
    subst hm
    refine ⟨bo, rfl, (hS.drop (H' := [_]) (.cons _ (.cons _ (.cons_cons _ (.cons _ .slnil))))).cast ?_⟩
    rw [bs (f := iP X owed owed.length) (g := fun c => ofQ (bR X owed (c + 1) - bR X owed c)) fun i hi => by unfold iP; rw [if_pos hi]]
end Go.Proofs.YtmghobajmhdbfaaGreatDoor
namespace Go.Sx
open Go Go.RowKit
section
variable {P : Program} {N : Nat} {ρ : Nat → Value} {w w0 : World} {H : List Blk}
  {d : Option Tmp} {ty : TypeId} {pos : String} {aft : Array Edge} {g : Option (Nat × Bool)} {x y : Operand} {t e : TypeId} {v vs : Value} {K2 : Value → World → Prop}
theorem s_stG {α : Type} {enc : α → List Value} {size : Nat} {X : List α} {L : List Blk} {i : Nat} {zz : List Value} {agg : Bool} (u : α) (hu : ∀ x, (enc x).length = size) (hx : ev N ρ x = .pointer (some ((fj vs).add (i * size)))) (hy : ev N ρ y = v) (ht : cw P t = some (size, agg, zz)) (hG : Gl enc e size vs X L) (hS : St w0 w (H ++ L))
    (hi : i < X.length) (hv : v.cells.toList = enc u) (h1 : (enc u).all (·.oneCell') = true)
    (h : ∀ w', (∃ L', Gl enc e size vs (X.set i u) L' ∧ St w0 w' (H ++ L')) → K2 undef w') : Hup1 P N ρ w ⟨d, .store t x y, ty, pos, aft, g⟩ K2 := by
  obtain ⟨hX, ⟨rfl, h0, _⟩ | ⟨b, cap, spare, rfl, rfl, h2, h3, h4⟩⟩ := hG
  · omega
  have hx' : ev N ρ x = .pointer (some ⟨b, i * size, none⟩) := by
    rw [hx]
    show Value.pointer (some ((⟨b, 0, none⟩ : Addr).add (i * size))) = _
    rw [add_lit, Nat.zero_add]
  have hk : (H ++ [(b, e, X.flatMap enc ++ spare)])[H.length]? = some (b, e, X.flatMap enc ++ spare) := by simp
  have hfit : i * size + size ≤ (X.flatMap enc).length := by
    rw [hX]
    have : (i + 1) * size ≤ X.length * size := Nat.mul_le_mul_right _ hi
    rw [Nat.add_mul] at this; omega
  refine a8 hx' hy ht hS hk hv (hu u) (by rw [List.length_append]; omega) h1 (fun w' hS' => ?_)
  have hsp : er (X.flatMap enc ++ spare) (i * size) (enc u) = (X.set i u).flatMap enc ++ spare := by
    rw [← gn hu X u hi]
    unfold er
    rw [List.take_append_of_le_length (by omega), List.drop_append_of_le_length (by rw [hu]; exact hfit)]
    simp only [List.append_assoc]
  rw [hsp] at hS'
  refine h w' ⟨[(b, e, (X.set i u).flatMap enc ++ spare)], ⟨?_, .inr ⟨b, cap, spare, by rw [List.length_set], rfl, by rw [List.length_set]; exact h2, h3, ?_⟩⟩, hS'.cast (by simp)⟩
  · rw [List.length_set, ← hX, ← gn hu X u hi]
    unfold er
    simp only [List.length_append, List.length_take, List.length_drop, hu]
    omega
  · rw [← h4, List.length_append, List.length_append, ← gn hu X u hi]
    unfold er
    simp only [List.length_append, List.length_take, List.length_drop, hu]
    omega
end
end Go.Sx
namespace Go.Proofs.YtmghobajmhdbfaaGreatDoor
open Go Go.RowKit Go.Sx
theorem firstE_zero {α : Type} {f : α → Int} {l : List α} (h : co f l = 0) : ∀ x ∈ l, f x = 0 := by
  induction l with
  | nil => intro x hx; cases hx
  | cons y l ih =>
    intro x hx
    rw [co] at h
    by_cases hy : f y = 0
    · rw [if_pos hy] at h
      rcases List.mem_cons.1 hx with rfl | hx
      · exact hy
      · exact ih h x hx
    · rw [if_neg hy] at h; exact absurd h hy
theorem chErr_zero {m : Nat} {c : Ch} (h : da m c = 0) : 0 ≤ c.claim ∧ c.claim < m := by
  unfold da at h
  by_cases g : c.claim < 0 ∨ (m : Int) ≤ c.claim
  · rw [if_pos g] at h; cases h
  · omega
theorem itErr_zero {m : Nat} {x : It} (h : dh m x = 0) : x.charges.length ≤ 8 ∧ 0 ≤ toQ x.price ∧ 0 ≤ toQ x.costs ∧ ∀ c ∈ x.charges, da m c = 0 := by
  unfold dh at h
  by_cases g : 8 < x.charges.length
  · rw [if_pos g] at h; cases h
  · rw [if_neg g] at h
    by_cases g2 : toQ x.price < 0 ∨ toQ x.costs < 0
    · rw [if_pos g2] at h; cases h
    · rw [if_neg g2] at h
      refine ⟨by omega, ?_, ?_, firstE_zero h⟩
      · exact Rat.not_lt.1 fun q => g2 (.inl q)
      · exact Rat.not_lt.1 fun q => g2 (.inr q)
theorem dm {X : List It} {owed : List RR} (h : bS X owed = 0) : X.length ≤ 8 ∧ owed.length ≤ 24 ∧ gh owed = false ∧ (∀ x ∈ X, dh owed.length x = 0) ∧ ∀ x ∈ X, ∀ c ∈ x.charges, 0 ≤ c.claim ∧ c.claim < owed.length := by
  unfold bS at h
  by_cases g : 8 < X.length ∨ 24 < owed.length
  · rw [if_pos g] at h; cases h
  · rw [if_neg g] at h
    by_cases g2 : gh owed = true
    · rw [if_pos g2] at h; cases h
    · rw [if_neg g2] at h
      have h3 := firstE_zero h
      exact ⟨by omega, by omega, by simpa using g2, h3, fun x hx c hc => chErr_zero ((itErr_zero (h3 x hx)).2.2.2 c hc)⟩
theorem fa {k l : Nat} {X : List It} (h : ItB k X) (hkl : k ≤ l) : ItB l X := fun x hx => by
  obtain ⟨a, b, c⟩ := h x hx
  exact ⟨by omega, by omega, fun y hy => Nat.le_trans (c y hy) hkl⟩
theorem fY {k l : Nat} {X : List RR} (h : RB k X) (hkl : k ≤ l) : RB l X := fun x hx => Nat.le_trans (h x hx) hkl
def jd (X : List It) (owed : List RR) : List RR := if bS X owed = 0 then tab owed.length fun c => ofQ (bR X owed (c + 1) - bR X owed c) else []
def gy (X : List It) (owed : List RR) (claims : List Int) : Int := if bS X owed = 0 then (if claims.any (fun c => decide (c < 0 ∨ (owed.length : Int) ≤ c)) = true then 1 else 0) else bS X owed
def dz (claims : List Int) (c : Nat) : Bool := claims.any fun k => decide (k = (c : Int))
def gH (X : List It) (owed : List RR) (claims : List Int) : RR := if gy X owed claims = 0 then ofQ (dL X owed (dz claims)) else zRR
/-- What of a network stays: its rows, read. -/
structure NetOf (X : List It) (owed : List RR) (w : World) (sP sO sM : Value) (R : List Nat) : Prop where
  P : Sl aC 3 w sP (bV X)
  O : Sl aC 3 w sO (bU owed)
  M : Sl (uk .u64) 1 w sM R
  R : Masks X owed.length X.length 0 R
theorem netOf {X : List It} {owed : List RR} {w0 w : World} {H : List Blk} {sP sO : Value} {LP LO : List Blk} {bI : Nat} {R : List Nat} {tu : TypeId} {tR : TypeId} (hP : Gl aC tR 3 sP (bV X) LP) (hO : Gl aC tR 3 sO (bU owed) LO) (hR : Masks X owed.length X.length 0 R)
    (hm : owed.length ≤ 24) (hS : St w0 w (H ++ ([(bI, tu, Kr .u64 R)] ++ LO ++ LP))) : NetOf X owed w sP sO (.slice (some ⟨bI, 0, none⟩) owed.length owed.length) R := by
  have h1 : St w0 w ([(bI, tu, Kr .u64 R)] ++ LO ++ LP) := hS.drop (List.sublist_append_right _ _)
  refine ⟨hP.sl h1 bg, hO.sl (h1.drop (List.sublist_append_left _ _)) bg, ?_, hR⟩
  have h2 : St w0 w ((bI, tu, Kr .u64 R) :: (LO ++ LP)) := h1
  have h3 := h2.slk (k := 0) rfl (n := owed.length) (cap := owed.length) (by rw [hR.len]; exact Nat.le_refl _) (Nat.le_refl _) (by omega)
  rwa [List.take_of_length_le (by rw [hR.len]; exact Nat.le_refl _)] at h3
theorem Totals_ok (vi_ vo : Value) (X : List It) (cvs : List Value) (owed : List RR) (K : Nat) (w : World) (hX : Its w vi_ X cvs) (ho : Sl aC 3 w vo owed) (hXB : ItB K X) (hoB : RB K owed) (hK : 80 * K + 90 ≤ MX)
    (hT : At w ⟨2, 0, none⟩ (Kr .u8 tzTab)) :
    Ret Tryz.prog 8 #[vi_, vo] w fun v w' => (∃ vt, v = .tuple #[vt, .int .i64 (bS X owed)] ∧ Sl aC 3 w' vt (jd X owed)) ∧ Below w.heap.size w w' := by
  have hM : MX = 1099511627776 := rfl
  have hS := St.init w
  refine enter Tryz.func8 rfl Tryz.ntmps8 rfl ?_
  repeat (with_reducible first | apply ag | apply ac | apply af | apply ae | apply ab)
  refine aj ?_
  refine aa rfl (am  rfl ?_)
  refine aa rfl (am  rfl ?_)
  refine ai ?_
  repeat (with_reducible first | apply ag | apply ac | apply af | apply ae | apply ab)
  refine aj ?_
  refine aa rfl (ah  rfl ?_)
  refine aa rfl (ah  rfl ?_)
  refine ak rfl (av Tryz.call25 rfl (gS vi_ vo X cvs owed _ (hX.below hS.below) (ho.below hS.below) (fa hXB (by omega)) (fY hoB (by omega))) ?_)
  rintro _ wc1 ⟨rfl, hBc1⟩
  replace hS := hS.grow hBc1
  refine aa rfl (am  rfl ?_)
  refine ai ?_
  repeat (with_reducible first | apply ag | apply ac | apply af | apply ae | apply ab)
  obtain ⟨e, he⟩ : ∃ e, e = bS X owed := ⟨_, rfl⟩
  rw [← he]
  repeat (with_reducible first | apply ag | apply ac | apply af | apply ae | apply ab)
  refine aj ?_
  refine aa rfl (ah  rfl ?_)
  refine aa rfl (e9  rfl rfl ?_)
  refine ai ?_
  repeat (with_reducible first | apply ag | apply ac | apply af | apply ae | apply ab)
  by_cases h0 : e = 0
  · refine aN rfl (decide_eq_false (by omega)) ?_
    repeat (with_reducible first | apply ag | apply ac | apply af | apply ae | apply ab)
    obtain ⟨hX8, ho24, hng, hit, hcl⟩ := dm (he.symm.trans h0)
    repeat (with_reducible first | apply ag | apply ac | apply af | apply ae | apply ab)
    refine aj ?_
    refine aa rfl (ah  rfl ?_)
    refine aa rfl (ah  rfl ?_)
    refine ak rfl (av Tryz.call26 rfl (gT vi_ vo X cvs owed K _ (hX.below hS.below) (ho.below hS.below) hXB hoB (by omega) hX8 ho24 hcl) ?_)
    rintro r w3 ⟨sP, sO, LP, LO, bI, R, rfl, hP, hO, hR, hS3⟩
    have hN := netOf (H := []) hP hO hR ho24 hS3
    have hB3 := hS3.below
    replace hS := hS.grow hB3
    refine ak rfl (av Tryz.call27 rfl (totals_ok _ _ _ X owed R K _ hN.P hN.O hN.M hN.R hXB hoB hK hX8 ho24 (hT.below hS.below)) ?_)
    rintro r w4 ⟨b, rfl, hS4⟩
    replace hS := hS.grow hS4.below
    have hsl := hS4.sle (k := 0) (enc := aC) (n := owed.length) (cap := owed.length) rfl bg (by rw [bp]; exact Nat.le_refl _) (Nat.le_refl _) (by omega)
    rw [List.take_of_length_le (by rw [bp]; exact Nat.le_refl _)] at hsl
    refine aa rfl (am  rfl ?_)
    refine aa rfl (am  rfl ?_)
    refine ai ?_
    repeat (with_reducible first | apply ag | apply ac | apply af | apply ae | apply ab)
    refine aE ?_
    repeat (with_reducible first | apply ap | apply ao)
    refine dw rfl rfl rfl ?_
    refine ⟨⟨_, by rw [h0]; rfl, ?_⟩, hS.below⟩
    have ht : jd X owed = tab owed.length fun c => ofQ (bR X owed (c + 1) - bR X owed c) := if_pos (he.symm.trans h0)
    rw [ht]
    exact hsl
  · refine aD rfl (decide_eq_true (by omega)) ?_
    repeat (with_reducible first | apply ag | apply ac | apply af | apply ae | apply ab)
    refine aj ?_
    refine aa rfl (ah  rfl ?_)
    refine aa rfl (am  rfl ?_)
    refine aa rfl (am  rfl ?_)
    refine ai ?_
    repeat (with_reducible first | apply ag | apply ac | apply af | apply ae | apply ab)
    refine aE ?_
    repeat (with_reducible first | apply ap | apply ao)
    refine dw rfl rfl rfl ?_
    refine ⟨⟨_, rfl, ?_⟩, hS.below⟩
    have ht : jd X owed = [] := if_neg fun g => h0 (he.trans g)
    rw [ht]
    exact Sl.nil _ _ _
end Go.Proofs.YtmghobajmhdbfaaGreatDoor
namespace Go.Proofs.YtmghobajmhdbfaaGreatDoor
open Go Go.RowKit Go.Sx
def enI (c : Int) : List Value := [.int .i64 c]
def enB (b : Bool) : List Value := [.bool b]
theorem enB_len : ∀ b, (enB b).length = 1 := fun _ => rfl
theorem build_net (vi_ vo : Value) (X : List It) (cvs : List Value) (owed : List RR) (K : Nat) (w : World) (hX : Its w vi_ X cvs) (ho : Sl aC 3 w vo owed) (hXB : ItB K X) (hoB : RB K owed) (hK : 2 * K + 2 ≤ MX) (hc : bS X owed = 0) :
    Ret Tryz.prog 26 #[vi_, vo] w fun v w' => ∃ sP sO sM R NET, v = .agg #[sP, sO, sM] ∧ St w w' NET ∧ ∀ w0 w' H, St w0 w' (H ++ NET) → NetOf X owed w' sP sO sM R := by
  obtain ⟨hX8, ho24, hng, hit, hcl⟩ := dm hc
  refine (gT vi_ vo X cvs owed K w hX ho hXB hoB hK hX8 ho24 hcl).mono ?_
  rintro v w' ⟨sP, sO, LP, LO, bI, R, rfl, hP, hO, hR, hS3⟩
  exact ⟨_, _, _, R, _, rfl, hS3, fun w0 w' H h => netOf hP hO hR ho24 h⟩
def inT (L : List Int) (k c : Nat) : Bool := dz (L.take k) c
theorem inT_step {L : List Int} {k m c0 : Nat} (hk : k < L.length) (hc : L.getD k 0 = (c0 : Int)) : (tab m (inT L k)).set c0 true = tab m (inT L (k + 1)) := by
  rw [eU]
  refine bs fun i hi => ?_
  unfold inT dz
  rw [cR L k 0 hk, List.any_append, hc]
  by_cases e : i = c0
  · subst e; simp
  · have : ¬ ((c0 : Int) = (i : Int)) := by omega
    simp [e, this]
theorem any_take_step {α : Type} (p : α → Bool) (L : List α) (d : α) {k : Nat} (hk : k < L.length) (h : (L.take k).any p = false) : (p (L.getD k d) = false → (L.take (k + 1)).any p = false) ∧ (p (L.getD k d) = true → L.any p = true) := by
  constructor
  · intro h1
    rw [cR L k d hk, List.any_append, h]
    simpa using h1
  · intro h1
    rw [List.any_eq_true]
    exact ⟨_, cb L k d hk, h1⟩
set_option maxHeartbeats 1000000 in
theorem Capacity_ok (vi_ vo vc : Value) (X : List It) (cvs : List Value) (owed : List RR) (L : List Int) (K : Nat) (w : World) (hX : Its w vi_ X cvs) (ho : Sl aC 3 w vo owed) (hL : Sl enI 1 w vc L) (hXB : ItB K X) (hoB : RB K owed) (hK : 80 * K + 90 ≤ MX)
    (hT : At w ⟨2, 0, none⟩ (Kr .u8 tzTab)) :
    Ret Tryz.prog 17 #[vi_, vo, vc] w fun v w' => v = .tuple #[bE (gH X owed L), .int .i64 (gy X owed L)] ∧ Below w.heap.size w w' := by
  have hM : MX = 1099511627776 := rfl
  have hLm := hL.maxLen
  have hom := ho.maxLen
  obtain ⟨m, hm⟩ : ∃ m, m = owed.length := ⟨_, rfl⟩
  have hzero : (List.replicate m false) = tab m (inT L 0) := by rw [fN]; exact bs fun i _ => rfl
  have hS := St.init w
  refine enter Tryz.func17 rfl Tryz.ntmps17 rfl ?_
  repeat (with_reducible first | apply ag | apply ac | apply af | apply ae | apply ab)
  refine aj ?_
  refine ak rfl (aZ  ax hS ?_)
  intro b6 wz1 hS hBz1
  refine aa rfl (am  rfl ?_)
  refine ai ?_
  repeat (with_reducible first | apply ag | apply ac | apply af | apply ae | apply ab)
  refine aj ?_
  refine aa rfl (ah  rfl ?_)
  refine aa rfl (ah  rfl ?_)
  refine ak rfl (av Tryz.call25 rfl (gS vi_ vo X cvs owed _ (hX.below hS.below) (ho.below hS.below) (fa hXB (by omega)) (fY hoB (by omega))) ?_)
  rintro _ wc2 ⟨rfl, hBc2⟩
  replace hS := hS.grow hBc2
  refine aa rfl (am  rfl ?_)
  refine ai ?_
  repeat (with_reducible first | apply ag | apply ac | apply af | apply ae | apply ab)
  obtain ⟨e, he⟩ : ∃ e, e = bS X owed := ⟨_, rfl⟩
  rw [← he]
  repeat (with_reducible first | apply ag | apply ac | apply af | apply ae | apply ab)
  refine aj ?_
  refine aa rfl (ah  rfl ?_)
  refine aa rfl (e9  rfl rfl ?_)
  refine ai ?_
  repeat (with_reducible first | apply ag | apply ac | apply af | apply ae | apply ab)
  by_cases h0 : e = 0
  · refine aN rfl (decide_eq_false (by omega)) ?_
    repeat (with_reducible first | apply ag | apply ac | apply af | apply ae | apply ab)
    have hck := he.symm.trans h0
    obtain ⟨hX8, ho24, hng, hit, hcl⟩ := dm hck
    repeat (with_reducible first | apply ag | apply ac | apply af | apply ae | apply ab)
    refine aj ?_
    refine aa rfl (ah  rfl ?_)
    refine aa rfl (aG  rfl (ho.below hS.below) ⟨_, Tryz.underlying24⟩ ?_)
    refine ak rfl (eu (enc := enB) (n := m) false  rfl rfl fm rfl (by omega) (by omega) (by omega) (by omega) hS ?_)
    intro b9 wz3 hS hBz3
    refine aa rfl (am  rfl ?_)
    refine ai ?_
    repeat (with_reducible first | apply ag | apply ac | apply af | apply ae | apply ab)
    rw [← hm]
    rw [hzero] at hS
    replace hS : St w _ [(b9, 4, (tab m (inT L 0)).flatMap enB), (b6, 36, aC zRR)] := hS
    repeat (with_reducible first | apply ag | apply ac | apply af | apply ae | apply ab)
    refine aj ?_
    refine aa rfl (ah  rfl ?_)
    refine aa rfl (aG  rfl (hL.below hS.below) ⟨_, Tryz.underlying47⟩ ?_)
    refine aa rfl (ah  rfl ?_)
    refine ai ?_
    repeat (with_reducible first | apply ag | apply af | apply ae | apply ab)
    refine a9 (fun ρ w' => gy X owed L = 0 ∧ ρ 0 = vi_ ∧ ρ 1 = vo ∧ ρ 6 = .pointer (some ⟨b6, 0, none⟩) ∧ ρ 9 = .slice (some ⟨b9, 0, none⟩) m m ∧ St w w' [(b9, 4, (tab m (dz L)).flatMap enB), (b6, 36, aC zRR)]) ?_ ?_
    · repeat (with_reducible first | apply ag | apply ac | apply af | apply ae | apply ab)
      refine a5 (σ := Nat) (fun k ρ w' => k ≤ L.length ∧ (L.take k).any (fun c => decide (c < 0 ∨ (m : Int) ≤ c)) = false ∧ ρ 0 = vi_ ∧ ρ 1 = vo ∧ ρ 6 = .pointer (some ⟨b6, 0, none⟩) ∧ ρ 9 = .slice (some ⟨b9, 0, none⟩) m m ∧ ρ 26 = vc ∧ ρ 27 = .int .i64 L.length ∧ ρ 28 = .int .i64 k ∧
          St w w' [(b9, 4, (tab m (inT L k)).flatMap enB), (b6, 36, aC zRR)]) (fun k => L.length - k) 0
        ⟨Nat.zero_le _, rfl, rfl, rfl, rfl, rfl, rfl, rfl, rfl, hS⟩ ?_
      clear hS
      rintro k ρ w4 ⟨hk1, hok, h0, h1, h6, h9, h26, h27, h28, hS⟩
      have htl := bp m (inT L k)
      repeat (with_reducible first | apply ag | apply ac | apply af | apply ae | apply ab)
      refine aj ?_
      refine aa rfl (aV  h28 h27 ?_)
      refine ai ?_
      repeat (with_reducible first | apply ag | apply ac | apply af | apply ae | apply ab)
      by_cases hk : k < L.length
      · refine aD rfl (decide_eq_true (by omega)) ?_
        repeat (with_reducible first | apply ag | apply ac | apply af | apply ae | apply ab)
        obtain ⟨c, hc⟩ : ∃ c, c = L.getD k 0 := ⟨_, rfl⟩
        obtain ⟨e1, e2⟩ := any_take_step (fun c => decide (c < 0 ∨ (m : Int) ≤ c)) L 0 hk hok
        rw [← hc] at e1 e2
        repeat (with_reducible first | apply ag | apply ac | apply af | apply ae | apply ab)
        refine aj ?_
        refine aa rfl (aX (i := k)  h26 h28 (hL.below hS.below) (by omega) (by first | omega | (simp; done) | (simp; omega)) cN ?_)
        refine aw rfl (a6 (v := .int .i64 c) (i := k) 0  rfl dM (hL.below hS.below) (by omega) rfl (by rw [← hc]; rfl) (.inr rfl) ?_)
        refine aa rfl (am  rfl ?_)
        refine ai ?_
        repeat (with_reducible first | apply ag | apply ac | apply af | apply ae | apply ab)
        refine a9 (fun ρ w' => ρ 0 = vi_ ∧ ρ 1 = vo ∧ ρ 6 = .pointer (some ⟨b6, 0, none⟩) ∧ ρ 9 = .slice (some ⟨b9, 0, none⟩) m m ∧ ρ 26 = vc ∧ ρ 27 = .int .i64 L.length ∧ ρ 28 = .int .i64 k ∧ ρ 11 = .int .i64 c ∧ ρ 39 = .bool (decide (c < 0 ∨ (m : Int) ≤ c)) ∧
          St w w' [(b9, 4, (tab m (inT L k)).flatMap enB), (b6, 36, aC zRR)]) ?_ ?_
        · repeat (with_reducible first | apply ag | apply ac | apply af | apply ae | apply ab)
          by_cases hp : c < 0
          · repeat (with_reducible first | apply ag | apply ac | apply af | apply ae | apply ab)
            refine aj ?_
            refine aa rfl (ah  rfl ?_)
            refine aa rfl (aV  rfl rfl ?_)
            refine aa rfl (ah  rfl ?_)
            refine aW (au 34 (by kernel_rfl) rfl (decide_eq_true hp)) ?_
            refine aW (au 34 (by kernel_rfl) rfl (decide_eq_true hp)) ?_
            refine aW (au 34 (by kernel_rfl) rfl (decide_eq_true hp)) ?_
            refine aW (au 34 (by kernel_rfl) rfl (decide_eq_true hp)) ?_
            refine aa rfl (aJ (vb rfl (decide_eq_true hp)) rfl ?_)
            refine ai ?_
            repeat (with_reducible first | apply ag | apply ac | apply af | apply ae | apply ab)
            exact ⟨_, rfl, h0, h1, h6, h9, h26, h27, h28, rfl, vb rfl (decide_eq_true (.inl hp)).symm, hS⟩
          · repeat (with_reducible first | apply ag | apply ac | apply af | apply ae | apply ab)
            refine aj ?_
            refine aa rfl (ah  rfl ?_)
            refine aa rfl (aV  rfl rfl ?_)
            refine aa rfl (ah  rfl ?_)
            refine aa (ar 34 (by kernel_rfl) rfl (decide_eq_false hp)) (ah  rfl ?_)
            refine aa (ar 34 (by kernel_rfl) rfl (decide_eq_false hp)) (ah  h1 ?_)
            refine aa (ar 34 (by kernel_rfl) rfl (decide_eq_false hp)) (aG  rfl (ho.below hS.below) ⟨_, Tryz.underlying24⟩ ?_)
            refine aa (ar 34 (by kernel_rfl) rfl (decide_eq_false hp)) (df  rfl rfl ?_)
            refine aa rfl (aJ (vb rfl (decide_eq_false hp)) rfl ?_)
            refine ai ?_
            repeat (with_reducible first | apply ag | apply ac | apply af | apply ae | apply ab)
            exact ⟨_, rfl, h0, h1, h6, h9, h26, h27, h28, rfl, vb rfl (by rw [decide_eq_decide, ← hm]; omega), hS⟩
        clear hS h0 h1 h6 h9 h26 h27 h28
        rintro ρ w5 ⟨h0, h1, h6, h9, h26, h27, h28, h11, h39, hS⟩
        repeat (with_reducible first | apply ag | apply ac | apply af | apply ae | apply ab)
        by_cases hb : c < 0 ∨ (m : Int) ≤ c
        · refine aD h39 (decide_eq_true hb) ?_
          repeat (with_reducible first | apply ag | apply ac | apply af | apply ae | apply ab)
          have hE : gy X owed L = 1 := by unfold gy; rw [if_pos hck, ← hm, if_pos (e2 (decide_eq_true hb))]
          have hR : gH X owed L = zRR := by unfold gH; rw [hE]; rfl
          rw [hE, hR]
          repeat (with_reducible first | apply ag | apply ac | apply af | apply ae | apply ab)
          refine aj ?_
          refine aa rfl (ce  rfl eJ ?_)
          refine ak rfl (a8 (k := 1)  h6 rfl ax hS rfl rfl rfl (Nat.le_of_ble_eq_true rfl) rfl ?_)
          intro wz4 hS
          refine aa rfl (am  rfl ?_)
          refine ai ?_
          repeat (with_reducible first | apply ag | apply ac | apply af | apply ae | apply ab)
          refine aE ?_
          repeat (with_reducible first | apply ap | apply ao)
          refine eg (k := 1) rfl h6 rfl ax hS rfl rfl ?_
          exact ⟨rfl, hS.below⟩
        refine aN h39 (decide_eq_false hb) ?_
        repeat (with_reducible first | apply ag | apply ac | apply af | apply ae | apply ab)
        obtain ⟨c0, hc0⟩ : ∃ c0 : Nat, c = (c0 : Int) := ⟨_, (Int.toNat_of_nonneg (by omega)).symm⟩
        have hst := inT_step (m := m) hk (hc.symm.trans hc0)
        repeat (with_reducible first | apply ag | apply ac | apply af | apply ae | apply ab)
        refine aj ?_
        refine aa rfl (ah  h9 ?_)
        refine aa rfl (ah  h11 ?_)
        refine aa rfl (a7 (i := c0)  rfl rfl (by omega) (by first | omega | (simp; done) | (simp; omega)) fm ?_)
        refine ak rfl (fC (k := 0) (i := c0) (enc := enB) true (fun _ => rfl)  rfl rfl dq hS rfl (by first | omega | simp) (by first | omega | (simp; done) | (simp; omega)) rfl rfl ?_)
        intro wz5 hS
        refine ai ?_
        repeat (with_reducible first | apply ag | apply ac | apply af | apply ae | apply ab)
        refine aj ?_
        refine aa rfl (aK  h28 rfl (IntWalk.i64_in _ (by omega)) ?_)
        refine aa rfl (ah  rfl ?_)
        refine ai ?_
        repeat (with_reducible first | apply ag | apply ac | apply af | apply ae | apply ab)
        exact ⟨k + 1, _, rfl, ⟨hk, e1 (decide_eq_false hb), h0, h1, h6, h9, h26, h27, vi rfl (by omega), hS.cast (by show [_, _] = _; rw [hst])⟩, by omega⟩
      · refine aN rfl (decide_eq_false (by omega)) ?_
        repeat (with_reducible first | apply ag | apply ac | apply af | apply ae | apply ab)
        refine aU ?_
        repeat (with_reducible first | apply aA | apply az | refine ay rfl ?_)
        repeat (with_reducible first | apply ag | apply ac | apply af | apply ae | apply ab)
        obtain rfl : k = L.length := by omega
        rw [List.take_length] at hok
        refine ⟨_, rfl, ?_, h0, h1, h6, h9, hS.cast (by unfold inT; rw [List.take_length])⟩
        unfold gy
        rw [if_pos hck, ← hm, hok]; rfl
    clear hS
    rintro ρ w5 ⟨hE, h0, h1, h6, h9, hS⟩
    have hRes : gH X owed L = ofQ (dL X owed (dz L)) := by unfold gH; rw [if_pos hE]
    rw [hE, hRes]
    repeat (with_reducible first | apply ag | apply ac | apply af | apply ae | apply ab)
    refine aj ?_
    refine aa rfl (ah  h0 ?_)
    refine aa rfl (ah  h1 ?_)
    refine ak rfl (av Tryz.call26 rfl (build_net vi_ vo X cvs owed K _ (hX.below hS.below) (ho.below hS.below) hXB hoB (by omega) hck) ?_)
    rintro r w6 ⟨sP, sO, sM, R, NET, rfl, hS6, hNet⟩
    replace hS := (hS.join hS6).perm List.perm_append_comm
    have hN0 := hNet _ _ _ hS
    obtain ⟨aP, cP, hsP, _⟩ := hN0.P.form
    obtain ⟨aO, cO, hsO, _⟩ := hN0.O.form
    obtain ⟨aM, cM, hsM, _⟩ := hN0.M.form
    subst hsP hsO hsM
    refine ak rfl (aZ  eK hS ?_)
    intro b12 wz6 hS hBz6
    refine ak rfl (a8 (k := 0)  rfl rfl eK hS rfl rfl rfl (Nat.le_of_ble_eq_true rfl) rfl ?_)
    intro wz7 hS
    refine ai ?_
    repeat (with_reducible first | apply ag | apply ac | apply af | apply ae | apply ab)
    refine aj ?_
    refine aw rfl (aB (k := 0)  rfl eK hS rfl rfl rfl (.inl rfl) ?_)
    replace hS : St w _ ([(b12, 67, [.slice aP (bV X).length cP, .slice aO (bU owed).length cO, .slice aM R.length cM]), (b9, 4, (tab m (dz L)).flatMap enB), (b6, 36, aC zRR)] ++ NET) := hS
    have hN := hNet _ _ _ hS
    refine ak rfl (av Tryz.call41 rfl (cuts_ok _ _ _ X K _ hN.P hXB (by omega) hX8 (hT.below hS.below)) ?_)
    rintro r w7 ⟨bc, rfl, hS7⟩
    replace hS := hS.join hS7
    obtain ⟨N, hN2⟩ : ∃ N, N = 2 ^ X.length := ⟨_, rfl⟩
    have hN256 : N ≤ 256 := by rw [hN2]; exact Nat.pow_le_pow_right (n := 2) (by decide) hX8
    have hN1 : 1 ≤ N := by rw [hN2]; exact Nat.one_le_two_pow
    have hc0 : (tab N fun j => ofQ (dy X j)) = tab N fun j => ofQ (cJ X owed (fun i => decide (i < 0) && dz L i) j) := bs fun j _ => by
      rw [fc X owed (t := fun _ => false) (fun c _ => by simp), gw]
    rw [← hN2, hc0] at hS
    rw [← hN2]
    refine aa rfl (am  rfl ?_)
    refine ai ?_
    repeat (with_reducible first | apply ag | apply ac | apply af | apply ae | apply ab)
    refine aj ?_
    refine aa rfl (ah  h9 ?_)
    refine aa rfl (dC  rfl ⟨_, Tryz.underlying81⟩ ?_)
    refine aa rfl (ah  rfl ?_)
    refine ai ?_
    repeat (with_reducible first | apply ag | apply af | apply ae | apply ab)
    refine a9 (fun ρ w' => ρ 6 = .pointer (some ⟨b6, 0, none⟩) ∧ ρ 13 = .slice (some ⟨bc, 0, none⟩) N N ∧
      St w w' ((bc, 36, (tab N fun j => ofQ (cJ X owed (dz L) j)).flatMap aC) :: ([(b12, 67, [.slice aP (bV X).length cP, .slice aO (bU owed).length cO, .slice aM R.length cM]), (b9, 4, (tab m (dz L)).flatMap enB), (b6, 36, aC zRR)] ++ NET))) ?_ ?_
    · repeat (with_reducible first | apply ag | apply ac | apply af | apply ae | apply ab)
      refine a5 (σ := Nat) (fun c ρ w' => c ≤ m ∧ ρ 6 = .pointer (some ⟨b6, 0, none⟩) ∧ ρ 12 = .pointer (some ⟨b12, 0, none⟩) ∧ ρ 13 = .slice (some ⟨bc, 0, none⟩) N N ∧ ρ 50 = .slice (some ⟨b9, 0, none⟩) m m ∧ ρ 51 = .int .i64 m ∧ ρ 52 = .int .i64 c ∧
          St w w' ((bc, 36, (tab N fun j => ofQ (cJ X owed (fun i => decide (i < c) && dz L i) j)).flatMap aC) :: ([(b12, 67, [.slice aP (bV X).length cP, .slice aO (bU owed).length cO, .slice aM R.length cM]), (b9, 4, (tab m (dz L)).flatMap enB), (b6, 36, aC zRR)] ++ NET))) (fun c => m - c) 0
        ⟨Nat.zero_le _, h6, rfl, rfl, rfl, rfl, rfl, hS⟩ ?_
      clear hS h0 h1 h6 h9
      rintro c ρ w8 ⟨hc, h6, h12, h13, h50, h51, h52, hS⟩
      have htl := bp m (dz L)
      repeat (with_reducible first | apply ag | apply ac | apply af | apply ae | apply ab)
      refine aj ?_
      refine aa rfl (aV  h52 h51 ?_)
      refine ai ?_
      repeat (with_reducible first | apply ag | apply ac | apply af | apply ae | apply ab)
      by_cases hlt : c < m
      · refine aD rfl (decide_eq_true (by omega)) ?_
        repeat (with_reducible first | apply ag | apply ac | apply af | apply ae | apply ab)
        have hcl2 : c < owed.length := by omega
        obtain ⟨b, hb⟩ : ∃ b, b = dz L c := ⟨_, rfl⟩
        have hbv : (tab m (dz L)).getD c false = b := by rw [cE _ _ hlt, hb]
        repeat (with_reducible first | apply ag | apply ac | apply af | apply ae | apply ab)
        refine aj ?_
        refine aa rfl (ah  h52 ?_)
        refine aa rfl (a7 (i := c)  h50 h52 (by omega) (by first | omega | (simp; done) | (simp; omega)) fm ?_)
        refine aw rfl (gm (k := 2) (i := c) (v := .bool b) (enc := enB) false enB_len  rfl dq hS rfl (Nat.zero_add _) (by omega) (by rw [hbv]; rfl) (.inr rfl) ?_)
        refine aa rfl (am  rfl ?_)
        refine aa rfl (am  rfl ?_)
        refine ai ?_
        repeat (with_reducible first | apply ag | apply ac | apply af | apply ae | apply ab)
        refine aj ?_
        refine aa rfl (ah  rfl ?_)
        refine ai ?_
        repeat (with_reducible first | apply ag | apply af | apply ae | apply ab)
        refine a9 (fun ρ w' => ρ 6 = .pointer (some ⟨b6, 0, none⟩) ∧ ρ 12 = .pointer (some ⟨b12, 0, none⟩) ∧ ρ 13 = .slice (some ⟨bc, 0, none⟩) N N ∧ ρ 50 = .slice (some ⟨b9, 0, none⟩) m m ∧ ρ 51 = .int .i64 m ∧ ρ 52 = .int .i64 c ∧
          St w w' ((bc, 36, (tab N fun j => ofQ (cJ X owed (fun i => decide (i < c + 1) && dz L i) j)).flatMap aC) :: ([(b12, 67, [.slice aP (bV X).length cP, .slice aO (bU owed).length cO, .slice aM R.length cM]), (b9, 4, (tab m (dz L)).flatMap enB), (b6, 36, aC zRR)] ++ NET))) ?_ ?_
        · repeat (with_reducible first | apply ag | apply ac | apply af | apply ae | apply ab)
          by_cases hbt : b = true
          · refine aD rfl (hbt) ?_
            repeat (with_reducible first | apply ag | apply ac | apply af | apply ae | apply ab)
            have hst : dz L c = true := hb.symm.trans hbt
            repeat (with_reducible first | apply ag | apply ac | apply af | apply ae | apply ab)
            refine aj ?_
            refine aw rfl (aB (k := 1)  h12 eK hS rfl rfl rfl (.inl rfl) ?_)
            refine aa rfl (ah  h13 ?_)
            refine aa rfl (ah  rfl ?_)
            refine ak rfl (av Tryz.call42 rfl (nadd_ok _ _ _ bc N c (40 * K + 45) K (cJ X owed (fun i => decide (i < c) && dz L i)) X owed R w _ _ hS (fun _ _ h => (hNet _ _ _ (h.drop (H' := [] ++ NET) (.cons _ (.cons _ (.cons _ (.cons _ (List.Sublist.refl _))))))).O) (fun _ _ h => (hNet _ _ _ (h.drop (H' := [] ++ NET) (.cons _ (.cons _ (.cons _ (.cons _ (List.Sublist.refl _))))))).M) hN256 hX8 hcl2 hN0.R (fun j _ => iy hXB hoB hX8 ho24 _ j) hoB (by omega)) ?_)
            rintro r w9 ⟨rfl, hS⟩
            rw [bs (g := fun j => ofQ (cJ X owed (fun i => decide (i < c + 1) && dz L i) j)) fun j _ => by
              rw [capF_step X owed (t := fun i => decide (i < c + 1) && dz L i) hcl2 (by simp) (by simp [hst]) (fun i _ hne => by rw [decide_eq_decide.2 (show i < c ↔ i < c + 1 by omega)])]] at hS
            refine ai ?_
            repeat (with_reducible first | apply ag | apply ac | apply af | apply ae | apply ab)
            exact ⟨_, rfl, h6, h12, h13, h50, h51, h52, hS⟩
          · refine aN rfl ((Bool.eq_false_iff.2 hbt)) ?_
            repeat (with_reducible first | apply ag | apply ac | apply af | apply ae | apply ab)
            have hst : dz L c = false := hb.symm.trans (Bool.eq_false_iff.2 hbt)
            refine ⟨_, rfl, h6, h12, h13, h50, h51, h52, hS.cast ?_⟩
            rw [bs (f := fun j => ofQ (cJ X owed (fun i => decide (i < c) && dz L i) j)) (g := fun j => ofQ (cJ X owed (fun i => decide (i < c + 1) && dz L i) j)) fun j _ => by
              rw [fc X owed (t := fun i => decide (i < c + 1) && dz L i) (fun i _ => by
                by_cases e : i = c
                · subst e; simp [hst]
                · rw [decide_eq_decide.2 (show i < c ↔ i < c + 1 by omega)])]]
        clear hS h6 h12 h13 h50 h51 h52
        rintro ρ w9 ⟨h6, h12, h13, h50, h51, h52, hS⟩
        repeat (with_reducible first | apply ag | apply ac | apply af | apply ae | apply ab)
        refine aj ?_
        refine aa rfl (aK  h52 rfl (IntWalk.i64_in _ (by omega)) ?_)
        refine aa rfl (ah  rfl ?_)
        refine ai ?_
        repeat (with_reducible first | apply ag | apply ac | apply af | apply ae | apply ab)
        exact ⟨c + 1, _, rfl, ⟨hlt, h6, h12, h13, h50, h51, vi rfl (by omega), hS⟩, by omega⟩
      · refine aN rfl (decide_eq_false (by omega)) ?_
        repeat (with_reducible first | apply ag | apply ac | apply af | apply ae | apply ab)
        refine aU ?_
        repeat (with_reducible first | apply aA | apply az | refine ay rfl ?_)
        repeat (with_reducible first | apply ag | apply ac | apply af | apply ae | apply ab)
        obtain rfl : c = m := by omega
        refine ⟨_, rfl, h6, h13, hS.cast ?_⟩
        rw [bs (f := fun j => ofQ (cJ X owed (fun i => decide (i < c) && dz L i) j)) (g := fun j => ofQ (cJ X owed (dz L) j)) fun j _ => by
          rw [fc X owed (t := dz L) (fun i hi => by simp [show i < c by omega])]]
    clear hS
    rintro ρ w9 ⟨h6, h13, hS⟩
    repeat (with_reducible first | apply ag | apply ac | apply af | apply ae | apply ab)
    refine aj ?_
    refine aa rfl (ah  h13 ?_)
    have hsl : Sl aC 3 _ (.slice (some ⟨bc, 0, none⟩) N N) _ := hS.sle (k := 0) (enc := aC) (n := N) (cap := N) rfl bg (by rw [bp]; exact Nat.le_refl _) (Nat.le_refl _) (by omega)
    rw [List.take_of_length_le (by rw [bp]; exact Nat.le_refl _)] at hsl
    refine ak rfl (av Tryz.call43 rfl (least_ok _ (cJ X owed (dz L)) N (40 * K + 45) _ hsl (by omega) (fun j _ => iy hXB hoB hX8 ho24 _ j) (by omega)) ?_)
    rintro r w6 ⟨rfl, hB6⟩
    have hcq : eq (cJ X owed (dz L)) N = dL X owed (dz L) := by rw [hN2]; rfl
    rw [hcq]
    replace hS := hS.grow hB6
    refine ak rfl (a8 (k := 3)  h6 rfl ax hS rfl rfl rfl (Nat.le_of_ble_eq_true rfl) rfl ?_)
    intro wz8 hS
    refine aa rfl (am  rfl ?_)
    refine ai ?_
    repeat (with_reducible first | apply ag | apply ac | apply af | apply ae | apply ab)
    refine aE ?_
    repeat (with_reducible first | apply ap | apply ao)
    refine eg (k := 3) rfl h6 rfl ax hS rfl rfl ?_
    exact ⟨rfl, hS.below⟩
  · refine aD rfl (decide_eq_true (by omega)) ?_
    repeat (with_reducible first | apply ag | apply ac | apply af | apply ae | apply ab)
    have hne : ¬ bS X owed = 0 := fun g => h0 (he.trans g)
    have hE : gy X owed L = e := by unfold gy; rw [if_neg hne, he]
    have hR : gH X owed L = zRR := by unfold gH; rw [if_neg (by rw [hE]; exact h0)]
    rw [hE, hR]
    repeat (with_reducible first | apply ag | apply ac | apply af | apply ae | apply ab)
    refine aj ?_
    refine aa rfl (ce  rfl eJ ?_)
    refine aa rfl (ah  rfl ?_)
    refine ak rfl (a8 (k := 0)  rfl rfl ax hS rfl rfl rfl (Nat.le_of_ble_eq_true rfl) rfl ?_)
    intro wz9 hS
    refine aa rfl (am  rfl ?_)
    refine ai ?_
    repeat (with_reducible first | apply ag | apply ac | apply af | apply ae | apply ab)
    refine aE ?_
    repeat (with_reducible first | apply ap | apply ao)
    refine eg (k := 0) rfl rfl rfl ax hS rfl rfl ?_
    exact ⟨rfl, hS.below⟩
end Go.Proofs.YtmghobajmhdbfaaGreatDoor
namespace Go.Proofs.YtmghobajmhdbfaaGreatDoor
open Go Go.RowKit Go.Sx
/-- What has been paid to each claim, and what is left of each item. -/
structure GS where
  out : Nat → Rat
  p : Nat → Rat
def pay (owed : List RR) (s : GS) (c i : Nat) : Rat := dK (owF owed c - s.out c) (s.p i)
def gst (X : List It) (owed : List RR) (s : GS) (c i : Nat) : GS :=
  if cD (X.getD i zIt) c = true then
    ⟨fun k => if k = c then s.out c + pay owed s c i else s.out k, fun k => if k = i then s.p i - pay owed s c i else s.p k⟩
  else s
def grow (X : List It) (owed : List RR) (c : Nat) (s : GS) : Nat → GS
  | 0 => s
  | i + 1 => gst X owed (grow X owed c s i) c i
def gall (X : List It) (owed : List RR) : Nat → GS
  | 0 => ⟨fun _ => 0, prF X⟩
  | c + 1 => grow X owed c (gall X owed c) X.length
def fS (n : Nat) (f : Nat → Nat) : Nat :=
  match n with
  | 0 => 0
  | n + 1 => fS n f + f n
theorem sumN_le {n : Nat} {f : Nat → Nat} {i : Nat} (h : i < n) : f i ≤ fS n f := by
  induction n with
  | zero => omega
  | succ n ih =>
    rw [fS]
    by_cases e : i = n
    · subst e; omega
    · have := ih (by omega); omega
theorem sumN_congr {n : Nat} {f g : Nat → Nat} (h : ∀ i, i < n → f i = g i) : fS n f = fS n g := by
  induction n with
  | zero => rfl
  | succ n ih => rw [fS, fS, ih (fun i hi => h i (by omega)), h n (by omega)]
theorem sumN_upd {n : Nat} {f g : Nat → Nat} {i : Nat} (h : i < n) (hg : ∀ k, k < n → k ≠ i → g k = f k) : fS n g + f i = fS n f + g i := by
  induction n with
  | zero => omega
  | succ n ih =>
    rw [fS, fS]
    by_cases e : i = n
    · subst e
      rw [sumN_congr (g := f) (fun k hk => hg k (by omega) (by omega))]; omega
    · have := ih (by omega) (fun k hk hne => hg k (by omega) hne)
      rw [hg n (by omega) (fun q => e q.symm)]; omega
theorem sumN_bound {n : Nat} {f : Nat → Nat} {B : Nat} (h : ∀ i, i < n → f i ≤ B) : fS n f ≤ n * B := by
  induction n with
  | zero => simp [fS]
  | succ n ih =>
    have h1 := ih (fun i hi => h i (by omega))
    have h2 := h n (by omega)
    rw [fS, Nat.add_mul]; omega
def fee (q : Rat) : Nat := if q = 0 then 0 else L q + 1
theorem fee_le (q : Rat) : fee q ≤ L q + 1 := by unfold fee; split <;> omega
theorem L_fee (q : Rat) : L q ≤ fee q + 1 := by
  unfold fee
  split
  · next h => rw [h, gK]; omega
  · omega
theorem fee_sub (a b : Rat) : fee (a - b) ≤ fee a + fee b := by
  by_cases ha : a = 0
  · subst ha
    have : (0 : Rat) - b = -b := by grind
    rw [this]
    unfold fee
    rw [js]
    by_cases hb : b = 0
    · subst hb; simp
    · rw [if_neg (fun g => hb (by grind)), if_neg hb]; omega
  · by_cases hb : b = 0
    · subst hb
      have : a - 0 = a := by grind
      rw [this]; omega
    · have h1 := jj a b
      have h2 := fee_le (a - b)
      have h3 : fee a = L a + 1 := if_neg ha
      have h4 : fee b = L b + 1 := if_neg hb
      omega
theorem fee_zero : fee 0 = 0 := if_pos rfl
def d3 (owed : List RR) (s : GS) (c : Nat) : Rat := owF owed c - s.out c
def tax (n : Nat) (owed : List RR) (s : GS) : Nat := fS owed.length (fun c => fee (d3 owed s c)) + fS n (fun i => fee (s.p i))
theorem tax_gst {X : List It} {owed : List RR} {s : GS} {c i : Nat} (hc : c < owed.length) (hi : i < X.length) : tax X.length owed (gst X owed s c i) ≤ tax X.length owed s := by
  unfold gst
  split
  case isFalse => exact Nat.le_refl _
  obtain ⟨x, hx⟩ : ∃ x, x = pay owed s c i := ⟨_, rfl⟩
  rw [← hx]
  have hd : pay owed s c i = dK (d3 owed s c) (s.p i) := rfl
  unfold tax
  have h1 := sumN_upd (n := owed.length) (f := fun k => fee (d3 owed s k)) (g := fun k => fee (d3 owed ⟨fun k => if k = c then s.out c + x else s.out k, fun k => if k = i then s.p i - x else s.p k⟩ k)) hc (fun k _ hne => by unfold d3; simp only [if_neg hne])
  have h2 := sumN_upd (n := X.length) (f := fun k => fee (s.p k)) (g := fun k => fee (if k = i then s.p i - x else s.p k)) hi (fun k _ hne => by simp only [if_neg hne])
  have e1 : fee (d3 owed ⟨fun k => if k = c then s.out c + x else s.out k, fun k => if k = i then s.p i - x else s.p k⟩ c) = fee (d3 owed s c - x) := by
    unfold d3
    simp only [if_true]
    congr 1
    grind
  simp only [e1, if_true] at h1 h2
  have h3 : fee (d3 owed s c - x) + fee (s.p i - x) ≤ fee (d3 owed s c) + fee (s.p i) := by
    rw [hx, hd]
    unfold dK
    split
    · rw [Rat.sub_self, fee_zero]
      have := fee_sub (s.p i) (d3 owed s c); omega
    · rw [Rat.sub_self, fee_zero]
      have := fee_sub (d3 owed s c) (s.p i); omega
  show _ + fS X.length (fun k => fee (if k = i then s.p i - x else s.p k)) ≤ _
  omega
theorem tax_grow {X : List It} {owed : List RR} {s : GS} {c i : Nat} (hc : c < owed.length) (hi : i ≤ X.length) : tax X.length owed (grow X owed c s i) ≤ tax X.length owed s := by
  induction i with
  | zero => exact Nat.le_refl _
  | succ i ih => exact Nat.le_trans (tax_gst hc hi) (ih (by omega))
theorem tax_gall {X : List It} {owed : List RR} {K : Nat} (hX : ItB K X) (ho : RB K owed) (hx8 : X.length ≤ 8) (ho24 : owed.length ≤ 24) {c : Nat} (hc : c ≤ owed.length) : tax X.length owed (gall X owed c) ≤ 40 * K + 40 := by
  induction c with
  | zero =>
    have h1 : fS owed.length (fun c => fee (d3 owed (gall X owed 0) c)) ≤ owed.length * (K + 1) := sumN_bound fun c hcl => by
      have e : d3 owed (gall X owed 0) c = owF owed c := by show owF owed c - 0 = _; grind
      have := fee_le (owF owed c)
      have := ix ho hcl
      rw [e]; omega
    have h2 : fS X.length (fun i => fee ((gall X owed 0).p i)) ≤ X.length * (2 * K + 2) := sumN_bound fun i hi => by
      have := fee_le (prF X i)
      have := ij hX hi
      show fee (prF X i) ≤ _
      omega
    have h3 : owed.length * (K + 1) ≤ 24 * (K + 1) := Nat.mul_le_mul_right _ ho24
    have h4 : X.length * (2 * K + 2) ≤ 8 * (2 * K + 2) := Nat.mul_le_mul_right _ hx8
    unfold tax
    omega
  | succ c ih => exact Nat.le_trans (tax_grow (by omega) (Nat.le_refl _)) (ih (by omega))
/-- Of any state on the way: what its numbers' lengths are. -/
theorem tax_L {n : Nat} {owed : List RR} {K : Nat} {s : GS} (ho : RB K owed) (ht : tax n owed s ≤ 40 * K + 40) : (∀ c, c < owed.length → L (d3 owed s c) ≤ 40 * K + 41 ∧ L (s.out c) ≤ 41 * K + 42) ∧ ∀ i, i < n → L (s.p i) ≤ 40 * K + 41 := by
  unfold tax at ht
  constructor
  · intro c hc
    have h1 := sumN_le (f := fun c => fee (d3 owed s c)) hc
    have h2 := L_fee (d3 owed s c)
    have h3 := ix ho hc
    have e : s.out c = owF owed c - d3 owed s c := by unfold d3; grind
    have h4 := jj (owF owed c) (d3 owed s c)
    rw [e]
    omega
  · intro i hi
    have h1 := sumN_le (f := fun i => fee (s.p i)) hi
    have h2 := L_fee (s.p i)
    omega
end Go.Proofs.YtmghobajmhdbfaaGreatDoor
namespace Go.Sx
open Go Go.RowKit
section
variable {P : Program} {ops : Array Oper} {Kend : Act → World → Prop} {n x : Nat} {ox : Oper}
/-- The operations σ in their order, and x (that makes memory) at any place among them. -/
def iW (P : Program) (ops : Array Oper) (Kend : Act → World → Prop) (n x : Nat) (ox : Oper) : List (Nat × Md) → Act → World → Prop
  | [], a, w => bK P ops .grow ox a w Kend
  | (y, m) :: σ, a, w => bK P ops .grow ox a w (wr P ops Kend ((y, m) :: σ)) ∧ (d9 ops n y x = false → match ops[y]? with
    | some oy => bK P ops m oy a w (iW P ops Kend n x ox σ)
    | none => False)
theorem allw_now {σ : List (Nat × Md)} {a : Act} {w : World} (h : iW P ops Kend n x ox σ a w) : bK P ops .grow ox a w (wr P ops Kend σ) := by
  cases σ with
  | nil => exact bY (fun a w h => h) h
  | cons y σ => exact h.1
theorem allw_fold {y : Nat} {m : Md} {oy : Oper} {σ : List (Nat × Md)} {a : Act} {w : World} (hs : f7 ops) (hx : ops[x]? = some ox) (hy : ops[y]? = some oy) (hsw : cz ops (y, m) (x, .grow) = true)
    (h : bK P ops m oy a w (iW P ops Kend n x ox σ)) : iW P ops Kend n x ox ((y, m) :: σ) a w := by
  refine ⟨?_, fun _ => by rw [hy]; exact h⟩
  have h1 : bK P ops m oy a w (fun a w => bK P ops .grow ox a w (wr P ops Kend σ)) := bY (fun a w g => allw_now g) h
  refine bY (fun a w g => ?_) (jm hy hx (fun cs b => hs y oy cs b hy) (fun cs b => hs x ox cs b hx) hsw h1)
  simp only [wr, hy]
  exact g
theorem rstep_both {o : Oper} {a : Act} {w : World} {K K' : Act → World → Prop} (h : bK P ops .pure o a w K) (h' : bK P ops .pure o a w K') : bK P ops .pure o a w (fun a w => K a w ∧ K' a w) := by
  by_cases hw : Region.wanted o (yielded ops a.tmps) = true
  · rw [cy hw] at h h' ⊢
    obtain ⟨v, g1, g2⟩ := h
    obtain ⟨v', g1', g2'⟩ := h'
    have e1 := g1 w
    have e2 := g1' w
    rw [e1] at e2
    obtain rfl : v = v' := by simpa using e2
    exact ⟨v, g1, g2, g2'⟩
  · rw [dE hw] at h h' ⊢
    exact ⟨h, h'⟩
theorem all_front (hs : f7 ops) (hx : ops[x]? = some ox) {i : Nat} {m : Md} {oi : Oper} (hi : ops[i]? = some oi) (hix : d9 ops n i x = false) {post : List (Nat × Md)} :
    ∀ (pre : List (Nat × Md)) (a : Act) (w : World), (∀ y ∈ pre, cz ops y (i, m) = true) → (∀ y ∈ pre, (m = .pure ∧ cz ops (x, .grow) (i, m) = true) ∨ (d9 ops n y.1 x = false ∧ cz ops y (x, .grow) = true)) →
      iW P ops Kend n x ox (pre ++ (i, m) :: post) a w → bK P ops m oi a w (iW P ops Kend n x ox (pre ++ post))
  | [], a, w, _, _, h => by
    have := h.2 hix
    rw [hi] at this
    exact this
  | (y, my) :: pre, a, w, hp, hf, h => by
    obtain ⟨h1, h2⟩ := h
    have hp' : ∀ z ∈ pre, cz ops z (i, m) = true := fun z hz => hp z (List.mem_cons_of_mem _ hz)
    have hf' := fun z hz => hf z (List.mem_cons_of_mem _ hz)
    have hyi := hp (y, my) (List.mem_cons_self ..)
    cases hy : ops[y]? with
    | none =>
      unfold cz at hyi
      simp only [hy] at hyi
      cases hyi
    | some oy =>
      have hB : d9 ops n y x = false → bK P ops m oi a w (fun a w => bK P ops my oy a w (iW P ops Kend n x ox (pre ++ post))) := fun hd => by
        have g := h2 hd
        rw [hy] at g
        exact jm hy hi (fun cs b => hs y oy cs b hy) (fun cs b => hs i oi cs b hi) hyi (bY (fun a w g => all_front hs hx hi hix pre a w hp' hf' g) g)
      rcases hf (y, my) (List.mem_cons_self ..) with ⟨rfl, hsx⟩ | ⟨hd, hsy⟩
      · have hA : bK P ops .pure oi a w (fun a w => bK P ops .grow ox a w (wr P ops Kend ((y, my) :: (pre ++ post)))) :=
          jm hx hi (fun cs b => hs x ox cs b hx) (fun cs b => hs i oi cs b hi) hsx (bY (fun a w g => wr_front hs hi ((y, my) :: pre) a w hp g) h1)
        by_cases hd : d9 ops n y x = false
        · refine bY (fun a w g => ?_) (rstep_both hA (hB hd))
          exact ⟨g.1, fun _ => by rw [hy]; exact g.2⟩
        · exact bY (fun a w g => ⟨g, fun q => absurd q hd⟩) hA
      · exact bY (fun a w g => allw_fold hs hx hy hsy g) (hB hd)
def d6 (ops : Array Oper) (n x : Nat) : List (Nat × Md) → Bool
  | [] => true
  | y :: σ => !Nat.beq y.1 x && (σ.all fun i => d9 ops n i.1 x || d9 ops n i.1 y.1 || ((match i.2 with | .pure => true | _ => false) && cz ops (x, .grow) i) || (!d9 ops n y.1 x && cz ops y (x, .grow))) && d6 ops n x σ
theorem floatOk_erase {z : Nat × Md} : ∀ {σ τ : List (Nat × Md)}, d6 ops n x (σ ++ z :: τ) = true → d6 ops n x (σ ++ τ) = true
  | [], τ, h => by simp only [List.nil_append, d6, Bool.and_eq_true] at h ⊢; exact h.2
  | y :: σ, τ, h => by
    simp only [List.cons_append, d6, Bool.and_eq_true, List.all_append, List.all_cons] at h ⊢
    exact ⟨⟨h.1.1, h.1.2.1, h.1.2.2.2⟩, floatOk_erase h.2⟩
theorem floatOk_pre {i : Nat} {m : Md} : ∀ {pre post : List (Nat × Md)}, d6 ops n x (pre ++ (i, m) :: post) = true → ∀ y ∈ pre, y.1 ≠ x ∧ (d9 ops n i x = true ∨ d9 ops n i y.1 = true ∨ (m = .pure ∧ cz ops (x, .grow) (i, m) = true) ∨ (d9 ops n y.1 x = false ∧ cz ops y (x, .grow) = true))
  | [], _, _, y, hy => by cases hy
  | z :: pre, post, h, y, hy => by
    simp only [List.cons_append, d6, Bool.and_eq_true, List.all_append, List.all_cons] at h
    rcases List.mem_cons.1 hy with rfl | hy
    · refine ⟨gi h.1.1, ?_⟩
      have h1 := h.1.2.2.1
      simp only [Bool.or_eq_true, Bool.and_eq_true, Bool.not_eq_true'] at h1
      rcases h1 with ((h1 | h1) | h1) | h1
      · exact .inl h1
      · exact .inr (.inl h1)
      · refine .inr (.inr (.inl ⟨?_, h1.2⟩))
        cases m <;> first | rfl | (exfalso; exact absurd h1.1 (by decide))
      · exact .inr (.inr (.inr h1))
    · exact floatOk_pre h.2 y hy
theorem floatOk_ne : ∀ {σ : List (Nat × Md)}, d6 ops n x σ = true → ∀ y ∈ σ, y.1 ≠ x
  | [], _, y, hy => by cases hy
  | z :: σ, h, y, hy => by
    simp only [d6, Bool.and_eq_true] at h
    rcases List.mem_cons.1 hy with rfl | hy
    · exact gi h.1.1
    · exact floatOk_ne h.2 y hy
theorem wpAny_of_all {Q : Exit → Act → World → Prop} (hs : f7 ops) (hQ : ∀ a w, Kend a w → Q .normal a w) (hx : ops[x]? = some ox) (hxd : ∀ e ∈ ox.after, Region.binds .any e = false) :
    ∀ (fuel : Nat) (σ : List (Nat × Md)) (listed : Array Bool) (a : Act) (w : World), σ.length + 1 ≤ fuel → listed.size = ops.size → i5 ops listed →
      (∀ i, listed.getD i true = false ↔ i = x ∨ ∃ m, (i, m) ∈ σ) → c7 ops n σ = true → eI ops ((x, .grow) :: σ) = true → d6 ops n x σ = true → iW P ops Kend n x ox σ a w → wpAny P .any ops Q fuel listed a w := by
  intro fuel
  induction fuel with
  | zero => intro σ listed a w hlen; omega
  | succ fuel ih =>
    intro σ listed a w hlen hsz hc hl hp ht hf h
    have hxun : listed.getD x true = false := (hl x).2 (.inl rfl)
    refine ⟨fun hr => ?_, fun i hi => ?_⟩
    · exfalso
      have hxr : x ∈ Region.ready .any ops listed := mem_ready.2 ⟨hxun, ox, hx, fun e he hb => by rw [hxd e he] at hb; cases hb⟩
      rw [hr] at hxr
      cases hxr
    · obtain ⟨hun, oi, hoi, hdeps⟩ := mem_ready.1 hi
      have hilt : i < listed.size := by
        rcases Nat.lt_or_ge i listed.size with h2 | h2
        · exact h2
        · simp [Array.getD, Nat.not_lt.2 h2] at hun
      have hclosed : i5 ops (listed.setIfInBounds i true) := by
        intro j o hj hjl e he hb
        by_cases hji : j = i
        · subst hji
          rw [hoi] at hj
          obtain rfl := Option.some.inj hj
          exact getD_set_true (hdeps e he hb)
        · rw [getD_set_ne true (Ne.symm hji)] at hjl
          exact getD_set_true (hc j o hj hjl e he hb)
      have hself : ∀ {p : Prop}, ¬ p → ((listed.setIfInBounds i true).getD i true = false ↔ p) := fun hnp =>
        ⟨fun hf => by simp [Array.getD, hilt] at hf, fun q => absurd q hnp⟩
      have hne := floatOk_ne hf
      by_cases hix : i = x
      · subst hix
        rw [hx] at hoi
        obtain rfl := Option.some.inj hoi
        refine eB hx (bY (fun a w hh => ?_) (allw_now h))
        simp only [eI, Bool.and_eq_true] at ht
        refine wpAny_of_wr hs hQ n fuel σ (listed.setIfInBounds i true) a w (by omega) (by simpa using hsz) hclosed ?_ hp ht.2 hh
        intro j
        by_cases hji : j = i
        · subst hji
          exact hself fun ⟨m, hm⟩ => hne _ hm rfl
        · rw [getD_set_ne true (Ne.symm hji), hl j]
          exact ⟨fun q => q.resolve_left hji, .inr⟩
      · obtain ⟨m, hm⟩ := ((hl i).1 hun).resolve_left hix
        obtain ⟨pre, post, rfl⟩ := List.append_of_mem hm
        have hlst : ∀ k, listed.getD k true = false → d9 ops n i k = true → False := fun k hk hd => by
          have h2 := tdep_listed hc n i k (fun o ho e he hb => by rw [hoi] at ho; obtain rfl := Option.some.inj ho; exact hdeps e he hb) hd
          rcases Nat.lt_or_ge k listed.size with hlt | hlt
          · simp only [Array.getD, hlt, dite_true] at h2 hk
            rw [h2] at hk; cases hk
          · simp [Array.getD, Nat.not_lt.2 hlt] at h2
        have hnd : ∀ y ∈ pre, y.1 ≠ i ∧ (d9 ops n i y.1 = true ∨ cz ops y (i, m) = true) := by
          clear ih h hl hlen ht hm hlst hf hne
          induction pre with
          | nil => intro y hy; cases hy
          | cons z pre ihp =>
            simp only [List.cons_append, c7, Bool.and_eq_true, List.all_append, List.all_cons] at hp
            intro y hy
            rcases List.mem_cons.1 hy with rfl | hy
            · have h1 := hp.1.2.1
              rw [Bool.or_eq_true] at h1
              exact ⟨gi h1.1, h1.2⟩
            · exact ihp hp.2 y hy
        have hpost : ∀ y ∈ post, i ≠ y.1 := by
          clear ih h hl hlen ht hm hnd hlst hf hne
          induction pre with
          | nil =>
            simp only [List.nil_append, c7, Bool.and_eq_true] at hp
            intro y hy
            have := List.all_eq_true.1 hp.1 y hy
            simp only [Bool.and_eq_true] at this
            exact gi this.1
          | cons z pre ihp =>
            simp only [List.cons_append, c7, Bool.and_eq_true] at hp
            exact ihp hp.2
        have hyun : ∀ y ∈ pre, listed.getD y.1 true = false := fun y hy => (hl y.1).2 (.inr ⟨y.2, by simp [hy]⟩)
        have hsw : ∀ y ∈ pre, cz ops y (i, m) = true := fun y hy => (hnd y hy).2.resolve_left fun q => hlst _ (hyun y hy) q
        have hixd : d9 ops n i x = false := by
          cases hd : d9 ops n i x with
          | false => rfl
          | true => exact (hlst x hxun hd).elim
        have hfl : ∀ y ∈ pre, (m = .pure ∧ cz ops (x, .grow) (i, m) = true) ∨ (d9 ops n y.1 x = false ∧ cz ops y (x, .grow) = true) := fun y hy => by
          rcases (floatOk_pre hf y hy).2 with q | q | q
          · rw [hixd] at q; cases q
          · exact (hlst _ (hyun y hy) q).elim
          · exact q
        refine eB hoi (bY (fun a w hh => ?_) (all_front hs hx hoi hixd pre a w hsw hfl h))
        refine ih (pre ++ post) (listed.setIfInBounds i true) a w (by simp at hlen ⊢; omega) (by simpa using hsz) hclosed ?_ (pairsOk_erase hp) (topoOk_erase (σ := (x, .grow) :: pre) ht) (floatOk_erase hf) hh
        intro j
        by_cases hji : j = i
        · subst hji
          refine hself ?_
          rintro (q | ⟨m', hm'⟩)
          · exact hix q
          · rcases List.mem_append.1 hm' with h1 | h1
            · exact absurd rfl (hnd _ h1).1
            · exact absurd rfl (hpost _ h1)
        · rw [getD_set_ne true (Ne.symm hji), hl j]
          constructor
          · rintro (q | ⟨m', hm'⟩)
            · exact .inl q
            · refine .inr ⟨m', ?_⟩
              rcases List.mem_append.1 hm' with h1 | h1
              · simp [h1]
              · rcases List.mem_cons.1 h1 with h2 | h2
                · exact absurd (congrArg Prod.fst h2) hji
                · simp [h2]
          · rintro (q | ⟨m', hm'⟩)
            · exact .inl q
            · refine .inr ⟨m', ?_⟩
              rcases List.mem_append.1 hm' with h1 | h1
              · simp [h1]
              · simp [h1]
def drawFOk (ops : Array Oper) (x : Nat) (σ : List (Nat × Md)) : Bool :=
  Nat.ble (σ.length + 1) ops.size && (List.range ops.size).all (fun i => Nat.beq x i || σ.any fun x => Nat.beq x.1 i) && σ.all (fun x => Nat.blt x.1 ops.size) && c7 ops ops.size σ && eI ops ((x, .grow) :: σ) && d6 ops ops.size x σ &&
  (match ops[x]? with | some o => o.after.all fun e => !Region.binds .any e | none => false) &&
  ops.all fun o => match o.op with | .select .. => false | _ => true
end
/-- A region's walk, x not yet carried out. -/
structure Wx (P : Program) (ops : Array Oper) (Kend : Act → World → Prop) (x : Nat) (σ : List (Nat × Md)) (N : Nat) (ρ : Nat → Value) (w : World) : Prop where
  out : f7 ops → ∀ ox, ops[x]? = some ox → iW P ops Kend ops.size x ox σ (act N ρ) w
section
variable {P : Program} {N : Nat} {ρ : Nat → Value} {w0 w : World} {Q : Exit → Act → World → Prop} {ops : Array Oper} {H : List Blk} {Kend : Act → World → Prop} {i x : Nat} {o : Oper} {σ : List (Nat × Md)}
theorem c_float {id : Nat} {l : List Oper} (x : Nat) (σ : List (Nat × Md)) (hm : P.follows .mixedOrders = true) (hchk : drawFOk l.toArray x σ = true) (hS : St w0 w H)
    (h : ∀ w', St w0 w' H → Below w.heap.size w w' → Wx P l.toArray (Q .normal) x σ N ρ w') : (Code.region id l.toArray true).wp P Q (act N ρ) w := by
  simp only [drawFOk, Bool.and_eq_true] at hchk
  obtain ⟨⟨⟨⟨⟨⟨⟨h1, h2⟩, h3⟩, h4⟩, h5⟩, h7⟩, h8⟩, h6⟩ := hchk
  have hs : f7 l.toArray := by
    intro i o cs b hi hsel
    have := Array.all_eq_true'.1 h6 o (Array.mem_of_getElem? hi)
    rw [hsel] at this
    cases this
  cases hx : l.toArray[x]? with
  | none => rw [hx] at h8; cases h8
  | some ox =>
    rw [hx] at h8
    have hxd : ∀ e ∈ ox.after, Region.binds .any e = false := fun e he => by
      have := Array.all_eq_true'.1 h8 e he
      simpa using this
    have hbd : Below w.heap.size w { w with drawn := w.drawn + 1 } := (Below.refl _ w).drew
    have hxlt : x < l.toArray.size := by
      rcases Nat.lt_or_ge x l.toArray.size with q | q
      · exact q
      · rw [Array.getElem?_eq_none q] at hx; cases hx
    refine wp_region_any hm (wpAny_of_all (n := l.toArray.size) hs (fun _ _ h => h) hx hxd l.toArray.size σ _ _ _ (Nat.le_of_ble_eq_true h1) (by simp) ?_ ?_ h4 h5 h7 ((h _ (hS.grow hbd) hbd).out hs ox hx))
    · intro j o _ hl
      by_cases hj : j < l.toArray.size
      · rw [Array.getD, dif_pos (by simpa using hj)] at hl
        simp at hl
      · rename_i hjo
        rw [Array.getElem?_eq_none (by omega)] at hjo
        cases hjo
    · intro j
      constructor
      · intro hf
        have hj : j < l.toArray.size := by
          rcases Nat.lt_or_ge j l.toArray.size with hlt | hlt
          · exact hlt
          · simp at hlt
            simp [Array.getD, Nat.not_lt.2 hlt] at hf
        have := List.all_eq_true.1 h2 j (by simpa using hj)
        rw [Bool.or_eq_true] at this
        rcases this with q | q
        · exact .inl (Nat.eq_of_beq_eq_true q).symm
        · obtain ⟨y, hy, hb⟩ := List.any_eq_true.1 q
          exact .inr ⟨y.2, by rw [← Nat.eq_of_beq_eq_true hb]; exact hy⟩
      · rintro (rfl | ⟨m, hm'⟩)
        · simp at hxlt
          simp [Array.getD, hxlt]
        · have := List.all_eq_true.1 h3 _ hm'
          rw [Nat.blt_eq] at this
          simp at this
          simp [Array.getD, this]
theorem cV {d : Option Tmp} {p : Op} {ty : TypeId} {pos : String} {aft : Array Edge} {g : Option (Nat × Bool)} (hsw : cz ops (i, .pure) (x, .grow) = true) (ho : ops[i]? = some ⟨d, p, ty, pos, aft, g⟩) (hg : gd ops N ρ g = true) (h : bP P N ρ ⟨d, p, ty, pos, aft, g⟩ fun v => Wx P ops Kend x σ N (ga ρ d v) w) : Wx P ops Kend x ((i, .pure) :: σ) N ρ w := by
  refine ⟨fun hs ox hx => allw_fold hs hx ho hsw ?_⟩
  rw [cy (cY ops N ρ ⟨d, p, ty, pos, aft, g⟩ hg), cT]
  obtain ⟨v, h1, h2⟩ := h
  exact ⟨v, h1, by rw [dc]; exact h2.out hs ox hx⟩
theorem dO {d : Option Tmp} {p : Op} {ty : TypeId} {pos : String} {aft : Array Edge} {g : Option (Nat × Bool)} (hsw : cz ops (i, .read) (x, .grow) = true) (ho : ops[i]? = some ⟨d, p, ty, pos, aft, g⟩) (hg : gd ops N ρ g = true) (h : eL P N ρ w ⟨d, p, ty, pos, aft, g⟩ fun v => Wx P ops Kend x σ N (ga ρ d v) w) : Wx P ops Kend x ((i, .read) :: σ) N ρ w := by
  refine ⟨fun hs ox hx => allw_fold hs hx ho hsw ?_⟩
  rw [en (cY ops N ρ ⟨d, p, ty, pos, aft, g⟩ hg), cT]
  obtain ⟨v, h1, h2⟩ := h
  exact ⟨v, h1, by rw [dc]; exact h2.out hs ox hx⟩
/-- x now, or the next operation (that makes memory) first. -/
theorem hJ {d : Option Tmp} {p : Op} {ty : TypeId} {pos : String} {aft : Array Edge} {g : Option (Nat × Bool)} (ho : ops[i]? = some ⟨d, p, ty, pos, aft, g⟩) (hg : gd ops N ρ g = true) (hnow : Wr P ops Kend ((x, .grow) :: (i, .grow) :: σ) N ρ w)
    (h : Hup1 P N ρ w ⟨d, p, ty, pos, aft, g⟩ fun v w' => Below w.heap.size w w' ∧ Wx P ops Kend x σ N (ga ρ d v) w') : Wx P ops Kend x ((i, .grow) :: σ) N ρ w := by
  refine ⟨fun hs ox hx => ⟨?_, fun _ => ?_⟩⟩
  · have := hnow.out
    simp only [wr, hx] at this
    exact this
  · rw [ho]
    show bK _ _ _ _ _ _ _
    rw [dU (cY ops N ρ ⟨d, p, ty, pos, aft, g⟩ hg), cT]
    simp only [dc]
    exact cQ (fun v w h => ⟨h.1, h.2.out hs ox hx⟩) h.out
theorem wx_now {m : Md} (hd : d9 ops ops.size i x = true) (hnow : Wr P ops Kend ((x, .grow) :: (i, m) :: σ) N ρ w) : Wx P ops Kend x ((i, m) :: σ) N ρ w := by
  refine ⟨fun hs ox hx => ⟨?_, fun q => by rw [hd] at q; cases q⟩⟩
  have := hnow.out
  simp only [wr, hx] at this
  exact this
end
end Go.Sx
