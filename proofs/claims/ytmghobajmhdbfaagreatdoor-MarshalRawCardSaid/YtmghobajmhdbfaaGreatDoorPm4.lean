/-
  Part 4 of the texts that the law's proof is made of: the framework and the walks.
-/
import Derived.Test.YtmghobajmhdbfaaGreatDoorPm3
namespace Go.Proofs.YtmghobajmhdbfaaGreatDoor
open Go Go.RowKit Go.Sx
theorem rorder_ok (u v : Value) (m n : Nat) (w : World) (hu : Sl (uk .u32) 1 w u (aI m)) (hv : Sl (uk .u32) 1 w v (aI n)) :
    Ret Tryz.prog 81 #[u, v] w fun r w' => r = .int .i64 (eh m n) ∧ Below w.heap.size w w' := by
  have hlu := hu.maxLen
  have hlv := hv.maxLen
  have hS := St.init w
  refine enter Tryz.func81 rfl Tryz.ntmps81 rfl ?_
  repeat (with_reducible first | apply ag | apply ac | apply af | apply ae | apply ab)
  refine aj ?_
  refine aa rfl (am  rfl ?_)
  refine ai ?_
  repeat (with_reducible first | apply ag | apply ac | apply af | apply ae | apply ab)
  refine aj ?_
  refine aa rfl (ah  rfl ?_)
  refine aa rfl (aG  rfl (hu.below hS.below) ⟨_, Tryz.underlying91⟩ ?_)
  refine aa rfl (ah  rfl ?_)
  refine aa rfl (aG  rfl (hv.below hS.below) ⟨_, Tryz.underlying91⟩ ?_)
  refine aa rfl (e9  rfl rfl ?_)
  refine ai ?_
  repeat (with_reducible first | apply ag | apply ac | apply af | apply ae | apply ab)
  by_cases hl : (aI m).length = (aI n).length
  · refine aN rfl (decide_eq_false (by simp [hl])) ?_
    repeat (with_reducible first | apply ag | apply ac | apply af | apply ae | apply ab)
    refine aj ?_
    refine aa rfl (ah  rfl ?_)
    refine aa rfl (aG  rfl (hu.below hS.below) ⟨_, Tryz.underlying91⟩ ?_)
    refine aa rfl (bG  rfl rfl (IntWalk.i64_in _ (by omega)) ?_)
    refine aa rfl (am  rfl ?_)
    refine ai ?_
    repeat (with_reducible first | apply ag | apply ac | apply af | apply ae | apply ab)
    refine a5 (σ := Nat) (fun i ρ w' => i ≤ (aI m).length ∧ m / B32 ^ i = n / B32 ^ i ∧ ρ 0 = u ∧ ρ 1 = v ∧ ρ 5 = .int .i64 ((i : Int) - 1) ∧ St w w' []) (fun i => i) (aI m).length
      ⟨Nat.le_refl _, ?_, rfl, rfl, rfl, hS⟩ ?_
    · have h1 : m < B32 ^ (aI m).length := ci (by decide) m
      have h2 : n < B32 ^ (aI n).length := ci (by decide) n
      rw [Nat.div_eq_of_lt h1, hl, Nat.div_eq_of_lt h2]
    clear hS
    rintro i ρ w' ⟨hi, hq, h0, h1, h5, hS⟩
    repeat (with_reducible first | apply ag | apply ac | apply af | apply ae | apply ab)
    refine aj ?_
    refine aa rfl (ah  h5 ?_)
    refine aa rfl (df  rfl rfl ?_)
    refine ai ?_
    repeat (with_reducible first | apply ag | apply ac | apply af | apply ae | apply ab)
    by_cases hpos : 0 < i
    · refine aD rfl (decide_eq_true (by omega)) ?_
      repeat (with_reducible first | apply ag | apply ac | apply af | apply ae | apply ab)
      have hlen : i - 1 < (aI m).length := by omega
      repeat (with_reducible first | apply ag | apply ac | apply af | apply ae | apply ab)
      refine bm [(0, .pure), (1, .pure), (2, .pure), (3, .read), (4, .pure), (5, .pure), (6, .pure), (7, .read), (8, .pure)] (by kernel_rfl) (by kernel_rfl) hS ?_
      intro wz1 hS hBz1
      refine al rfl rfl (ah  h0 ?_)
      refine al rfl rfl (ah  h5 ?_)
      refine al rfl rfl (aX (i := i - 1)  rfl rfl (hu.below hS.below) (by omega) (by first | omega | (simp; done) | (simp; omega)) bz ?_)
      refine aF rfl rfl (a6 (i := i - 1) 0  rfl aY (hu.below hS.below) (by first | omega | (simp; done) | (simp; omega)) rfl rfl (.inr rfl) ?_)
      refine al rfl rfl (ah  h1 ?_)
      refine al rfl rfl (ah  h5 ?_)
      refine al rfl rfl (aX (i := i - 1)  rfl rfl (hv.below hS.below) (by omega) (by first | omega | (simp; done) | (simp; omega)) bz ?_)
      refine aF rfl rfl (a6 (i := i - 1) 0  rfl aY (hv.below hS.below) (by first | omega | (simp; done) | (simp; omega)) rfl rfl (.inr rfl) ?_)
      refine al rfl rfl (e9  rfl rfl ?_)
      refine bC ?_
      repeat (with_reducible first | apply ag | apply ac | apply af | apply ae | apply ab)
      rw [bh, bh]
      have hs1 := di B32 m (i - 1)
      have hs2 := di B32 n (i - 1)
      rw [show i - 1 + 1 = i by omega] at hs1 hs2
      by_cases hne : dgt B32 m (i - 1) = dgt B32 n (i - 1)
      · refine aN rfl (decide_eq_false (by omega)) ?_
        repeat (with_reducible first | apply ag | apply ac | apply af | apply ae | apply ab)
        refine aj ?_
        refine aa rfl (ah  h5 ?_)
        refine aa rfl (bG  rfl rfl (IntWalk.i64_in _ (by omega)) ?_)
        refine aa rfl (am  rfl ?_)
        refine ai ?_
        repeat (with_reducible first | apply ag | apply ac | apply af | apply ae | apply ab)
        exact ⟨i - 1, _, rfl, ⟨by omega, by rw [hs1, hs2, hq, hne], h0, h1, vi rfl (by omega), hS⟩, by omega⟩
      · refine aD rfl (decide_eq_true (by omega)) ?_
        repeat (with_reducible first | apply ag | apply ac | apply af | apply ae | apply ab)
        refine bm [(0, .pure), (1, .pure), (2, .pure), (3, .read), (4, .pure), (5, .pure), (6, .pure), (7, .read), (8, .pure)] (by kernel_rfl) (by kernel_rfl) hS ?_
        intro wz2 hS hBz2
        refine al rfl rfl (ah  h0 ?_)
        refine al rfl rfl (ah  h5 ?_)
        refine al rfl rfl (aX (i := i - 1)  rfl rfl (hu.below hS.below) (by omega) (by first | omega | (simp; done) | (simp; omega)) bz ?_)
        refine aF rfl rfl (a6 (i := i - 1) 0  rfl aY (hu.below hS.below) (by first | omega | (simp; done) | (simp; omega)) rfl rfl (.inr rfl) ?_)
        refine al rfl rfl (ah  h1 ?_)
        refine al rfl rfl (ah  h5 ?_)
        refine al rfl rfl (aX (i := i - 1)  rfl rfl (hv.below hS.below) (by omega) (by first | omega | (simp; done) | (simp; omega)) bz ?_)
        refine aF rfl rfl (a6 (i := i - 1) 0  rfl aY (hv.below hS.below) (by first | omega | (simp; done) | (simp; omega)) rfl rfl (.inr rfl) ?_)
        refine al rfl rfl (aV  rfl rfl ?_)
        refine bC ?_
        repeat (with_reducible first | apply ag | apply ac | apply af | apply ae | apply ab)
        rw [bh, bh]
        by_cases hlt : dgt B32 m (i - 1) < dgt B32 n (i - 1)
        · refine aD rfl (decide_eq_true (by omega)) ?_
          repeat (with_reducible first | apply ag | apply ac | apply af | apply ae | apply ab)
          refine aj ?_
          refine aa rfl (am  rfl ?_)
          refine ai ?_
          repeat (with_reducible first | apply ag | apply ac | apply af | apply ae | apply ab)
          refine aE ?_
          repeat (with_reducible first | apply ap | apply ao)
          refine aR rfl rfl ?_
          refine ⟨vi rfl (eQ (ey (b := B32) (i := i - 1) ?_)).symm, hS.below⟩
          rw [hs1, hs2, hq]; omega
        · refine aN rfl (decide_eq_false (by omega)) ?_
          repeat (with_reducible first | apply ag | apply ac | apply af | apply ae | apply ab)
          refine aj ?_
          refine aa rfl (am  rfl ?_)
          refine ai ?_
          repeat (with_reducible first | apply ag | apply ac | apply af | apply ae | apply ab)
          refine aE ?_
          repeat (with_reducible first | apply ap | apply ao)
          refine aR rfl rfl ?_
          refine ⟨vi rfl (eM (ey (b := B32) (i := i - 1) ?_)).symm, hS.below⟩
          rw [hs1, hs2, hq]; omega
    · refine aN rfl (decide_eq_false (by omega)) ?_
      repeat (with_reducible first | apply ag | apply ac | apply af | apply ae | apply ab)
      refine aU ?_
      repeat (with_reducible first | apply aA | apply az | refine ay rfl ?_)
      repeat (with_reducible first | apply ag | apply ac | apply af | apply ae | apply ab)
      refine aj ?_
      refine aa rfl (am  rfl ?_)
      refine ai ?_
      repeat (with_reducible first | apply ag | apply ac | apply af | apply ae | apply ab)
      refine aE ?_
      repeat (with_reducible first | apply ap | apply ao)
      refine aR rfl rfl ?_
      obtain rfl : i = 0 := by omega
      rw [Nat.pow_zero, Nat.div_one, Nat.div_one] at hq
      rw [hq]
      exact ⟨vi rfl (by rw [fF]), hS.below⟩
  · refine aD rfl (decide_eq_true (by omega)) ?_
    repeat (with_reducible first | apply ag | apply ac | apply af | apply ae | apply ab)
    refine aj ?_
    refine aa rfl (ah  rfl ?_)
    refine aa rfl (aG  rfl (hu.below hS.below) ⟨_, Tryz.underlying91⟩ ?_)
    refine aa rfl (ah  rfl ?_)
    refine aa rfl (aG  rfl (hv.below hS.below) ⟨_, Tryz.underlying91⟩ ?_)
    refine aa rfl (aV  rfl rfl ?_)
    refine ai ?_
    repeat (with_reducible first | apply ag | apply ac | apply af | apply ae | apply ab)
    by_cases hlt : (aI m).length < (aI n).length
    · refine aD rfl (decide_eq_true (by omega)) ?_
      repeat (with_reducible first | apply ag | apply ac | apply af | apply ae | apply ab)
      refine aj ?_
      refine aa rfl (am  rfl ?_)
      refine ai ?_
      repeat (with_reducible first | apply ag | apply ac | apply af | apply ae | apply ab)
      refine aE ?_
      repeat (with_reducible first | apply ap | apply ao)
      refine aR rfl rfl ?_
      exact ⟨vi rfl (eQ (ft hlt)).symm, hS.below⟩
    · refine aN rfl (decide_eq_false (by omega)) ?_
      repeat (with_reducible first | apply ag | apply ac | apply af | apply ae | apply ab)
      refine aj ?_
      refine aa rfl (am  rfl ?_)
      refine ai ?_
      repeat (with_reducible first | apply ag | apply ac | apply af | apply ae | apply ab)
      refine aE ?_
      repeat (with_reducible first | apply ap | apply ao)
      refine aR rfl rfl ?_
      exact ⟨vi rfl (eM (ft (by omega))).symm, hS.below⟩
theorem pad_snoc (b v n : Nat) : pad b v (n + 1) = pad b v n ++ [dgt b v n] := by
  unfold pad
  rw [List.range_succ, List.map_append, List.map_singleton]
def dj (X Y i : Nat) : Nat := (X % B32 ^ i + Y % B32 ^ i) / B32 ^ i
theorem iH (X Y i : Nat) : dj X Y i ≤ 1 := by
  have hp : 0 < B32 ^ i := Nat.pow_pos (by decide)
  have h1 := Nat.mod_lt X hp
  have h2 := Nat.mod_lt Y hp
  unfold dj
  have : X % B32 ^ i + Y % B32 ^ i < B32 ^ i * 2 := by omega
  have := Nat.div_lt_of_lt_mul this
  omega
theorem acar_dig (X Y i : Nat) : dgt B32 (X + Y) i = (dj X Y i + dgt B32 X i + dgt B32 Y i) % B32 := by
  have hp : 0 < B32 ^ i := Nat.pow_pos (by decide)
  have h1 := Nat.div_add_mod X (B32 ^ i)
  have h2 := Nat.div_add_mod Y (B32 ^ i)
  have h3 : (X + Y) / B32 ^ i = X / B32 ^ i + Y / B32 ^ i + dj X Y i := by
    unfold dj
    have : X + Y = X % B32 ^ i + Y % B32 ^ i + B32 ^ i * (X / B32 ^ i + Y / B32 ^ i) := by rw [Nat.mul_add]; omega
    rw [this, Nat.add_mul_div_left _ _ hp]
    omega
  unfold dgt
  rw [h3]
  generalize X / B32 ^ i = a
  generalize Y / B32 ^ i = b
  generalize dj X Y i = c
  show (a + b + c) % 4294967296 = (c + a % 4294967296 + b % 4294967296) % 4294967296
  omega
theorem eX (X Y i : Nat) : dj X Y (i + 1) = (dj X Y i + dgt B32 X i + dgt B32 Y i) / B32 := by
  have hp : 0 < B32 ^ i := Nat.pow_pos (by decide)
  have h1 := mod_pow_succ B32 X i
  have h2 := mod_pow_succ B32 Y i
  unfold dj
  rw [Nat.pow_succ, ← Nat.div_div_eq_div_mul, ← Nat.pow_succ, h1, h2]
  have : X % B32 ^ i + B32 ^ i * dgt B32 X i + (Y % B32 ^ i + B32 ^ i * dgt B32 Y i) = X % B32 ^ i + Y % B32 ^ i + B32 ^ i * (dgt B32 X i + dgt B32 Y i) := by rw [Nat.mul_add]; omega
  rw [this, Nat.add_mul_div_left _ _ hp, Nat.add_assoc]
theorem acar_end {X Y i : Nat} (hX : X < B32 ^ i) (hY : Y < B32 ^ i) (h : dj X Y i = 0) : X + Y < B32 ^ i := by
  unfold dj at h
  rw [Nat.mod_eq_of_lt hX, Nat.mod_eq_of_lt hY] at h
  have hp : 0 < B32 ^ i := Nat.pow_pos (by decide)
  rcases Nat.lt_or_ge (X + Y) (B32 ^ i) with g | g
  · exact g
  · have := Nat.div_pos g hp; omega
theorem acar_pos {X Y i : Nat} (h : 0 < dj X Y i) : B32 ^ i ≤ X + Y := by
  unfold dj at h
  rcases Nat.lt_or_ge (X % B32 ^ i + Y % B32 ^ i) (B32 ^ i) with g | g
  · rw [Nat.div_eq_of_lt g] at h; omega
  · have := Nat.mod_le X (B32 ^ i)
    have := Nat.mod_le Y (B32 ^ i)
    omega
theorem fh {X i : Nat} (h : (aI X).length ≤ i) : dgt B32 X i = 0 := eO (Nat.lt_of_lt_of_le (ba X) (Nat.pow_le_pow_right (by decide) h))
theorem limb_low {X i : Nat} (h : i < (aI X).length) : B32 ^ i ≤ X := pow_le_of_digs_length (by decide) h
set_option maxHeartbeats 1000000 in
theorem rplus_ok (vx vy : Value) (X Y : Nat) (w : World) (hx : Sl (uk .u32) 1 w vx (aI X)) (hy : Sl (uk .u32) 1 w vy (aI Y)) (hmx : (aI X).length ≤ 4398046511104) (hmy : (aI Y).length ≤ 4398046511104) :
    Ret Tryz.prog 80 #[vx, vy] w fun r w' => Sl (uk .u32) 1 w' r (aI (X + Y)) ∧ Below w.heap.size w w' := by
  have hS := St.init w
  have hXl := ba X
  have hYl := ba Y
  refine enter Tryz.func80 rfl Tryz.ntmps80 rfl ?_
  repeat (with_reducible first | apply ag | apply ac | apply af | apply ae | apply ab)
  refine aj ?_
  refine aa rfl (am  rfl ?_)
  refine ai ?_
  repeat (with_reducible first | apply ag | apply ac | apply af | apply ae | apply ab)
  refine aj ?_
  refine aa rfl (am  rfl ?_)
  refine ai ?_
  repeat (with_reducible first | apply ag | apply ac | apply af | apply ae | apply ab)
  refine aj ?_
  refine aa rfl (am  rfl ?_)
  refine ai ?_
  repeat (with_reducible first | apply ag | apply ac | apply af | apply ae | apply ab)
  refine aj ?_
  refine aa rfl (am  rfl ?_)
  refine ai ?_
  repeat (with_reducible first | apply ag | apply ac | apply af | apply ae | apply ab)
  refine a5 (σ := Nat) (fun i ρ w' => (i = 0 ∨ B32 ^ (i - 1) ≤ X + Y) ∧ i ≤ (aI X).length + (aI Y).length + 1 ∧ ρ 0 = vx ∧ ρ 1 = vy ∧ ρ 6 = .int .u64 (dj X Y i) ∧ ρ 7 = .int .i64 i ∧ ∃ vo Lo, ρ 5 = vo ∧ Gl (uk .u32) 94 1 vo (pad B32 (X + Y) i) Lo ∧ St w w' ([] ++ Lo)) (fun i => 2 * ((aI X).length + (aI Y).length + 1 - i) + dj X Y i) 0
    ⟨.inl rfl, by omega, rfl, rfl, vi rfl (by unfold dj; rw [Nat.pow_zero, Nat.mod_one, Nat.mod_one]; rfl), rfl, ⟨_, [], rfl, Gl.nil _ _ _, hS⟩⟩ ?_
  clear hS
  rintro i ρ w3 ⟨hlow, hi, h0, h1, h6, h7, vo, Lo, h5, hG, hS⟩
  have hc := iH X Y i
  have hlen : (pad B32 (X + Y) i).length = i := pad_length _ _ _
  have xl := bA X i
  have yl := bA Y i
  repeat (with_reducible first | apply ag | apply ac | apply af | apply ae | apply ab)
  by_cases g1 : i < (aI X).length
  · repeat (with_reducible first | apply ag | apply ac | apply af | apply ae | apply ab)
    refine aj ?_
    refine aa rfl (ah  h7 ?_)
    refine aa rfl (ah  h0 ?_)
    refine aa rfl (aG  rfl (hx.below hS.below) ⟨_, Tryz.underlying91⟩ ?_)
    refine aa rfl (aV  rfl rfl ?_)
    refine aa rfl (ah  rfl ?_)
    refine aW (au 12 (by kernel_rfl) rfl (decide_eq_true (by omega))) ?_
    refine aW (au 12 (by kernel_rfl) rfl (decide_eq_true (by omega))) ?_
    refine aW (au 12 (by kernel_rfl) rfl (decide_eq_true (by omega))) ?_
    refine aW (au 12 (by kernel_rfl) rfl (decide_eq_true (by omega))) ?_
    refine aa rfl (aJ (vb rfl (decide_eq_true (by omega))) rfl ?_)
    refine aa rfl (ah  rfl ?_)
    refine aW (au 18 (by kernel_rfl) rfl rfl) ?_
    refine aW (au 18 (by kernel_rfl) rfl rfl) ?_
    refine aa rfl (aJ (vb rfl rfl) rfl ?_)
    refine ai ?_
    repeat (with_reducible first | apply ag | apply ac | apply af | apply ae | apply ab)
    refine aD rfl (rfl) ?_
    repeat (with_reducible first | apply ag | apply ac | apply af | apply ae | apply ab)
    have hbig : B32 ^ i ≤ X + Y := by have := limb_low g1; omega
    repeat (with_reducible first | apply ag | apply ac | apply af | apply ae | apply ab)
    refine aj ?_
    refine aa rfl (ah  h7 ?_)
    refine aa rfl (ah  h0 ?_)
    refine aa rfl (aG  rfl (hx.below hS.below) ⟨_, Tryz.underlying91⟩ ?_)
    refine aa rfl (aV  rfl rfl ?_)
    refine ai ?_
    repeat (with_reducible first | apply ag | apply ac | apply af | apply ae | apply ab)
    refine a9 (fun ρ w' => ρ 0 = vx ∧ ρ 1 = vy ∧ ρ 5 = vo ∧ ρ 6 = .int .u64 (dj X Y i + dgt B32 X i : Nat) ∧ ρ 7 = .int .i64 i ∧ w3 = w') ?_ ?_
    · repeat (with_reducible first | apply ag | apply ac | apply af | apply ae | apply ab)
      by_cases hxl : i < (aI X).length
      · refine aD rfl (decide_eq_true (by omega)) ?_
        repeat (with_reducible first | apply ag | apply ac | apply af | apply ae | apply ab)
        refine aj ?_
        refine aa rfl (ah  h6 ?_)
        refine aa rfl (ah  h0 ?_)
        refine aa rfl (ah  h7 ?_)
        refine aa rfl (aX (i := i)  rfl rfl (hx.below hS.below) (by omega) (by first | omega | (simp; done) | (simp; omega)) bz ?_)
        refine aw rfl (a6 (i := i) 0  rfl aY (hx.below hS.below) (by first | omega | (simp; done) | (simp; omega)) rfl rfl (.inr rfl) ?_)
        refine aa rfl (aL  rfl Tryz.underlying95 ⟨_, Tryz.underlying94⟩ (r := ((dgt B32 X i : Nat) : Int)) (by rw [bh]; exact aQ _ ⟨rfl, by omega, by omega⟩) ?_)
        refine aa rfl (aK  rfl rfl (r := ((dj X Y i + dgt B32 X i : Nat) : Int)) (by exact aQ _ ⟨by push_cast; rfl, by omega, by omega⟩) ?_)
        refine aa rfl (am  rfl ?_)
        refine ai ?_
        repeat (with_reducible first | apply ag | apply ac | apply af | apply ae | apply ab)
        exact ⟨_, rfl, h0, h1, h5, rfl, h7, rfl⟩
      · refine aN rfl (decide_eq_false (by omega)) ?_
        repeat (with_reducible first | apply ag | apply ac | apply af | apply ae | apply ab)
        exact ⟨_, rfl, h0, h1, h5, h6.trans (by rw [fh (by omega), Nat.add_zero]), h7, rfl⟩
    clear h0 h1 h5 h6 h7
    rintro ρ w' ⟨h0, h1, h5, h6, h7, rfl⟩
    repeat (with_reducible first | apply ag | apply ac | apply af | apply ae | apply ab)
    refine aj ?_
    refine aa rfl (ah  h7 ?_)
    refine aa rfl (ah  h1 ?_)
    refine aa rfl (aG  rfl (hy.below hS.below) ⟨_, Tryz.underlying91⟩ ?_)
    refine aa rfl (aV  rfl rfl ?_)
    refine ai ?_
    repeat (with_reducible first | apply ag | apply ac | apply af | apply ae | apply ab)
    refine a9 (fun ρ w' => ρ 0 = vx ∧ ρ 1 = vy ∧ ρ 5 = vo ∧ ρ 6 = .int .u64 (dj X Y i + dgt B32 X i + dgt B32 Y i : Nat) ∧ ρ 7 = .int .i64 i ∧ w3 = w') ?_ ?_
    · repeat (with_reducible first | apply ag | apply ac | apply af | apply ae | apply ab)
      by_cases hyl : i < (aI Y).length
      · refine aD rfl (decide_eq_true (by omega)) ?_
        repeat (with_reducible first | apply ag | apply ac | apply af | apply ae | apply ab)
        refine aj ?_
        refine aa rfl (ah  h6 ?_)
        refine aa rfl (ah  h1 ?_)
        refine aa rfl (ah  h7 ?_)
        refine aa rfl (aX (i := i)  rfl rfl (hy.below hS.below) (by omega) (by first | omega | (simp; done) | (simp; omega)) bz ?_)
        refine aw rfl (a6 (i := i) 0  rfl aY (hy.below hS.below) (by first | omega | (simp; done) | (simp; omega)) rfl rfl (.inr rfl) ?_)
        refine aa rfl (aL  rfl Tryz.underlying95 ⟨_, Tryz.underlying94⟩ (r := ((dgt B32 Y i : Nat) : Int)) (by rw [bh]; exact aQ _ ⟨rfl, by omega, by omega⟩) ?_)
        refine aa rfl (aK  rfl rfl (r := ((dj X Y i + dgt B32 X i + dgt B32 Y i : Nat) : Int)) (by exact aQ _ ⟨by push_cast; rfl, by omega, by omega⟩) ?_)
        refine aa rfl (am  rfl ?_)
        refine ai ?_
        repeat (with_reducible first | apply ag | apply ac | apply af | apply ae | apply ab)
        exact ⟨_, rfl, h0, h1, h5, rfl, h7, rfl⟩
      · refine aN rfl (decide_eq_false (by omega)) ?_
        repeat (with_reducible first | apply ag | apply ac | apply af | apply ae | apply ab)
        exact ⟨_, rfl, h0, h1, h5, h6.trans (by rw [fh (X := Y) (by omega), Nat.add_zero]), h7, rfl⟩
    clear h0 h1 h5 h6 h7
    rintro ρ w' ⟨h0, h1, h5, h6, h7, rfl⟩
    repeat (with_reducible first | apply ag | apply ac | apply af | apply ae | apply ab)
    refine aj ?_
    refine aa rfl (ah  h5 ?_)
    refine aa rfl (ah  h6 ?_)
    refine aa rfl (aL  rfl Tryz.underlying94 ⟨_, Tryz.underlying95⟩ (dG _) ?_)
    refine ak rfl (dJ (vs := [_])  rfl bz rfl (by decide) (by decide) (by decide) (by simp [Value.cells]) rfl hS ?_)
    intro b1 wz2 hS hBz2
    refine ak rfl (eH [(dj X Y i + dgt B32 X i + dgt B32 Y i) % 4294967296]  rfl rfl bz (by decide) hG hS rfl rfl (fz _) (iZ _ [(dj X Y i + dgt B32 X i + dgt B32 Y i) % 4294967296]) (by first | omega | (simp only [List.length_cons, List.length_nil]; omega)) (by first | omega | (simp only [List.length_cons, List.length_nil]; omega)) ?_)
    intro va3 La3 wa3 hG hS hga3
    refine aa rfl (am  rfl ?_)
    refine ai ?_
    repeat (with_reducible first | apply ag | apply ac | apply af | apply ae | apply ab)
    rw [show (dj X Y i + dgt B32 X i + dgt B32 Y i) % 4294967296 = dgt B32 (X + Y) i from (acar_dig X Y i).symm, ← pad_snoc] at hG
    repeat (with_reducible first | apply ag | apply ac | apply af | apply ae | apply ab)
    refine aj ?_
    refine aa rfl (ah  h6 ?_)
    refine aa rfl (dk  rfl rfl (by omega) (r := (((dj X Y i + dgt B32 X i + dgt B32 Y i) / 4294967296 : Nat) : Int)) (by exact dp _ 32 (by decide)) ?_)
    refine aa rfl (am  rfl ?_)
    refine ai ?_
    repeat (with_reducible first | apply ag | apply ac | apply af | apply ae | apply ab)
    refine aj ?_
    refine aa rfl (ah  h7 ?_)
    refine aa rfl (aK  rfl rfl (IntWalk.i64_in _ (by omega)) ?_)
    refine aa rfl (am  rfl ?_)
    refine ai ?_
    repeat (with_reducible first | apply ag | apply ac | apply af | apply ae | apply ab)
    refine ⟨i + 1, _, rfl, ⟨.inr hbig, by omega, h0, h1, vi rfl (by rw [eX]), vi rfl (by omega), ⟨_, _, rfl, hG, hS⟩⟩, ?_⟩
    have hcn := eX X Y i
    have hcl := iH X Y (i + 1)
    omega
  · by_cases g2 : i < (aI Y).length
    · repeat (with_reducible first | apply ag | apply ac | apply af | apply ae | apply ab)
      refine aj ?_
      refine aa rfl (ah  h7 ?_)
      refine aa rfl (ah  h0 ?_)
      refine aa rfl (aG  rfl (hx.below hS.below) ⟨_, Tryz.underlying91⟩ ?_)
      refine aa rfl (aV  rfl rfl ?_)
      refine aa rfl (ah  rfl ?_)
      refine aa (ar 12 (by kernel_rfl) rfl (decide_eq_false (by omega))) (ah  h7 ?_)
      refine aa (ar 12 (by kernel_rfl) rfl (decide_eq_false (by omega))) (ah  h1 ?_)
      refine aa (ar 12 (by kernel_rfl) rfl (decide_eq_false (by omega))) (aG  rfl (hy.below hS.below) ⟨_, Tryz.underlying91⟩ ?_)
      refine aa (ar 12 (by kernel_rfl) rfl (decide_eq_false (by omega))) (aV  rfl rfl ?_)
      refine aa rfl (aJ (vb rfl (decide_eq_false (by omega))) rfl ?_)
      refine aa rfl (ah  rfl ?_)
      refine aW (au 18 (by kernel_rfl) rfl (decide_eq_true (by omega))) ?_
      refine aW (au 18 (by kernel_rfl) rfl (decide_eq_true (by omega))) ?_
      refine aa rfl (aJ (vb rfl (decide_eq_true (by omega))) rfl ?_)
      refine ai ?_
      repeat (with_reducible first | apply ag | apply ac | apply af | apply ae | apply ab)
      refine aD rfl (rfl) ?_
      repeat (with_reducible first | apply ag | apply ac | apply af | apply ae | apply ab)
      have hbig : B32 ^ i ≤ X + Y := by have := limb_low g2; omega
      repeat (with_reducible first | apply ag | apply ac | apply af | apply ae | apply ab)
      refine aj ?_
      refine aa rfl (ah  h7 ?_)
      refine aa rfl (ah  h0 ?_)
      refine aa rfl (aG  rfl (hx.below hS.below) ⟨_, Tryz.underlying91⟩ ?_)
      refine aa rfl (aV  rfl rfl ?_)
      refine ai ?_
      repeat (with_reducible first | apply ag | apply ac | apply af | apply ae | apply ab)
      refine a9 (fun ρ w' => ρ 0 = vx ∧ ρ 1 = vy ∧ ρ 5 = vo ∧ ρ 6 = .int .u64 (dj X Y i + dgt B32 X i : Nat) ∧ ρ 7 = .int .i64 i ∧ w3 = w') ?_ ?_
      · repeat (with_reducible first | apply ag | apply ac | apply af | apply ae | apply ab)
        by_cases hxl : i < (aI X).length
        · refine aD rfl (decide_eq_true (by omega)) ?_
          repeat (with_reducible first | apply ag | apply ac | apply af | apply ae | apply ab)
          refine aj ?_
          refine aa rfl (ah  h6 ?_)
          refine aa rfl (ah  h0 ?_)
          refine aa rfl (ah  h7 ?_)
          refine aa rfl (aX (i := i)  rfl rfl (hx.below hS.below) (by omega) (by first | omega | (simp; done) | (simp; omega)) bz ?_)
          refine aw rfl (a6 (i := i) 0  rfl aY (hx.below hS.below) (by first | omega | (simp; done) | (simp; omega)) rfl rfl (.inr rfl) ?_)
          refine aa rfl (aL  rfl Tryz.underlying95 ⟨_, Tryz.underlying94⟩ (r := ((dgt B32 X i : Nat) : Int)) (by rw [bh]; exact aQ _ ⟨rfl, by omega, by omega⟩) ?_)
          refine aa rfl (aK  rfl rfl (r := ((dj X Y i + dgt B32 X i : Nat) : Int)) (by exact aQ _ ⟨by push_cast; rfl, by omega, by omega⟩) ?_)
          refine aa rfl (am  rfl ?_)
          refine ai ?_
          repeat (with_reducible first | apply ag | apply ac | apply af | apply ae | apply ab)
          exact ⟨_, rfl, h0, h1, h5, rfl, h7, rfl⟩
        · refine aN rfl (decide_eq_false (by omega)) ?_
          repeat (with_reducible first | apply ag | apply ac | apply af | apply ae | apply ab)
          exact ⟨_, rfl, h0, h1, h5, h6.trans (by rw [fh (by omega), Nat.add_zero]), h7, rfl⟩
      clear h0 h1 h5 h6 h7
      rintro ρ w' ⟨h0, h1, h5, h6, h7, rfl⟩
      repeat (with_reducible first | apply ag | apply ac | apply af | apply ae | apply ab)
      refine aj ?_
      refine aa rfl (ah  h7 ?_)
      refine aa rfl (ah  h1 ?_)
      refine aa rfl (aG  rfl (hy.below hS.below) ⟨_, Tryz.underlying91⟩ ?_)
      refine aa rfl (aV  rfl rfl ?_)
      refine ai ?_
      repeat (with_reducible first | apply ag | apply ac | apply af | apply ae | apply ab)
      refine a9 (fun ρ w' => ρ 0 = vx ∧ ρ 1 = vy ∧ ρ 5 = vo ∧ ρ 6 = .int .u64 (dj X Y i + dgt B32 X i + dgt B32 Y i : Nat) ∧ ρ 7 = .int .i64 i ∧ w3 = w') ?_ ?_
      · repeat (with_reducible first | apply ag | apply ac | apply af | apply ae | apply ab)
        by_cases hyl : i < (aI Y).length
        · refine aD rfl (decide_eq_true (by omega)) ?_
          repeat (with_reducible first | apply ag | apply ac | apply af | apply ae | apply ab)
          refine aj ?_
          refine aa rfl (ah  h6 ?_)
          refine aa rfl (ah  h1 ?_)
          refine aa rfl (ah  h7 ?_)
          refine aa rfl (aX (i := i)  rfl rfl (hy.below hS.below) (by omega) (by first | omega | (simp; done) | (simp; omega)) bz ?_)
          refine aw rfl (a6 (i := i) 0  rfl aY (hy.below hS.below) (by first | omega | (simp; done) | (simp; omega)) rfl rfl (.inr rfl) ?_)
          refine aa rfl (aL  rfl Tryz.underlying95 ⟨_, Tryz.underlying94⟩ (r := ((dgt B32 Y i : Nat) : Int)) (by rw [bh]; exact aQ _ ⟨rfl, by omega, by omega⟩) ?_)
          refine aa rfl (aK  rfl rfl (r := ((dj X Y i + dgt B32 X i + dgt B32 Y i : Nat) : Int)) (by exact aQ _ ⟨by push_cast; rfl, by omega, by omega⟩) ?_)
          refine aa rfl (am  rfl ?_)
          refine ai ?_
          repeat (with_reducible first | apply ag | apply ac | apply af | apply ae | apply ab)
          exact ⟨_, rfl, h0, h1, h5, rfl, h7, rfl⟩
        · refine aN rfl (decide_eq_false (by omega)) ?_
          repeat (with_reducible first | apply ag | apply ac | apply af | apply ae | apply ab)
          exact ⟨_, rfl, h0, h1, h5, h6.trans (by rw [fh (X := Y) (by omega), Nat.add_zero]), h7, rfl⟩
      clear h0 h1 h5 h6 h7
      rintro ρ w' ⟨h0, h1, h5, h6, h7, rfl⟩
      repeat (with_reducible first | apply ag | apply ac | apply af | apply ae | apply ab)
      refine aj ?_
      refine aa rfl (ah  h5 ?_)
      refine aa rfl (ah  h6 ?_)
      refine aa rfl (aL  rfl Tryz.underlying94 ⟨_, Tryz.underlying95⟩ (dG _) ?_)
      refine ak rfl (dJ (vs := [_])  rfl bz rfl (by decide) (by decide) (by decide) (by simp [Value.cells]) rfl hS ?_)
      intro b4 wz5 hS hBz5
      refine ak rfl (eH [(dj X Y i + dgt B32 X i + dgt B32 Y i) % 4294967296]  rfl rfl bz (by decide) hG hS rfl rfl (fz _) (iZ _ [(dj X Y i + dgt B32 X i + dgt B32 Y i) % 4294967296]) (by first | omega | (simp only [List.length_cons, List.length_nil]; omega)) (by first | omega | (simp only [List.length_cons, List.length_nil]; omega)) ?_)
      intro va6 La6 wa6 hG hS hga6
      refine aa rfl (am  rfl ?_)
      refine ai ?_
      repeat (with_reducible first | apply ag | apply ac | apply af | apply ae | apply ab)
      rw [show (dj X Y i + dgt B32 X i + dgt B32 Y i) % 4294967296 = dgt B32 (X + Y) i from (acar_dig X Y i).symm, ← pad_snoc] at hG
      repeat (with_reducible first | apply ag | apply ac | apply af | apply ae | apply ab)
      refine aj ?_
      refine aa rfl (ah  h6 ?_)
      refine aa rfl (dk  rfl rfl (by omega) (r := (((dj X Y i + dgt B32 X i + dgt B32 Y i) / 4294967296 : Nat) : Int)) (by exact dp _ 32 (by decide)) ?_)
      refine aa rfl (am  rfl ?_)
      refine ai ?_
      repeat (with_reducible first | apply ag | apply ac | apply af | apply ae | apply ab)
      refine aj ?_
      refine aa rfl (ah  h7 ?_)
      refine aa rfl (aK  rfl rfl (IntWalk.i64_in _ (by omega)) ?_)
      refine aa rfl (am  rfl ?_)
      refine ai ?_
      repeat (with_reducible first | apply ag | apply ac | apply af | apply ae | apply ab)
      refine ⟨i + 1, _, rfl, ⟨.inr hbig, by omega, h0, h1, vi rfl (by rw [eX]), vi rfl (by omega), ⟨_, _, rfl, hG, hS⟩⟩, ?_⟩
      have hcn := eX X Y i
      have hcl := iH X Y (i + 1)
      omega
    · by_cases g3 : 0 < dj X Y i
      · repeat (with_reducible first | apply ag | apply ac | apply af | apply ae | apply ab)
        refine aj ?_
        refine aa rfl (ah  h7 ?_)
        refine aa rfl (ah  h0 ?_)
        refine aa rfl (aG  rfl (hx.below hS.below) ⟨_, Tryz.underlying91⟩ ?_)
        refine aa rfl (aV  rfl rfl ?_)
        refine aa rfl (ah  rfl ?_)
        refine aa (ar 12 (by kernel_rfl) rfl (decide_eq_false (by omega))) (ah  h7 ?_)
        refine aa (ar 12 (by kernel_rfl) rfl (decide_eq_false (by omega))) (ah  h1 ?_)
        refine aa (ar 12 (by kernel_rfl) rfl (decide_eq_false (by omega))) (aG  rfl (hy.below hS.below) ⟨_, Tryz.underlying91⟩ ?_)
        refine aa (ar 12 (by kernel_rfl) rfl (decide_eq_false (by omega))) (aV  rfl rfl ?_)
        refine aa rfl (aJ (vb rfl (decide_eq_false (by omega))) rfl ?_)
        refine aa rfl (ah  rfl ?_)
        refine aa (ar 18 (by kernel_rfl) rfl (decide_eq_false (by omega))) (ah  h6 ?_)
        refine aa (ar 18 (by kernel_rfl) rfl (decide_eq_false (by omega))) (cf  rfl rfl ?_)
        refine aa rfl (aJ (vb rfl (decide_eq_false (by omega))) rfl ?_)
        refine ai ?_
        repeat (with_reducible first | apply ag | apply ac | apply af | apply ae | apply ab)
        refine aD rfl (decide_eq_true (by omega)) ?_
        repeat (with_reducible first | apply ag | apply ac | apply af | apply ae | apply ab)
        have hbig : B32 ^ i ≤ X + Y := acar_pos g3
        have hi2 : i ≤ (aI X).length + (aI Y).length := by
          rcases Nat.lt_or_ge ((aI X).length + (aI Y).length) i with g | g
          · exfalso
            have f1 : X < B32 ^ (i - 1) := Nat.lt_of_lt_of_le hXl (Nat.pow_le_pow_right (by decide) (by omega))
            have f2 : Y < B32 ^ (i - 1) := Nat.lt_of_lt_of_le hYl (Nat.pow_le_pow_right (by decide) (by omega))
            have f3 : B32 ^ i = B32 ^ (i - 1) * 4294967296 := by rw [show (4294967296 : Nat) = B32 from rfl, ← Nat.pow_succ]; congr 1; omega
            omega
          · exact g
        repeat (with_reducible first | apply ag | apply ac | apply af | apply ae | apply ab)
        refine aj ?_
        refine aa rfl (ah  h7 ?_)
        refine aa rfl (ah  h0 ?_)
        refine aa rfl (aG  rfl (hx.below hS.below) ⟨_, Tryz.underlying91⟩ ?_)
        refine aa rfl (aV  rfl rfl ?_)
        refine ai ?_
        repeat (with_reducible first | apply ag | apply ac | apply af | apply ae | apply ab)
        refine a9 (fun ρ w' => ρ 0 = vx ∧ ρ 1 = vy ∧ ρ 5 = vo ∧ ρ 6 = .int .u64 (dj X Y i + dgt B32 X i : Nat) ∧ ρ 7 = .int .i64 i ∧ w3 = w') ?_ ?_
        · repeat (with_reducible first | apply ag | apply ac | apply af | apply ae | apply ab)
          by_cases hxl : i < (aI X).length
          · refine aD rfl (decide_eq_true (by omega)) ?_
            repeat (with_reducible first | apply ag | apply ac | apply af | apply ae | apply ab)
            refine aj ?_
            refine aa rfl (ah  h6 ?_)
            refine aa rfl (ah  h0 ?_)
            refine aa rfl (ah  h7 ?_)
            refine aa rfl (aX (i := i)  rfl rfl (hx.below hS.below) (by omega) (by first | omega | (simp; done) | (simp; omega)) bz ?_)
            refine aw rfl (a6 (i := i) 0  rfl aY (hx.below hS.below) (by first | omega | (simp; done) | (simp; omega)) rfl rfl (.inr rfl) ?_)
            refine aa rfl (aL  rfl Tryz.underlying95 ⟨_, Tryz.underlying94⟩ (r := ((dgt B32 X i : Nat) : Int)) (by rw [bh]; exact aQ _ ⟨rfl, by omega, by omega⟩) ?_)
            refine aa rfl (aK  rfl rfl (r := ((dj X Y i + dgt B32 X i : Nat) : Int)) (by exact aQ _ ⟨by push_cast; rfl, by omega, by omega⟩) ?_)
            refine aa rfl (am  rfl ?_)
            refine ai ?_
            repeat (with_reducible first | apply ag | apply ac | apply af | apply ae | apply ab)
            exact ⟨_, rfl, h0, h1, h5, rfl, h7, rfl⟩
          · refine aN rfl (decide_eq_false (by omega)) ?_
            repeat (with_reducible first | apply ag | apply ac | apply af | apply ae | apply ab)
            exact ⟨_, rfl, h0, h1, h5, h6.trans (by rw [fh (by omega), Nat.add_zero]), h7, rfl⟩
        clear h0 h1 h5 h6 h7
        rintro ρ w' ⟨h0, h1, h5, h6, h7, rfl⟩
        repeat (with_reducible first | apply ag | apply ac | apply af | apply ae | apply ab)
        refine aj ?_
        refine aa rfl (ah  h7 ?_)
        refine aa rfl (ah  h1 ?_)
        refine aa rfl (aG  rfl (hy.below hS.below) ⟨_, Tryz.underlying91⟩ ?_)
        refine aa rfl (aV  rfl rfl ?_)
        refine ai ?_
        repeat (with_reducible first | apply ag | apply ac | apply af | apply ae | apply ab)
        refine a9 (fun ρ w' => ρ 0 = vx ∧ ρ 1 = vy ∧ ρ 5 = vo ∧ ρ 6 = .int .u64 (dj X Y i + dgt B32 X i + dgt B32 Y i : Nat) ∧ ρ 7 = .int .i64 i ∧ w3 = w') ?_ ?_
        · repeat (with_reducible first | apply ag | apply ac | apply af | apply ae | apply ab)
          by_cases hyl : i < (aI Y).length
          · refine aD rfl (decide_eq_true (by omega)) ?_
            repeat (with_reducible first | apply ag | apply ac | apply af | apply ae | apply ab)
            refine aj ?_
            refine aa rfl (ah  h6 ?_)
            refine aa rfl (ah  h1 ?_)
            refine aa rfl (ah  h7 ?_)
            refine aa rfl (aX (i := i)  rfl rfl (hy.below hS.below) (by omega) (by first | omega | (simp; done) | (simp; omega)) bz ?_)
            refine aw rfl (a6 (i := i) 0  rfl aY (hy.below hS.below) (by first | omega | (simp; done) | (simp; omega)) rfl rfl (.inr rfl) ?_)
            refine aa rfl (aL  rfl Tryz.underlying95 ⟨_, Tryz.underlying94⟩ (r := ((dgt B32 Y i : Nat) : Int)) (by rw [bh]; exact aQ _ ⟨rfl, by omega, by omega⟩) ?_)
            refine aa rfl (aK  rfl rfl (r := ((dj X Y i + dgt B32 X i + dgt B32 Y i : Nat) : Int)) (by exact aQ _ ⟨by push_cast; rfl, by omega, by omega⟩) ?_)
            refine aa rfl (am  rfl ?_)
            refine ai ?_
            repeat (with_reducible first | apply ag | apply ac | apply af | apply ae | apply ab)
            exact ⟨_, rfl, h0, h1, h5, rfl, h7, rfl⟩
          · refine aN rfl (decide_eq_false (by omega)) ?_
            repeat (with_reducible first | apply ag | apply ac | apply af | apply ae | apply ab)
            exact ⟨_, rfl, h0, h1, h5, h6.trans (by rw [fh (X := Y) (by omega), Nat.add_zero]), h7, rfl⟩
        clear h0 h1 h5 h6 h7
        rintro ρ w' ⟨h0, h1, h5, h6, h7, rfl⟩
        repeat (with_reducible first | apply ag | apply ac | apply af | apply ae | apply ab)
        refine aj ?_
        refine aa rfl (ah  h5 ?_)
        refine aa rfl (ah  h6 ?_)
        refine aa rfl (aL  rfl Tryz.underlying94 ⟨_, Tryz.underlying95⟩ (dG _) ?_)
        refine ak rfl (dJ (vs := [_])  rfl bz rfl (by decide) (by decide) (by decide) (by simp [Value.cells]) rfl hS ?_)
        intro b7 wz8 hS hBz8
        refine ak rfl (eH [(dj X Y i + dgt B32 X i + dgt B32 Y i) % 4294967296]  rfl rfl bz (by decide) hG hS rfl rfl (fz _) (iZ _ [(dj X Y i + dgt B32 X i + dgt B32 Y i) % 4294967296]) (by first | omega | (simp only [List.length_cons, List.length_nil]; omega)) (by first | omega | (simp only [List.length_cons, List.length_nil]; omega)) ?_)
        intro va9 La9 wa9 hG hS hga9
        refine aa rfl (am  rfl ?_)
        refine ai ?_
        repeat (with_reducible first | apply ag | apply ac | apply af | apply ae | apply ab)
        rw [show (dj X Y i + dgt B32 X i + dgt B32 Y i) % 4294967296 = dgt B32 (X + Y) i from (acar_dig X Y i).symm, ← pad_snoc] at hG
        repeat (with_reducible first | apply ag | apply ac | apply af | apply ae | apply ab)
        refine aj ?_
        refine aa rfl (ah  h6 ?_)
        refine aa rfl (dk  rfl rfl (by omega) (r := (((dj X Y i + dgt B32 X i + dgt B32 Y i) / 4294967296 : Nat) : Int)) (by exact dp _ 32 (by decide)) ?_)
        refine aa rfl (am  rfl ?_)
        refine ai ?_
        repeat (with_reducible first | apply ag | apply ac | apply af | apply ae | apply ab)
        refine aj ?_
        refine aa rfl (ah  h7 ?_)
        refine aa rfl (aK  rfl rfl (IntWalk.i64_in _ (by omega)) ?_)
        refine aa rfl (am  rfl ?_)
        refine ai ?_
        repeat (with_reducible first | apply ag | apply ac | apply af | apply ae | apply ab)
        refine ⟨i + 1, _, rfl, ⟨.inr hbig, by omega, h0, h1, vi rfl (by rw [eX]), vi rfl (by omega), ⟨_, _, rfl, hG, hS⟩⟩, ?_⟩
        have hcn := eX X Y i
        have hcl := iH X Y (i + 1)
        omega
      · repeat (with_reducible first | apply ag | apply ac | apply af | apply ae | apply ab)
        refine aj ?_
        refine aa rfl (ah  h7 ?_)
        refine aa rfl (ah  h0 ?_)
        refine aa rfl (aG  rfl (hx.below hS.below) ⟨_, Tryz.underlying91⟩ ?_)
        refine aa rfl (aV  rfl rfl ?_)
        refine aa rfl (ah  rfl ?_)
        refine aa (ar 12 (by kernel_rfl) rfl (decide_eq_false (by omega))) (ah  h7 ?_)
        refine aa (ar 12 (by kernel_rfl) rfl (decide_eq_false (by omega))) (ah  h1 ?_)
        refine aa (ar 12 (by kernel_rfl) rfl (decide_eq_false (by omega))) (aG  rfl (hy.below hS.below) ⟨_, Tryz.underlying91⟩ ?_)
        refine aa (ar 12 (by kernel_rfl) rfl (decide_eq_false (by omega))) (aV  rfl rfl ?_)
        refine aa rfl (aJ (vb rfl (decide_eq_false (by omega))) rfl ?_)
        refine aa rfl (ah  rfl ?_)
        refine aa (ar 18 (by kernel_rfl) rfl (decide_eq_false (by omega))) (ah  h6 ?_)
        refine aa (ar 18 (by kernel_rfl) rfl (decide_eq_false (by omega))) (cf  rfl rfl ?_)
        refine aa rfl (aJ (vb rfl (decide_eq_false (by omega))) rfl ?_)
        refine ai ?_
        repeat (with_reducible first | apply ag | apply ac | apply af | apply ae | apply ab)
        refine aN rfl (decide_eq_false (by omega)) ?_
        repeat (with_reducible first | apply ag | apply ac | apply af | apply ae | apply ab)
        refine aU ?_
        repeat (with_reducible first | apply aA | apply az | refine ay rfl ?_)
        repeat (with_reducible first | apply ag | apply ac | apply af | apply ae | apply ab)
        have hend : X + Y < B32 ^ i := acar_end (Nat.lt_of_lt_of_le hXl (Nat.pow_le_pow_right (by decide) (by omega))) (Nat.lt_of_lt_of_le hYl (Nat.pow_le_pow_right (by decide) (by omega))) (by omega)
        have hi3 : (aI (X + Y)).length = i := by
          have f1 := fv hend
          rcases hlow with rfl | hlow
          · omega
          · rcases Nat.lt_or_ge (aI (X + Y)).length i with g | g
            · exfalso
              have f2 := ba (X + Y)
              have f3 : B32 ^ (aI (X + Y)).length ≤ B32 ^ (i - 1) := Nat.pow_le_pow_right (by decide) (by omega)
              omega
            · omega
        have hsl := hG.sl hS (fz _)
        rw [show pad B32 (X + Y) i = aI (X + Y) by rw [← hi3]; exact pad_limb _] at hsl
        repeat (with_reducible first | apply ag | apply ac | apply af | apply ae | apply ab)
        refine aj ?_
        refine aa rfl (ah  h5 ?_)
        refine aa rfl (am  rfl ?_)
        refine ai ?_
        repeat (with_reducible first | apply ag | apply ac | apply af | apply ae | apply ab)
        refine aE ?_
        repeat (with_reducible first | apply ap | apply ao)
        refine aR rfl rfl ?_
        exact ⟨hsl, hS.below⟩
theorem rminus_ok (vx vy : Value) (X Y : Nat) (w : World) (hx : Sl (uk .u32) 1 w vx (aI X)) (hy : Sl (uk .u32) 1 w vy (aI Y)) (hYX : Y ≤ X) (hmx : (aI X).length ≤ 17592186044416) :
    Ret Tryz.prog 82 #[vx, vy] w fun r w' => Sl (uk .u32) 1 w' r (aI (X - Y)) ∧ Below w.heap.size w w' := by
  have hS := St.init w
  obtain ⟨n, hn⟩ : ∃ n, n = (aI X).length := ⟨_, rfl⟩
  have hle : (aI Y).length ≤ n := hn ▸ cj (by decide) hYX
  refine enter Tryz.func82 rfl Tryz.ntmps82 rfl ?_
  repeat (with_reducible first | apply ag | apply ac | apply af | apply ae | apply ab)
  refine aj ?_
  refine aa rfl (am  rfl ?_)
  refine ai ?_
  repeat (with_reducible first | apply ag | apply ac | apply af | apply ae | apply ab)
  refine aj ?_
  refine aa rfl (ah  rfl ?_)
  refine aa rfl (aG  rfl (hx.below hS.below) ⟨_, Tryz.underlying91⟩ ?_)
  refine ak rfl (c4 (n := (aI X).length)  rfl rfl bz (by omega) (by omega) (by omega) (by omega) hS ?_)
  intro b1 wz2 hS hBz2
  refine aa rfl (am  rfl ?_)
  refine ai ?_
  repeat (with_reducible first | apply ag | apply ac | apply af | apply ae | apply ab)
  refine aj ?_
  refine aa rfl (am  rfl ?_)
  refine ai ?_
  repeat (with_reducible first | apply ag | apply ac | apply af | apply ae | apply ab)
  refine aj ?_
  refine aa rfl (am  rfl ?_)
  refine ai ?_
  repeat (with_reducible first | apply ag | apply ac | apply af | apply ae | apply ab)
  have hXn : X < B32 ^ n := hn ▸ ba X
  have hYn : Y < B32 ^ n := Nat.lt_of_lt_of_le (ba Y) (Nat.pow_le_pow_right (by decide) (by omega))
  rw [← hn, ← cH B32 n] at hS
  refine a5 (σ := Nat × Nat × Nat) (fun s ρ w' => s.1 ≤ n ∧ s.2.1 < B32 ^ s.1 ∧ s.2.2 ≤ 1 ∧ s.2.1 + Y % B32 ^ s.1 = X % B32 ^ s.1 + B32 ^ s.1 * s.2.2 ∧ ρ 0 = vx ∧ ρ 1 = vy ∧ ρ 5 = .slice (some ⟨b1, 0, none⟩) n n ∧ ρ 6 = .int .u64 s.2.2 ∧ ρ 7 = .int .i64 s.1 ∧ St w w' [(b1, 94, Kr .u32 (pad B32 s.2.1 n))]) (fun s => n - s.1) (0, 0, 0)
    ⟨Nat.zero_le _, by decide, by decide, by simp [Nat.mod_one], rfl, rfl, by rw [hn]; rfl, rfl, rfl, hS⟩ ?_
  clear hS
  rintro ⟨i, r, c⟩ ρ w3 ⟨hi, hr, hc, hinv, h0, h1, h5, h6, h7, hS⟩
  simp only at hi hr hc hinv h0 h1 h5 h6 h7 hS
  repeat (with_reducible first | apply ag | apply ac | apply af | apply ae | apply ab)
  refine aj ?_
  refine aa rfl (ah  h7 ?_)
  refine aa rfl (ah  h0 ?_)
  refine aa rfl (aG  rfl (hx.below hS.below) ⟨_, Tryz.underlying91⟩ ?_)
  refine aa rfl (aV  rfl rfl ?_)
  refine ai ?_
  repeat (with_reducible first | apply ag | apply ac | apply af | apply ae | apply ab)
  by_cases hlt : i < n
  · refine aD rfl (decide_eq_true (by omega)) ?_
    repeat (with_reducible first | apply ag | apply ac | apply af | apply ae | apply ab)
    have xl := bA X i
    have yl := bA Y i
    repeat (with_reducible first | apply ag | apply ac | apply af | apply ae | apply ab)
    refine aj ?_
    refine aa rfl (ah  h6 ?_)
    refine aa rfl (am  rfl ?_)
    refine ai ?_
    repeat (with_reducible first | apply ag | apply ac | apply af | apply ae | apply ab)
    refine aj ?_
    refine aa rfl (ah  h7 ?_)
    refine aa rfl (ah  h1 ?_)
    refine aa rfl (aG  rfl (hy.below hS.below) ⟨_, Tryz.underlying91⟩ ?_)
    refine aa rfl (aV  rfl rfl ?_)
    refine ai ?_
    repeat (with_reducible first | apply ag | apply ac | apply af | apply ae | apply ab)
    refine a9 (fun ρ w' => ρ 0 = vx ∧ ρ 1 = vy ∧ ρ 5 = .slice (some ⟨b1, 0, none⟩) n n ∧ ρ 7 = .int .i64 i ∧ ρ 8 = .int .u64 (c + dgt B32 Y i : Nat) ∧ w3 = w') ?_ ?_
    · repeat (with_reducible first | apply ag | apply ac | apply af | apply ae | apply ab)
      by_cases hlt2 : i < (aI Y).length
      · refine aD rfl (decide_eq_true (by omega)) ?_
        repeat (with_reducible first | apply ag | apply ac | apply af | apply ae | apply ab)
        refine aj ?_
        refine aa rfl (ah  rfl ?_)
        refine aa rfl (ah  h1 ?_)
        refine aa rfl (ah  h7 ?_)
        refine aa rfl (aX (i := i)  rfl rfl (hy.below hS.below) (by omega) (by first | omega | (simp; done) | (simp; omega)) bz ?_)
        refine aw rfl (a6 (i := i) 0  rfl aY (hy.below hS.below) (by first | omega | (simp; done) | (simp; omega)) rfl rfl (.inr rfl) ?_)
        refine aa rfl (aL  rfl Tryz.underlying95 ⟨_, Tryz.underlying94⟩ (r := ((dgt B32 Y i : Nat) : Int)) (by rw [bh]; exact aQ _ ⟨rfl, by omega, by omega⟩) ?_)
        refine aa rfl (aK  rfl rfl (r := ((c + dgt B32 Y i : Nat) : Int)) (by exact aQ _ ⟨by push_cast; rfl, by omega, by omega⟩) ?_)
        refine aa rfl (am  rfl ?_)
        refine ai ?_
        repeat (with_reducible first | apply ag | apply ac | apply af | apply ae | apply ab)
        exact ⟨_, rfl, h0, h1, h5, h7, rfl, rfl⟩
      · refine aN rfl (decide_eq_false (by omega)) ?_
        repeat (with_reducible first | apply ag | apply ac | apply af | apply ae | apply ab)
        exact ⟨_, rfl, h0, h1, h5, h7, vi rfl (by rw [fh (X := Y) (by omega), Nat.add_zero]), rfl⟩
    clear h0 h1 h5 h6 h7
    rintro ρ w' ⟨h0, h1, h5, h7, h8, rfl⟩
    repeat (with_reducible first | apply ag | apply ac | apply af | apply ae | apply ab)
    have hgx : (aI X).getD i 0 = dgt B32 X i := bh X i
    repeat (with_reducible first | apply ag | apply ac | apply af | apply ae | apply ab)
    refine aj ?_
    refine aa rfl (ah  h0 ?_)
    refine aa rfl (ah  h7 ?_)
    refine aa rfl (aX (i := i)  rfl rfl (hx.below hS.below) (by omega) (by first | omega | (simp; done) | (simp; omega)) bz ?_)
    refine aw rfl (a6 (i := i) 0  rfl aY (hx.below hS.below) (by first | omega | (simp; done) | (simp; omega)) rfl rfl (.inr rfl) ?_)
    refine aa rfl (aL  rfl Tryz.underlying95 ⟨_, Tryz.underlying94⟩ (r := ((dgt B32 X i : Nat) : Int)) (by rw [hgx]; exact aQ _ ⟨rfl, by omega, by omega⟩) ?_)
    refine aa rfl (am  rfl ?_)
    refine ai ?_
    repeat (with_reducible first | apply ag | apply ac | apply af | apply ae | apply ab)
    refine aj ?_
    refine aa rfl (am  rfl ?_)
    refine ai ?_
    repeat (with_reducible first | apply ag | apply ac | apply af | apply ae | apply ab)
    refine aj ?_
    refine aa rfl (ah  rfl ?_)
    refine aa rfl (ah  h8 ?_)
    refine aa rfl (aV  rfl rfl ?_)
    refine ai ?_
    repeat (with_reducible first | apply ag | apply ac | apply af | apply ae | apply ab)
    obtain ⟨d, hd⟩ : ∃ d, d = (if dgt B32 X i < c + dgt B32 Y i then dgt B32 X i + 4294967296 else dgt B32 X i) := ⟨_, rfl⟩
    obtain ⟨c', hc'⟩ : ∃ c', c' = (if dgt B32 X i < c + dgt B32 Y i then 1 else 0) := ⟨_, rfl⟩
    have hdc : d = dgt B32 X i + 4294967296 * c' := by rw [hd, hc']; split <;> omega
    have hdl : c + dgt B32 Y i ≤ d ∧ d - (c + dgt B32 Y i) ≤ 4294967295 := by rw [hd]; split <;> omega
    have hc1 : c' ≤ 1 := by rw [hc']; split <;> omega
    refine a9 (fun ρ w' => ρ 0 = vx ∧ ρ 1 = vy ∧ ρ 5 = .slice (some ⟨b1, 0, none⟩) n n ∧ ρ 6 = .int .u64 (c' : Nat) ∧ ρ 7 = .int .i64 i ∧ ρ 8 = .int .u64 (c + dgt B32 Y i : Nat) ∧ ρ 9 = .int .u64 (d : Nat) ∧ w3 = w') ?_ ?_
    · repeat (with_reducible first | apply ag | apply ac | apply af | apply ae | apply ab)
      by_cases hlt2 : dgt B32 X i < c + dgt B32 Y i
      · refine aD rfl (decide_eq_true (by omega)) ?_
        repeat (with_reducible first | apply ag | apply ac | apply af | apply ae | apply ab)
        rw [if_pos hlt2] at hd hc'
        repeat (with_reducible first | apply ag | apply ac | apply af | apply ae | apply ab)
        refine aj ?_
        refine aa rfl (ah  rfl ?_)
        refine aa rfl (aK  rfl rfl (r := ((d : Nat) : Int)) (by rw [hd]; exact aQ _ ⟨by omega, by omega, by omega⟩) ?_)
        refine aa rfl (am  rfl ?_)
        refine ai ?_
        repeat (with_reducible first | apply ag | apply ac | apply af | apply ae | apply ab)
        refine aj ?_
        refine aa rfl (am  rfl ?_)
        refine ai ?_
        repeat (with_reducible first | apply ag | apply ac | apply af | apply ae | apply ab)
        exact ⟨_, rfl, h0, h1, h5, vi rfl (by rw [hc']; rfl), h7, h8, rfl, rfl⟩
      · refine aN rfl (decide_eq_false (by omega)) ?_
        repeat (with_reducible first | apply ag | apply ac | apply af | apply ae | apply ab)
        rw [if_neg hlt2] at hd hc'
        exact ⟨_, rfl, h0, h1, h5, vi rfl (by rw [hc']; rfl), h7, h8, vi rfl (by rw [hd]), rfl⟩
    clear h0 h1 h5 h7 h8 hd hc'
    rintro ρ w' ⟨h0, h1, h5, h6, h7, h8, h9, rfl⟩
    repeat (with_reducible first | apply ag | apply ac | apply af | apply ae | apply ab)
    obtain ⟨e1, e2⟩ := fu (b := B32) (r := r) (i := i) (d := d - (c + dgt B32 Y i)) (n := n) (by decide) hr (show _ < 4294967296 by omega)
    repeat (with_reducible first | apply ag | apply ac | apply af | apply ae | apply ab)
    refine aj ?_
    refine aa rfl (ah  h5 ?_)
    refine aa rfl (ah  h7 ?_)
    refine aa rfl (ah  h9 ?_)
    refine aa rfl (ah  h8 ?_)
    refine aa rfl (bG  rfl rfl (r := ((d - (c + dgt B32 Y i) : Nat) : Int)) (by exact aQ _ ⟨by omega, by omega, by omega⟩) ?_)
    refine aa rfl (aL  rfl Tryz.underlying94 ⟨_, Tryz.underlying95⟩ (r := ((d - (c + dgt B32 Y i) : Nat) : Int)) (by exact de _ ⟨rfl, by omega, by omega⟩) ?_)
    refine aa rfl (a7 (i := i)  rfl rfl (by omega) (by first | omega | (simp; done) | (simp; omega)) bz ?_)
    refine ak rfl (cW (k := 0) (i := i) (a := _)  rfl rfl rfl aY hS rfl (by omega) (by first | omega | (simp; done) | (simp; omega)) ?_)
    intro wz3 hS
    refine ai ?_
    repeat (with_reducible first | apply ag | apply ac | apply af | apply ae | apply ab)
    rw [List.set_cons_zero, e1] at hS
    repeat (with_reducible first | apply ag | apply ac | apply af | apply ae | apply ab)
    refine aj ?_
    refine aa rfl (ah  h7 ?_)
    refine aa rfl (aK  rfl rfl (IntWalk.i64_in _ (by omega)) ?_)
    refine aa rfl (am  rfl ?_)
    refine ai ?_
    repeat (with_reducible first | apply ag | apply ac | apply af | apply ae | apply ab)
    refine ⟨(i + 1, r + B32 ^ i * (d - (c + dgt B32 Y i)), c'), _, rfl, ⟨hlt, e2, hc1, ?_, h0, h1, h5, h6, vi rfl (by simp), hS⟩, by simp only; omega⟩
    simp only
    have h9 : B32 ^ i * (d - (c + dgt B32 Y i)) + B32 ^ i * dgt B32 Y i + B32 ^ i * c = B32 ^ i * dgt B32 X i + B32 ^ i * (B32 * c') := by
      rw [← Nat.mul_add, ← Nat.mul_add, ← Nat.mul_add, show dgt B32 X i + B32 * c' = d from hdc.symm]; congr 1; omega
    rw [mod_pow_succ, mod_pow_succ, Nat.pow_succ, Nat.mul_assoc]
    omega
  · refine aN rfl (decide_eq_false (by omega)) ?_
    repeat (with_reducible first | apply ag | apply ac | apply af | apply ae | apply ab)
    refine aU ?_
    repeat (with_reducible first | apply aA | apply az | refine ay rfl ?_)
    repeat (with_reducible first | apply ag | apply ac | apply af | apply ae | apply ab)
    obtain rfl : i = n := by omega
    rw [Nat.mod_eq_of_lt hXn, Nat.mod_eq_of_lt hYn] at hinv
    have hc0 : c = 0 := by
      rcases Nat.lt_or_ge c 1 with h | h
      · omega
      · obtain rfl : c = 1 := by omega
        omega
    subst hc0
    have hr2 : r = X - Y := by omega
    have hsl := hS.slk (k := 0) rfl (n := i) (cap := i) (by simp) (Nat.le_refl _) (by omega)
    rw [List.take_of_length_le (by simp)] at hsl
    repeat (with_reducible first | apply ag | apply ac | apply af | apply ae | apply ab)
    refine aj ?_
    refine aa rfl (ah  h5 ?_)
    refine ak rfl (av Tryz.call101 rfl (eo _ _ _ hsl (eb (by decide) _ _)) ?_)
    rintro _ wq4 ⟨hv, hq4⟩
    replace hq4 := hq4.symm
    subst hq4
    refine aa rfl (am  rfl ?_)
    refine ai ?_
    repeat (with_reducible first | apply ag | apply ac | apply af | apply ae | apply ab)
    refine aE ?_
    repeat (with_reducible first | apply ap | apply ao)
    refine aR rfl rfl ?_
    rw [bQ hr, hr2] at hv
    exact ⟨hv, hS.below⟩
end Go.Proofs.YtmghobajmhdbfaaGreatDoor
namespace Go.Proofs.YtmghobajmhdbfaaGreatDoor
open Go Go.RowKit Go.Sx
set_option maxHeartbeats 1000000 in
theorem rtimes_ok (vx vy : Value) (X Y : Nat) (w : World) (hx : Sl (uk .u32) 1 w vx (aI X)) (hy : Sl (uk .u32) 1 w vy (aI Y)) (hmx : (aI X).length ≤ 4398046511104) (hmy : (aI Y).length ≤ 4398046511104) :
    Ret Tryz.prog 77 #[vx, vy] w fun r w' => Sl (uk .u32) 1 w' r (aI (X * Y)) ∧ Below w.heap.size w w' := by
  have hS := St.init w
  obtain ⟨m, hm⟩ : ∃ m, m = (aI X).length := ⟨_, rfl⟩
  obtain ⟨n, hn⟩ : ∃ n, n = (aI Y).length := ⟨_, rfl⟩
  have hXm : X < B32 ^ m := hm ▸ ba X
  have hYn : Y < B32 ^ n := hn ▸ ba Y
  refine enter Tryz.func77 rfl Tryz.ntmps77 rfl ?_
  repeat (with_reducible first | apply ag | apply ac | apply af | apply ae | apply ab)
  refine aj ?_
  refine aa rfl (am  rfl ?_)
  refine ai ?_
  repeat (with_reducible first | apply ag | apply ac | apply af | apply ae | apply ab)
  refine aj ?_
  refine aa rfl (ah  rfl ?_)
  refine aa rfl (aG  rfl (hx.below hS.below) ⟨_, Tryz.underlying91⟩ ?_)
  refine aa rfl (ah  rfl ?_)
  refine aa rfl (aG  rfl (hy.below hS.below) ⟨_, Tryz.underlying91⟩ ?_)
  refine aa rfl (aK  rfl rfl (IntWalk.i64_in _ (by omega)) ?_)
  refine ak rfl (c4 (n := m + n)  rfl rfl bz (by omega) (by omega) (by omega) (by omega) hS ?_)
  intro b1 wz2 hS hBz2
  refine aa rfl (am  rfl ?_)
  refine ai ?_
  repeat (with_reducible first | apply ag | apply ac | apply af | apply ae | apply ab)
  refine aj ?_
  refine aa rfl (am  rfl ?_)
  refine ai ?_
  repeat (with_reducible first | apply ag | apply ac | apply af | apply ae | apply ab)
  rw [← cH B32 (m + n)] at hS
  refine a5 (σ := Nat) (fun i ρ w' => i ≤ m ∧ ρ 0 = vx ∧ ρ 1 = vy ∧ ρ 5 = .slice (some ⟨b1, 0, none⟩) (m + n) (m + n) ∧ ρ 6 = .int .i64 i ∧ St w w' [(b1, 94, Kr .u32 (pad B32 (X % B32 ^ i * Y) (m + n)))]) (fun i => m - i) 0
    ⟨Nat.zero_le _, rfl, rfl, rfl, rfl, by rw [Nat.pow_zero, Nat.mod_one, Nat.zero_mul]; exact hS⟩ ?_
  clear hS
  rintro i ρ w3 ⟨hi, h0, h1, h5, h6, hS⟩
  repeat (with_reducible first | apply ag | apply ac | apply af | apply ae | apply ab)
  refine aj ?_
  refine aa rfl (ah  h6 ?_)
  refine aa rfl (ah  h0 ?_)
  refine aa rfl (aG  rfl (hx.below hS.below) ⟨_, Tryz.underlying91⟩ ?_)
  refine aa rfl (aV  rfl rfl ?_)
  refine ai ?_
  repeat (with_reducible first | apply ag | apply ac | apply af | apply ae | apply ab)
  by_cases hlt : i < m
  · refine aD rfl (decide_eq_true (by omega)) ?_
    repeat (with_reducible first | apply ag | apply ac | apply af | apply ae | apply ab)
    have him : i < (aI X).length := by omega
    repeat (with_reducible first | apply ag | apply ac | apply af | apply ae | apply ab)
    refine aj ?_
    refine aa rfl (am  rfl ?_)
    refine ai ?_
    repeat (with_reducible first | apply ag | apply ac | apply af | apply ae | apply ab)
    refine aj ?_
    refine aa rfl (am  rfl ?_)
    refine ai ?_
    repeat (with_reducible first | apply ag | apply ac | apply af | apply ae | apply ab)
    have hP0 : X % B32 ^ i * Y < B32 ^ (i + n) := by
      rw [Nat.pow_add]
      exact Nat.mul_lt_mul_of_lt_of_le (dV (by decide) X i) (Nat.le_of_lt hYn) (Nat.pow_pos (by decide))
    refine a5 (σ := Nat × Nat × Nat) (fun s ρ w' => s.1 ≤ n ∧ s.2.1 < B32 ^ (i + n) ∧ s.2.2 ≤ 4294967295 ∧ s.2.1 + B32 ^ (i + s.1) * s.2.2 = X % B32 ^ i * Y + B32 ^ i * (dgt B32 X i * (Y % B32 ^ s.1)) ∧ ρ 0 = vx ∧ ρ 1 = vy ∧ ρ 5 = .slice (some ⟨b1, 0, none⟩) (m + n) (m + n) ∧ ρ 6 = .int .i64 i ∧ ρ 7 = .int .u64 s.2.2 ∧ ρ 8 = .int .i64 s.1 ∧ St w w' [(b1, 94, Kr .u32 (pad B32 s.2.1 (m + n)))]) (fun s => n - s.1) (0, X % B32 ^ i * Y, 0)
      ⟨Nat.zero_le _, hP0, Nat.zero_le _, by simp [Nat.mod_one], h0, h1, h5, h6, rfl, rfl, hS⟩ ?_
    clear hS h0 h1 h5 h6
    rintro ⟨k, q, c⟩ ρ w4 ⟨hk, hq, hc, hinv, h0, h1, h5, h6, h7, h8, hS⟩
    simp only at hk hq hc hinv h0 h1 h5 h6 h7 h8 hS
    repeat (with_reducible first | apply ag | apply ac | apply af | apply ae | apply ab)
    refine aj ?_
    refine aa rfl (ah  h8 ?_)
    refine aa rfl (ah  h1 ?_)
    refine aa rfl (aG  rfl (hy.below hS.below) ⟨_, Tryz.underlying91⟩ ?_)
    refine aa rfl (aV  rfl rfl ?_)
    refine ai ?_
    repeat (with_reducible first | apply ag | apply ac | apply af | apply ae | apply ab)
    by_cases hlt2 : k < n
    · refine aD rfl (decide_eq_true (by omega)) ?_
      repeat (with_reducible first | apply ag | apply ac | apply af | apply ae | apply ab)
      have hkn : k < (aI Y).length := by omega
      have hikm : i + k < m + n := by omega
      have hgq : (pad B32 q (m + n)).getD (i + k) 0 = dgt B32 q (i + k) := cx _ _ hikm
      have x1 := bA X i
      have y1 := bA Y k
      have q1 := bA q (i + k)
      obtain ⟨u1, u2⟩ := fO _ _ _ _ x1 y1 q1 hc
      obtain ⟨t, ht⟩ : ∃ t, t = dgt B32 X i * dgt B32 Y k + dgt B32 q (i + k) + c := ⟨_, rfl⟩
      have ht2 : t ≤ 18446744073709551615 := by rw [ht]; exact u2
      repeat (with_reducible first | apply ag | apply ac | apply af | apply ae | apply ab)
      refine bm [(0, .pure), (1, .pure), (2, .pure), (3, .pure), (4, .read), (5, .pure), (6, .pure), (7, .pure), (8, .pure), (9, .read), (10, .pure), (11, .pure), (12, .pure), (13, .pure), (14, .pure), (15, .pure), (16, .pure), (17, .pure), (18, .read), (19, .pure), (20, .pure), (21, .pure)] (by kernel_rfl) (by kernel_rfl) hS ?_
      intro wz3 hS hBz3
      refine al rfl rfl (ah  h7 ?_)
      refine al rfl rfl (ah  h0 ?_)
      refine al rfl rfl (ah  h6 ?_)
      refine al rfl rfl (aX (i := i)  rfl rfl (hx.below hS.below) (by omega) (by first | omega | (simp; done) | (simp; omega)) bz ?_)
      refine aF rfl rfl (a6 (i := i) 0  rfl aY (hx.below hS.below) (by first | omega | (simp; done) | (simp; omega)) rfl rfl (.inr rfl) ?_)
      refine al rfl rfl (aL  rfl Tryz.underlying95 ⟨_, Tryz.underlying94⟩ (r := ((dgt B32 X i : Nat) : Int)) (by rw [bh]; exact aQ _ ⟨rfl, by omega, by omega⟩) ?_)
      refine al rfl rfl (ah  h1 ?_)
      refine al rfl rfl (ah  h8 ?_)
      refine al rfl rfl (aX (i := k)  rfl rfl (hy.below hS.below) (by omega) (by first | omega | (simp; done) | (simp; omega)) bz ?_)
      refine aF rfl rfl (a6 (i := k) 0  rfl aY (hy.below hS.below) (by first | omega | (simp; done) | (simp; omega)) rfl rfl (.inr rfl) ?_)
      refine al rfl rfl (aL  rfl Tryz.underlying95 ⟨_, Tryz.underlying94⟩ (r := ((dgt B32 Y k : Nat) : Int)) (by rw [bh]; exact aQ _ ⟨rfl, by omega, by omega⟩) ?_)
      refine al rfl rfl (f5  rfl rfl (r := ((dgt B32 X i * dgt B32 Y k : Nat) : Int)) (by exact aQ _ ⟨by push_cast; rfl, by omega, by omega⟩) ?_)
      refine al rfl rfl (aK  rfl rfl (r := ((c + dgt B32 X i * dgt B32 Y k : Nat) : Int)) (by exact aQ _ ⟨by push_cast; rfl, by omega, by omega⟩) ?_)
      refine al rfl rfl (ah  h5 ?_)
      refine al rfl rfl (ah  h6 ?_)
      refine al rfl rfl (ah  h8 ?_)
      refine al rfl rfl (aK  rfl rfl (IntWalk.i64_in _ (by omega)) ?_)
      refine al rfl rfl (a7 (i := i + k)  rfl rfl (by omega) (by first | omega | (simp; done) | (simp; omega)) bz ?_)
      refine aF rfl rfl (ct (k := 0) (i := i + k)  rfl aY hS rfl (by omega) (by first | omega | (simp; done) | (simp; omega)) ?_)
      refine al rfl rfl (aL  rfl Tryz.underlying95 ⟨_, Tryz.underlying94⟩ (r := ((dgt B32 q (i + k) : Nat) : Int)) (by rw [hgq]; exact aQ _ ⟨rfl, by omega, by omega⟩) ?_)
      refine al rfl rfl (aK  rfl rfl (r := ((t : Nat) : Int)) (by rw [ht]; exact aQ _ ⟨by omega, by omega, by omega⟩) ?_)
      refine al rfl rfl (am  rfl ?_)
      refine bC ?_
      repeat (with_reducible first | apply ag | apply ac | apply af | apply ae | apply ab)
      refine aj ?_
      refine aa rfl (ah  h5 ?_)
      refine aa rfl (ah  h6 ?_)
      refine aa rfl (ah  h8 ?_)
      refine aa rfl (aK  rfl rfl (IntWalk.i64_in _ (by omega)) ?_)
      refine aa rfl (ah  rfl ?_)
      refine aa rfl (aL  rfl Tryz.underlying94 ⟨_, Tryz.underlying95⟩ (dG _) ?_)
      refine aa rfl (a7 (i := i + k)  rfl rfl (by omega) (by first | omega | (simp; done) | (simp; omega)) bz ?_)
      refine ak rfl (cW (k := 0) (i := i + k) (a := _)  rfl rfl rfl aY hS rfl (by omega) (by first | omega | (simp; done) | (simp; omega)) ?_)
      intro wz4 hS
      refine ai ?_
      repeat (with_reducible first | apply ag | apply ac | apply af | apply ae | apply ab)
      refine aj ?_
      refine aa rfl (ah  rfl ?_)
      refine aa rfl (dk  rfl rfl (by omega) (r := ((t / 4294967296 : Nat) : Int)) (by exact dp _ 32 (by decide)) ?_)
      refine aa rfl (am  rfl ?_)
      refine ai ?_
      repeat (with_reducible first | apply ag | apply ac | apply af | apply ae | apply ab)
      obtain ⟨q', e1, e2, e3⟩ := iC (b := B32) (v := q) (k := i + k) (d := t % 4294967296) (n := m + n) (by decide) (Nat.mod_lt _ (by decide)) hikm
      rw [List.set_cons_zero, e1] at hS
      repeat (with_reducible first | apply ag | apply ac | apply af | apply ae | apply ab)
      refine aj ?_
      refine aa rfl (ah  h8 ?_)
      refine aa rfl (aK  rfl rfl (IntWalk.i64_in _ (by omega)) ?_)
      refine aa rfl (am  rfl ?_)
      refine ai ?_
      repeat (with_reducible first | apply ag | apply ac | apply af | apply ae | apply ab)
      refine ⟨(k + 1, q', t / 4294967296), _, rfl, ⟨hlt2, e3 _ (by omega) hq, by simp only; omega, ?_, h0, h1, h5, h6, rfl, vi rfl (by simp), hS⟩, by simp only; omega⟩
      simp only
      have f1 : B32 ^ (i + (k + 1)) * (t / 4294967296) = B32 ^ (i + k) * (B32 * (t / 4294967296)) := by rw [← Nat.add_assoc, Nat.pow_succ, Nat.mul_assoc]
      have f2 : B32 ^ (i + k) * (t % 4294967296) + B32 ^ (i + k) * (B32 * (t / 4294967296)) = B32 ^ (i + k) * t := by rw [← Nat.mul_add]; congr 1; exact Nat.mod_add_div t 4294967296
      have f3 : B32 ^ (i + k) * t = B32 ^ (i + k) * (dgt B32 X i * dgt B32 Y k) + B32 ^ (i + k) * dgt B32 q (i + k) + B32 ^ (i + k) * c := by rw [ht, Nat.mul_add, Nat.mul_add]
      have f4 : B32 ^ i * (dgt B32 X i * (Y % B32 ^ (k + 1))) = B32 ^ i * (dgt B32 X i * (Y % B32 ^ k)) + B32 ^ (i + k) * (dgt B32 X i * dgt B32 Y k) := by
        rw [mod_pow_succ, Nat.mul_add, Nat.mul_add, Nat.pow_add]
        congr 1
        ac_rfl
      omega
    · refine aN rfl (decide_eq_false (by omega)) ?_
      repeat (with_reducible first | apply ag | apply ac | apply af | apply ae | apply ab)
      refine aU ?_
      repeat (with_reducible first | apply aA | apply az | refine ay rfl ?_)
      repeat (with_reducible first | apply ag | apply ac | apply af | apply ae | apply ab)
      obtain rfl : k = n := by omega
      rw [Nat.mod_eq_of_lt hYn] at hinv
      have hikm : i + k < m + k := by omega
      repeat (with_reducible first | apply ag | apply ac | apply af | apply ae | apply ab)
      refine aj ?_
      refine aa rfl (ah  h5 ?_)
      refine aa rfl (ah  h6 ?_)
      refine aa rfl (ah  h1 ?_)
      refine aa rfl (aG  rfl (hy.below hS.below) ⟨_, Tryz.underlying91⟩ ?_)
      refine aa rfl (aK  rfl rfl (IntWalk.i64_in _ (by omega)) ?_)
      refine aa rfl (ah  h7 ?_)
      refine aa rfl (aL  rfl Tryz.underlying94 ⟨_, Tryz.underlying95⟩ (r := ((c : Nat) : Int)) (by exact de _ (by omega)) ?_)
      refine aa rfl (a7 (i := i + k)  rfl rfl (by omega) (by first | omega | (simp; done) | (simp; omega)) bz ?_)
      refine ak rfl (cW (k := 0) (i := i + k) (a := _)  rfl rfl rfl aY hS rfl (by omega) (by first | omega | (simp; done) | (simp; omega)) ?_)
      intro wz5 hS
      refine ai ?_
      repeat (with_reducible first | apply ag | apply ac | apply af | apply ae | apply ab)
      obtain ⟨e1, e2⟩ := fu (b := B32) (r := q) (i := i + k) (d := c) (n := m + k) (by decide) hq (show _ < 4294967296 by omega)
      have e3 : q + B32 ^ (i + k) * c = X % B32 ^ (i + 1) * Y := by rw [hinv, mod_pow_succ, Nat.add_mul, Nat.mul_assoc]
      rw [List.set_cons_zero, e1, e3] at hS
      repeat (with_reducible first | apply ag | apply ac | apply af | apply ae | apply ab)
      refine aj ?_
      refine aa rfl (ah  h6 ?_)
      refine aa rfl (aK  rfl rfl (IntWalk.i64_in _ (by omega)) ?_)
      refine aa rfl (am  rfl ?_)
      refine ai ?_
      repeat (with_reducible first | apply ag | apply ac | apply af | apply ae | apply ab)
      exact ⟨i + 1, _, rfl, ⟨hlt, h0, h1, h5, vi rfl (by omega), hS⟩, by omega⟩
  · refine aN rfl (decide_eq_false (by omega)) ?_
    repeat (with_reducible first | apply ag | apply ac | apply af | apply ae | apply ab)
    refine aU ?_
    repeat (with_reducible first | apply aA | apply az | refine ay rfl ?_)
    repeat (with_reducible first | apply ag | apply ac | apply af | apply ae | apply ab)
    obtain rfl : i = m := by omega
    rw [Nat.mod_eq_of_lt hXm] at hS
    have hXY : X * Y < B32 ^ (i + n) := by
      rw [Nat.pow_add]
      exact Nat.mul_lt_mul_of_lt_of_le hXm (Nat.le_of_lt hYn) (Nat.pow_pos (by decide))
    have hsl := hS.slk (k := 0) rfl (n := i + n) (cap := i + n) (by simp) (Nat.le_refl _) (by omega)
    rw [List.take_of_length_le (by simp)] at hsl
    repeat (with_reducible first | apply ag | apply ac | apply af | apply ae | apply ab)
    refine aj ?_
    refine aa rfl (ah  h5 ?_)
    refine ak rfl (av Tryz.call101 rfl (eo _ _ _ hsl (eb (by decide) _ _)) ?_)
    rintro _ wq6 ⟨hv, hq6⟩
    replace hq6 := hq6.symm
    subst hq6
    refine aa rfl (am  rfl ?_)
    refine ai ?_
    repeat (with_reducible first | apply ag | apply ac | apply af | apply ae | apply ab)
    refine aE ?_
    repeat (with_reducible first | apply ap | apply ao)
    refine aR rfl rfl ?_
    rw [bQ hXY] at hv
    exact ⟨hv, hS.below⟩
theorem rshort_ok (vx : Value) (X d : Nat) (w : World) (hx : Sl (uk .u32) 1 w vx (aI X)) (hd : 0 < d) (hd2 : d ≤ 4294967295) (hmx : (aI X).length ≤ 17592186044416) :
    Ret Tryz.prog 113 #[vx, .int .u32 d] w fun r w' => (∃ v, r = .tuple #[v, .int .u32 (X % d : Nat)] ∧ Sl (uk .u32) 1 w' v (aI (X / d))) ∧ Below w.heap.size w w' := by
  have hS := St.init w
  obtain ⟨n, hn⟩ : ∃ n, n = (aI X).length := ⟨_, rfl⟩
  have hXn : X < B32 ^ n := hn ▸ ba X
  refine enter Tryz.func113 rfl Tryz.ntmps113 rfl ?_
  repeat (with_reducible first | apply ag | apply ac | apply af | apply ae | apply ab)
  refine aj ?_
  refine aa rfl (am  rfl ?_)
  refine aa rfl (am  rfl ?_)
  refine ai ?_
  repeat (with_reducible first | apply ag | apply ac | apply af | apply ae | apply ab)
  refine aj ?_
  refine aa rfl (ah  rfl ?_)
  refine aa rfl (aG  rfl (hx.below hS.below) ⟨_, Tryz.underlying91⟩ ?_)
  refine ak rfl (c4 (n := (aI X).length)  rfl rfl bz (by omega) (by omega) (by omega) (by omega) hS ?_)
  intro b1 wz2 hS hBz2
  refine aa rfl (am  rfl ?_)
  refine ai ?_
  repeat (with_reducible first | apply ag | apply ac | apply af | apply ae | apply ab)
  refine aj ?_
  refine aa rfl (am  rfl ?_)
  refine ai ?_
  repeat (with_reducible first | apply ag | apply ac | apply af | apply ae | apply ab)
  refine aj ?_
  refine aa rfl (ah  rfl ?_)
  refine aa rfl (aG  rfl (hx.below hS.below) ⟨_, Tryz.underlying91⟩ ?_)
  refine aa rfl (bG  rfl rfl (IntWalk.i64_in _ (by omega)) ?_)
  refine aa rfl (am  rfl ?_)
  refine ai ?_
  repeat (with_reducible first | apply ag | apply ac | apply af | apply ae | apply ab)
  rw [← hn, ← cH B32 n] at hS
  refine a5 (σ := Nat × Nat × Nat) (fun s ρ w' => s.1 ≤ n ∧ s.2.2 < d ∧ X / B32 ^ s.1 = s.2.1 * d + s.2.2 ∧ B32 ^ s.1 * s.2.1 < B32 ^ n ∧ ρ 0 = vx ∧ ρ 1 = .int .u32 d ∧ ρ 6 = .slice (some ⟨b1, 0, none⟩) n n ∧ ρ 7 = .int .u64 s.2.2 ∧ ρ 8 = .int .i64 ((s.1 : Int) - 1) ∧ St w w' [(b1, 94, Kr .u32 (pad B32 (B32 ^ s.1 * s.2.1) n))]) (fun s => s.1) (n, 0, 0)
    ⟨Nat.le_refl _, hd, by simp only [Nat.zero_mul]; exact Nat.div_eq_of_lt hXn, by simp only [Nat.mul_zero]; omega, rfl, rfl, by rw [hn]; rfl, rfl, vi rfl (by rw [hn]), hS⟩ ?_
  clear hS
  rintro ⟨i, q, r⟩ ρ w3 ⟨hi, hr, hinv, hq, h0, h1, h6, h7, h8, hS⟩
  simp only at hi hr hinv hq h0 h1 h6 h7 h8 hS
  repeat (with_reducible first | apply ag | apply ac | apply af | apply ae | apply ab)
  refine aj ?_
  refine aa rfl (ah  h8 ?_)
  refine aa rfl (df  rfl rfl ?_)
  refine ai ?_
  repeat (with_reducible first | apply ag | apply ac | apply af | apply ae | apply ab)
  by_cases hlt : 0 < i
  · refine aD rfl (decide_eq_true (by omega)) ?_
    repeat (with_reducible first | apply ag | apply ac | apply af | apply ae | apply ab)
    have hil : i - 1 < (aI X).length := by omega
    have x1 := bA X (i - 1)
    have hg : (aI X).getD (i - 1) 0 = dgt B32 X (i - 1) := bh X (i - 1)
    have hor : r * 2 ^ 32 ||| dgt B32 X (i - 1) = dgt B32 X (i - 1) + r * 2 ^ 32 := by rw [Nat.or_comm]; exact fA _ _ _ (by omega)
    repeat (with_reducible first | apply ag | apply ac | apply af | apply ae | apply ab)
    refine aj ?_
    refine aa rfl (ah  h7 ?_)
    refine aa rfl (ef  rfl rfl (by omega) (r := ((r * 2 ^ 32 : Nat) : Int)) (by exact ee r 32 _ (by decide) (aQ _ ⟨rfl, by omega, by omega⟩)) ?_)
    refine aa rfl (ah  h0 ?_)
    refine aa rfl (ah  h8 ?_)
    refine aa rfl (aX (i := i - 1)  rfl rfl (hx.below hS.below) (by omega) (by first | omega | (simp; done) | (simp; omega)) bz ?_)
    refine aw rfl (a6 (i := i - 1) 0  rfl aY (hx.below hS.below) (by first | omega | (simp; done) | (simp; omega)) rfl rfl (.inr rfl) ?_)
    refine aa rfl (aL  rfl Tryz.underlying95 ⟨_, Tryz.underlying94⟩ (r := ((dgt B32 X (i - 1) : Nat) : Int)) (by rw [hg]; exact aQ _ ⟨rfl, by omega, by omega⟩) ?_)
    refine aa rfl (gN  rfl rfl (r := ((dgt B32 X (i - 1) + r * 2 ^ 32 : Nat) : Int)) (by rw [← hor]; exact dR rfl _ _ (by show _ < 18446744073709551616; omega) (by show _ < 18446744073709551616; omega)) ?_)
    refine aa rfl (am  rfl ?_)
    refine ai ?_
    repeat (with_reducible first | apply ag | apply ac | apply af | apply ae | apply ab)
    obtain ⟨t, ht⟩ : ∃ t, t = dgt B32 X (i - 1) + r * 2 ^ 32 := ⟨_, rfl⟩
    rw [← ht]
    have ht1 : t / d ≤ 4294967295 := by
      have : t < d * 4294967296 := by
        have : (r + 1) * 4294967296 ≤ d * 4294967296 := Nat.mul_le_mul_right _ hr
        omega
      have := Nat.div_lt_of_lt_mul this
      omega
    repeat (with_reducible first | apply ag | apply ac | apply af | apply ae | apply ab)
    refine aj ?_
    refine aa rfl (ah  h6 ?_)
    refine aa rfl (ah  h8 ?_)
    refine aa rfl (ah  rfl ?_)
    refine aa rfl (ah  h1 ?_)
    refine aa rfl (aL  rfl Tryz.underlying95 ⟨_, Tryz.underlying94⟩ (r := ((d : Nat) : Int)) (by exact aQ _ ⟨rfl, by omega, by omega⟩) ?_)
    refine aa rfl (gA  rfl rfl (by omega) (IntWalk.u64_quo _ _ (by omega)) ?_)
    refine aa rfl (aL  rfl Tryz.underlying94 ⟨_, Tryz.underlying95⟩ (r := ((t / d : Nat) : Int)) (by exact de _ ⟨by push_cast; rfl, Int.natCast_nonneg _, by generalize t / d = z at ht1 ⊢; omega⟩) ?_)
    refine aa rfl (a7 (i := i - 1)  rfl rfl (by omega) (by first | omega | (simp; done) | (simp; omega)) bz ?_)
    refine ak rfl (cW (k := 0) (i := i - 1) (a := _)  rfl rfl rfl aY hS rfl (by omega) (by first | omega | (simp; done) | (simp; omega)) ?_)
    intro wz3 hS
    refine ai ?_
    repeat (with_reducible first | apply ag | apply ac | apply af | apply ae | apply ab)
    refine aj ?_
    refine aa rfl (ah  rfl ?_)
    refine aa rfl (ah  h1 ?_)
    refine aa rfl (aL  rfl Tryz.underlying95 ⟨_, Tryz.underlying94⟩ (r := ((d : Nat) : Int)) (by exact aQ _ ⟨rfl, by omega, by omega⟩) ?_)
    refine aa rfl (iM  rfl rfl (by omega) (r := ((t % d : Nat) : Int)) (by rw [Int.tmod_eq_emod_of_nonneg (by omega)]; push_cast; rfl) ?_)
    refine aa rfl (am  rfl ?_)
    refine ai ?_
    repeat (with_reducible first | apply ag | apply ac | apply af | apply ae | apply ab)
    obtain ⟨e1, e2⟩ := fw (b := B32) (q := q) (i := i) (e := t / d) (n := n) (by decide) (by unfold B32; omega) hlt hi hq
    rw [List.set_cons_zero, e1] at hS
    repeat (with_reducible first | apply ag | apply ac | apply af | apply ae | apply ab)
    refine aj ?_
    refine aa rfl (ah  h8 ?_)
    refine aa rfl (bG  rfl rfl (IntWalk.i64_in _ (by omega)) ?_)
    refine aa rfl (am  rfl ?_)
    refine ai ?_
    repeat (with_reducible first | apply ag | apply ac | apply af | apply ae | apply ab)
    have hs := di B32 X (i - 1)
    rw [show i - 1 + 1 = i by omega, hinv] at hs
    refine ⟨(i - 1, B32 * q + t / d, t % d), _, rfl, ⟨by simp only; omega, Nat.mod_lt _ hd, ?_, e2, h0, h1, h6, rfl, vi rfl (by simp only; omega), hS⟩, by simp only; omega⟩
    simp only
    have h9 := Nat.div_add_mod t d
    have h10 : B32 = 2 ^ 32 := rfl
    rw [hs, Nat.add_mul, Nat.mul_add, Nat.mul_assoc, Nat.add_assoc, Nat.add_assoc, Nat.mul_comm (t / d) d, h9, ht, h10]
    omega
  · refine aN rfl (decide_eq_false (by omega)) ?_
    repeat (with_reducible first | apply ag | apply ac | apply af | apply ae | apply ab)
    refine aU ?_
    repeat (with_reducible first | apply aA | apply az | refine ay rfl ?_)
    repeat (with_reducible first | apply ag | apply ac | apply af | apply ae | apply ab)
    obtain rfl : i = 0 := by omega
    rw [Nat.pow_zero, Nat.div_one] at hinv
    rw [Nat.pow_zero, Nat.one_mul] at hS hq
    have hqd : X / d = q := by rw [hinv, Nat.add_comm, Nat.add_mul_div_right _ _ hd, Nat.div_eq_of_lt hr, Nat.zero_add]
    have hrd : X % d = r := by rw [hinv, Nat.mul_add_mod_self_right, Nat.mod_eq_of_lt hr]
    have hsl := hS.slk (k := 0) rfl (n := n) (cap := n) (by simp) (Nat.le_refl _) (by omega)
    rw [List.take_of_length_le (by simp)] at hsl
    repeat (with_reducible first | apply ag | apply ac | apply af | apply ae | apply ab)
    refine aj ?_
    refine aa rfl (ah  h6 ?_)
    refine ak rfl (av Tryz.call101 rfl (eo _ _ _ hsl (eb (by decide) _ _)) ?_)
    rintro _ wq4 ⟨hv, hq4⟩
    replace hq4 := hq4.symm
    subst hq4
    refine aa rfl (ah  h7 ?_)
    refine aa rfl (aL  rfl Tryz.underlying94 ⟨_, Tryz.underlying95⟩ (r := ((r : Nat) : Int)) (by exact de _ ⟨rfl, by omega, by omega⟩) ?_)
    refine aa rfl (am  rfl ?_)
    refine aa rfl (am  rfl ?_)
    refine ai ?_
    repeat (with_reducible first | apply ag | apply ac | apply af | apply ae | apply ab)
    refine aE ?_
    repeat (with_reducible first | apply ap | apply ao)
    refine dw rfl rfl rfl ?_
    rw [bQ hq] at hv
    rw [hqd, hrd]
    exact ⟨⟨_, rfl, hv⟩, hS.below⟩
theorem rshifted_ok (vx : Value) (X c n : Nat) (w : World) (hx : Sl (uk .u32) 1 w vx (aI X)) (hc : c < 32) (hn : (aI X).length + 1 = n) (hmx : n ≤ 17592186044416) :
    Ret Tryz.prog 123 #[vx, .int .u64 c] w fun r w' =>
      (∃ b, r = .slice (some ⟨b, 0, none⟩) n n ∧ w.heap.size ≤ b ∧ w'.heap[b]? = some (.cells (Kr .u32 (pad B32 (X * 2 ^ c) n)).toArray 94 (0, 0))) ∧ Below w.heap.size w w' := by
  have hS := St.init w
  obtain ⟨m, hm⟩ : ∃ m, m = (aI X).length := ⟨_, rfl⟩
  have hXm : X < B32 ^ m := hm ▸ ba X
  have hp2 : 2 ^ c ≤ 2 ^ 31 := Nat.pow_le_pow_right (by decide) (by omega)
  have hpos : 0 < 2 ^ c := Nat.pow_pos (by decide)
  refine enter Tryz.func123 rfl Tryz.ntmps123 rfl ?_
  repeat (with_reducible first | apply ag | apply ac | apply af | apply ae | apply ab)
  refine aj ?_
  refine aa rfl (am  rfl ?_)
  refine ai ?_
  repeat (with_reducible first | apply ag | apply ac | apply af | apply ae | apply ab)
  refine aj ?_
  refine aa rfl (ah  rfl ?_)
  refine aa rfl (aG  rfl (hx.below hS.below) ⟨_, Tryz.underlying91⟩ ?_)
  refine aa rfl (aK  rfl rfl (IntWalk.i64_in _ (by omega)) ?_)
  refine ak rfl (c4 (n := n)  rfl rfl bz (by omega) (by omega) (by omega) (by omega) hS ?_)
  intro b1 wz2 hS hBz2
  refine aa rfl (am  rfl ?_)
  refine ai ?_
  repeat (with_reducible first | apply ag | apply ac | apply af | apply ae | apply ab)
  refine aj ?_
  refine aa rfl (am  rfl ?_)
  refine ai ?_
  repeat (with_reducible first | apply ag | apply ac | apply af | apply ae | apply ab)
  rw [← cH B32 n] at hS
  refine a5 (σ := Nat) (fun i ρ w' => i ≤ m ∧ ρ 0 = vx ∧ ρ 1 = .int .u64 c ∧ ρ 5 = .slice (some ⟨b1, 0, none⟩) n n ∧ ρ 6 = .int .i64 i ∧ St w w' [(b1, 94, Kr .u32 (pad B32 (X % B32 ^ i * 2 ^ c) n))]) (fun i => m - i) 0
    ⟨Nat.zero_le _, rfl, rfl, rfl, rfl, by rw [Nat.pow_zero, Nat.mod_one, Nat.zero_mul]; exact hS⟩ ?_
  clear hS
  rintro i ρ w3 ⟨hi, h0, h1, h5, h6, hS⟩
  repeat (with_reducible first | apply ag | apply ac | apply af | apply ae | apply ab)
  refine aj ?_
  refine aa rfl (ah  h6 ?_)
  refine aa rfl (ah  h0 ?_)
  refine aa rfl (aG  rfl (hx.below hS.below) ⟨_, Tryz.underlying91⟩ ?_)
  refine aa rfl (aV  rfl rfl ?_)
  refine ai ?_
  repeat (with_reducible first | apply ag | apply ac | apply af | apply ae | apply ab)
  by_cases hlt : i < m
  · refine aD rfl (decide_eq_true (by omega)) ?_
    repeat (with_reducible first | apply ag | apply ac | apply af | apply ae | apply ab)
    have hil : i < (aI X).length := by omega
    have x1 := bA X i
    obtain ⟨x, hxd⟩ : ∃ x, x = dgt B32 X i := ⟨_, rfl⟩
    rw [← hxd] at x1
    have hx2 : x * 2 ^ c ≤ 4294967295 * 2 ^ 31 := Nat.mul_le_mul x1 hp2
    obtain ⟨V, hV⟩ : ∃ V, V = X % B32 ^ i * 2 ^ c := ⟨_, rfl⟩
    have hVs : X % B32 ^ (i + 1) * 2 ^ c = V + B32 ^ i * (x * 2 ^ c) := by rw [mod_pow_succ, Nat.add_mul, ← hV, Nat.mul_assoc, hxd]
    have hVlt : V < B32 ^ i * 2 ^ c := by rw [hV]; exact Nat.mul_lt_mul_of_pos_right (dV (by decide) X i) hpos
    have hBi : 0 < B32 ^ i := Nat.pow_pos (by decide)
    have hVd : V / B32 ^ i < 2 ^ c := Nat.div_lt_of_lt_mul hVlt
    have hVb : V < B32 ^ (i + 1) := by
      have : B32 ^ i * 2 ^ c ≤ B32 ^ i * B32 := Nat.mul_le_mul_left _ (by unfold B32; omega)
      rw [Nat.pow_succ]; omega
    have hdg : dgt B32 V i = V / B32 ^ i := ed (by decide) hVb
    have hfit := shift_fit (V / B32 ^ i) x c (by omega) hVd
    have hget : (pad B32 V n).getD i 0 = V / B32 ^ i := by rw [cx _ _ (by omega), hdg]
    rw [← hV] at hS
    have hsplit := Nat.div_add_mod (x * 2 ^ c) 4294967296
    have hlow : V + B32 ^ i * ((x * 2 ^ c) % 4294967296) < B32 ^ (i + 1) := by
      have h8 := Nat.div_add_mod V (B32 ^ i)
      have h9 := Nat.mod_lt V hBi
      have h10 : B32 ^ i * (V / B32 ^ i + (x * 2 ^ c) % 4294967296 + 1) ≤ B32 ^ i * B32 := Nat.mul_le_mul_left _ hfit
      rw [Nat.mul_add, Nat.mul_add] at h10
      rw [Nat.pow_succ]; omega
    repeat (with_reducible first | apply ag | apply ac | apply af | apply ae | apply ab)
    refine aj ?_
    refine aa rfl (ah  h0 ?_)
    refine aa rfl (ah  h6 ?_)
    refine aa rfl (aX (i := i)  rfl rfl (hx.below hS.below) (by omega) (by first | omega | (simp; done) | (simp; omega)) bz ?_)
    refine aw rfl (a6 (i := i) 0  rfl aY (hx.below hS.below) (by first | omega | (simp; done) | (simp; omega)) rfl rfl (.inr rfl) ?_)
    refine aa rfl (aL  rfl Tryz.underlying95 ⟨_, Tryz.underlying94⟩ (r := ((x : Nat) : Int)) (by rw [bh, hxd]; exact aQ _ ⟨rfl, by omega, by omega⟩) ?_)
    refine aa rfl (ah  h1 ?_)
    refine aa rfl (ef  rfl rfl (by omega) (ee x c ((x * 2 ^ c : Nat) : Int) (by show c ≤ 64; omega) (aQ _ ⟨rfl, by omega, by omega⟩)) ?_)
    refine aa rfl (am  rfl ?_)
    refine ai ?_
    repeat (with_reducible first | apply ag | apply ac | apply af | apply ae | apply ab)
    refine aj ?_
    refine aa rfl (ah  h5 ?_)
    refine aa rfl (ah  h6 ?_)
    refine aa rfl (ah  h5 ?_)
    refine aa rfl (ah  h6 ?_)
    refine aa rfl (a7 (i := i)  rfl rfl (by omega) (by first | omega | (simp; done) | (simp; omega)) bz ?_)
    refine aw rfl (ct (k := 0) (i := i)  rfl aY hS rfl (by omega) (by first | omega | (simp; done) | (simp; omega)) ?_)
    refine aa rfl (ah  rfl ?_)
    refine aa rfl (aL  rfl Tryz.underlying94 ⟨_, Tryz.underlying95⟩ (dG _) ?_)
    refine aa rfl (gN  rfl rfl (r := ((V / B32 ^ i + (x * 2 ^ c) % 4294967296 : Nat) : Int)) (by rw [hget, ← or_shift _ _ _ (by omega) hVd]; exact dR rfl _ _ (by show _ < 4294967296; omega) (by show _ < 4294967296; omega)) ?_)
    refine aa rfl (a7 (i := i)  rfl rfl (by omega) (by first | omega | (simp; done) | (simp; omega)) bz ?_)
    refine ak rfl (cW (k := 0) (i := i) (a := _)  rfl rfl rfl aY hS rfl (by omega) (by first | omega | (simp; done) | (simp; omega)) ?_)
    intro wz3 hS
    refine ai ?_
    repeat (with_reducible first | apply ag | apply ac | apply af | apply ae | apply ab)
    have hset := ig (b := B32) (v := V) (n := n) (k := i) (x := (x * 2 ^ c) % 4294967296) (by decide) hVb hlow
    rw [hdg] at hset
    rw [List.set_cons_zero, hset] at hS
    have hnext : V + B32 ^ i * ((x * 2 ^ c) % 4294967296) + B32 ^ (i + 1) * (x * 2 ^ c / 4294967296) = X % B32 ^ (i + 1) * 2 ^ c := by
      have : B32 ^ (i + 1) * (x * 2 ^ c / 4294967296) = B32 ^ i * (4294967296 * (x * 2 ^ c / 4294967296)) := by rw [Nat.pow_succ, Nat.mul_assoc]
      rw [hVs, this, Nat.add_assoc, ← Nat.mul_add]
      congr 2; omega
    have hhi : x * 2 ^ c / 4294967296 < 2147483648 := by omega
    repeat (with_reducible first | apply ag | apply ac | apply af | apply ae | apply ab)
    refine aj ?_
    refine aa rfl (ah  h5 ?_)
    refine aa rfl (ah  h6 ?_)
    refine aa rfl (aK  rfl rfl (IntWalk.i64_in _ (by omega)) ?_)
    refine aa rfl (ah  rfl ?_)
    refine aa rfl (dk  rfl rfl (by omega) (r := ((x * 2 ^ c / 4294967296 : Nat) : Int)) (by exact dp _ 32 (by decide)) ?_)
    refine aa rfl (aL  rfl Tryz.underlying94 ⟨_, Tryz.underlying95⟩ (r := ((x * 2 ^ c / 4294967296 : Nat) : Int)) (by exact de _ ⟨rfl, by omega, by omega⟩) ?_)
    refine aa rfl (a7 (i := i + 1)  rfl rfl (by omega) (by first | omega | (simp; done) | (simp; omega)) bz ?_)
    refine ak rfl (cW (k := 0) (i := i + 1) (a := _)  rfl rfl rfl aY hS rfl (by omega) (by first | omega | (simp; done) | (simp; omega)) ?_)
    intro wz4 hS
    refine ai ?_
    repeat (with_reducible first | apply ag | apply ac | apply af | apply ae | apply ab)
    obtain ⟨e1, e2⟩ := fu (b := B32) (r := V + B32 ^ i * ((x * 2 ^ c) % 4294967296)) (i := i + 1) (d := x * 2 ^ c / 4294967296) (n := n) (by decide) hlow (show _ < 4294967296 by omega)
    rw [List.set_cons_zero, e1, hnext] at hS
    repeat (with_reducible first | apply ag | apply ac | apply af | apply ae | apply ab)
    refine aj ?_
    refine aa rfl (ah  h6 ?_)
    refine aa rfl (aK  rfl rfl (IntWalk.i64_in _ (by omega)) ?_)
    refine aa rfl (am  rfl ?_)
    refine ai ?_
    repeat (with_reducible first | apply ag | apply ac | apply af | apply ae | apply ab)
    exact ⟨i + 1, _, rfl, ⟨hlt, h0, h1, h5, vi rfl (by omega), hS⟩, by omega⟩
  · refine aN rfl (decide_eq_false (by omega)) ?_
    repeat (with_reducible first | apply ag | apply ac | apply af | apply ae | apply ab)
    refine aU ?_
    repeat (with_reducible first | apply aA | apply az | refine ay rfl ?_)
    repeat (with_reducible first | apply ag | apply ac | apply af | apply ae | apply ab)
    obtain rfl : i = m := by omega
    rw [Nat.mod_eq_of_lt hXm] at hS
    repeat (with_reducible first | apply ag | apply ac | apply af | apply ae | apply ab)
    refine aj ?_
    refine aa rfl (ah  h5 ?_)
    refine aa rfl (am  rfl ?_)
    refine ai ?_
    repeat (with_reducible first | apply ag | apply ac | apply af | apply ae | apply ab)
    refine aE ?_
    repeat (with_reducible first | apply ap | apply ao)
    refine aR rfl rfl ?_
    exact ⟨⟨b1, rfl, hS.ge (k := 0) rfl, hS.get (k := 0) rfl⟩, hS.below⟩
end Go.Proofs.YtmghobajmhdbfaaGreatDoor
namespace Go.Proofs.YtmghobajmhdbfaaGreatDoor
open Go Go.RowKit Go.Sx
/-- What stands in the slots throughout. -/
structure LF (ρ : Nat → Value) (n s m M bu bv bq : Nat) : Prop where
  h6 : ρ 6 = .int .i64 n
  h7 : ρ 7 = .int .u64 s
  h8 : ρ 8 = .slice (some ⟨bu, 0, none⟩) (m + 1) (m + 1)
  h9 : ρ 9 = .slice (some ⟨bv, 0, none⟩) n (n + 1)
  h10 : ρ 10 = .slice (some ⟨bq, 0, none⟩) M M
theorem set2 (a b c d : Blk) : [a, b, c].set 2 d = [a, b, d] := rfl
theorem and_low (t : Nat) (h : t ≤ 18446744073709551615) : dg .and .u64 (t : Int) 4294967295 = ((t % 4294967296 : Nat) : Int) := by
  rw [show t % 4294967296 = t &&& 4294967295 from (Nat.and_two_pow_sub_one_eq_mod t 32).symm]
  exact go rfl t 4294967295 (by show t < 18446744073709551616; omega) (by decide)
theorem top_sub (x y : Nat) (hx : x ≤ 4294967295) (hy : y ≤ 4294967296) : IntKind.u32.wrap (IntKind.u64.wrap ((x : Int) - (y : Int))) = (((x + 4294967296 - y) % 4294967296 : Nat) : Int) := by
  rw [e7, eW]; omega
theorem top_borrow (x y : Nat) (hx : x ≤ 4294967295) (hy : y ≤ 4294967296) : (x + 4294967296 - y) % 4294967296 + y = x + 4294967296 * (if x < y then 1 else 0) := by
  rcases Nat.lt_or_ge x y with h | h
  · rw [if_pos h]; omega
  · rw [if_neg (by omega)]; omega
set_option maxHeartbeats 4000000 in
theorem rlong_ok (vx vy : Value) (X Y : Nat) (w : World) (hx : Sl (uk .u32) 1 w vx (aI X)) (hy : Sl (uk .u32) 1 w vy (aI Y)) (hYX : Y ≤ X) (hn2 : 2 ≤ (aI Y).length) (hmx : (aI X).length ≤ 4398046511104) :
    Ret Tryz.prog 114 #[vx, vy] w fun r w' => (∃ q s, r = .tuple #[q, s] ∧ Sl (uk .u32) 1 w' q (aI (X / Y)) ∧ Sl (uk .u32) 1 w' s (aI (X % Y))) ∧ Below w.heap.size w w' := by
  have hB : B32 = 4294967296 := rfl
  have hS := St.init w
  obtain ⟨m, hm⟩ : ∃ m, m = (aI X).length := ⟨_, rfl⟩
  obtain ⟨n, hn⟩ : ∃ n, n = (aI Y).length := ⟨_, rfl⟩
  obtain ⟨M, hM⟩ : ∃ M, M = m - n + 1 := ⟨_, rfl⟩
  have hXm : X < B32 ^ m := hm ▸ ba X
  have hYn : Y < B32 ^ n := hn ▸ ba Y
  have hnm : n ≤ m := by rw [hn, hm]; exact cj (by decide) hYX
  have hY0 : 0 < Y := by
    rcases Nat.eq_zero_or_pos Y with h | h
    · rw [h] at hn2; unfold aI at hn2; rw [cA] at hn2; exact absurd hn2 (by decide)
    · exact h
  obtain ⟨hn0, htp⟩ := iw hY0
  rw [← hn] at hn0 htp hn2
  have htl := bA Y (n - 1)
  obtain ⟨x, hxe⟩ : ∃ x, x = dgt B32 Y (n - 1) := ⟨_, rfl⟩
  rw [← hxe] at htp htl
  refine enter Tryz.func114 rfl Tryz.ntmps114 rfl ?_
  repeat (with_reducible first | apply ag | apply ac | apply af | apply ae | apply ab)
  refine aj ?_
  refine aa rfl (am  rfl ?_)
  refine aa rfl (am  rfl ?_)
  refine ai ?_
  repeat (with_reducible first | apply ag | apply ac | apply af | apply ae | apply ab)
  refine aj ?_
  refine aa rfl (ah  rfl ?_)
  refine aa rfl (aG  rfl (hy.below hS.below) ⟨_, Tryz.underlying91⟩ ?_)
  refine aa rfl (am  rfl ?_)
  refine ai ?_
  repeat (with_reducible first | apply ag | apply ac | apply af | apply ae | apply ab)
  refine aj ?_
  refine aa rfl (am  rfl ?_)
  refine ai ?_
  repeat (with_reducible first | apply ag | apply af | apply ae | apply ab)
  refine a9 (fun ρ w' => ∃ s : Nat, s < 32 ∧ x * 2 ^ s < B32 ∧ B32 ≤ 2 * (x * 2 ^ s) ∧ ρ 0 = vx ∧ ρ 1 = vy ∧ ρ 6 = .int .i64 n ∧ ρ 7 = .int .u64 s ∧ St w w' []) ?_ ?_
  · repeat (with_reducible first | apply ag | apply ac | apply af | apply ae | apply ab)
    refine a5 (σ := Nat) (fun s ρ w' => s < 32 ∧ x * 2 ^ s < B32 ∧ ρ 0 = vx ∧ ρ 1 = vy ∧ ρ 6 = .int .i64 n ∧ ρ 7 = .int .u64 s ∧ St w w' []) (fun s => 32 - s) 0
      ⟨by decide, by simp only [Nat.pow_zero, Nat.mul_one]; omega, rfl, rfl, vi rfl (by rw [hn]), rfl, hS⟩ ?_
    clear hS
    rintro s ρ w2 ⟨hs, hxs, h0, h1, h6, h7, hS⟩
    repeat (with_reducible first | apply ag | apply ac | apply af | apply ae | apply ab)
    refine aj ?_
    refine aa rfl (ah  h1 ?_)
    refine aa rfl (ah  h6 ?_)
    refine aa rfl (bG  rfl rfl (IntWalk.i64_in _ (by omega)) ?_)
    refine aa rfl (aX (i := n - 1)  rfl rfl (hy.below hS.below) (by omega) (by first | omega | (simp; done) | (simp; omega)) bz ?_)
    refine aw rfl (a6 (i := n - 1) 0  rfl aY (hy.below hS.below) (by first | omega | (simp; done) | (simp; omega)) rfl rfl (.inr rfl) ?_)
    refine aa rfl (ah  h7 ?_)
    refine aa rfl (ef  rfl rfl (by omega) (r := ((x * 2 ^ s : Nat) : Int)) (by rw [bh, ← hxe]; exact ee x s _ (by show s ≤ 32; omega) (de _ ⟨rfl, by omega, by omega⟩)) ?_)
    refine aa rfl (aV  rfl rfl ?_)
    refine ai ?_
    repeat (with_reducible first | apply ag | apply ac | apply af | apply ae | apply ab)
    by_cases hlt : x * 2 ^ s < 2147483648
    · refine aD rfl (decide_eq_true (by omega)) ?_
      repeat (with_reducible first | apply ag | apply ac | apply af | apply ae | apply ab)
      have hs2 : s + 1 < 32 := by
        rcases Nat.lt_or_ge (s + 1) 32 with g | g
        · exact g
        · exfalso
          obtain rfl : s = 31 := by omega
          have : 1 * 2 ^ 31 ≤ x * 2 ^ 31 := Nat.mul_le_mul_right _ htp
          omega
      repeat (with_reducible first | apply ag | apply ac | apply af | apply ae | apply ab)
      refine aj ?_
      refine aa rfl (ah  h7 ?_)
      refine aa rfl (aK  rfl rfl (IntWalk.u64_in _ (by omega)) ?_)
      refine aa rfl (am  rfl ?_)
      refine ai ?_
      repeat (with_reducible first | apply ag | apply ac | apply af | apply ae | apply ab)
      refine ⟨s + 1, _, rfl, ⟨hs2, ?_, h0, h1, h6, vi rfl (by omega), hS⟩, by omega⟩
      rw [Nat.pow_succ, ← Nat.mul_assoc]; omega
    · refine aN rfl (decide_eq_false (by omega)) ?_
      repeat (with_reducible first | apply ag | apply ac | apply af | apply ae | apply ab)
      refine aU ?_
      repeat (with_reducible first | apply aA | apply az | refine ay rfl ?_)
      repeat (with_reducible first | apply ag | apply ac | apply af | apply ae | apply ab)
      exact ⟨_, rfl, s, hs, hxs, by omega, h0, h1, h6, h7, hS⟩
  clear hS
  rintro ρ w2 ⟨s, hs, hxs, hxs2, h0, h1, h6, h7, hS⟩
  repeat (with_reducible first | apply ag | apply ac | apply af | apply ae | apply ab)
  rw [hxe] at hxs hxs2
  obtain ⟨hD, hD2⟩ := norm_law hn0 hYn hs hxs hxs2
  have hpc : 0 < 2 ^ s := Nat.pow_pos (by decide)
  have hpc2 : 2 ^ s ≤ 2 ^ 31 := Nat.pow_le_pow_right (by decide) (by omega)
  obtain ⟨D, hDe⟩ : ∃ D, D = Y * 2 ^ s := ⟨_, rfl⟩
  rw [← hDe] at hD hD2
  have hD0 : 0 < D := by rw [hDe]; exact Nat.mul_pos hY0 hpc
  have hUD : X * 2 ^ s < D * B32 ^ (m - n + 1) := by
    have h3 : X * 2 ^ s < B32 ^ m * 2 ^ s := Nat.mul_lt_mul_of_pos_right hXm hpc
    have h4 : B32 ^ m * 2 ^ s ≤ B32 ^ m * 2 ^ 31 := Nat.mul_le_mul_left _ hpc2
    have h5 : B32 ^ n * B32 ^ (m - n + 1) = B32 ^ m * B32 := by rw [← Nat.pow_add, ← Nat.pow_succ]; congr 1; omega
    have h6 : B32 ^ n * B32 ^ (m - n + 1) ≤ 2 * D * B32 ^ (m - n + 1) := Nat.mul_le_mul_right _ hD2
    rw [Nat.mul_assoc] at h6
    have h7 : B32 ^ m * B32 = B32 ^ m * 4294967296 := rfl
    omega
  rw [← hM] at hUD
  clear hxs hxs2 hXm
  repeat (with_reducible first | apply ag | apply ac | apply af | apply ae | apply ab)
  refine aj ?_
  refine aa rfl (ah  h0 ?_)
  refine aa rfl (ah  h7 ?_)
  refine ak rfl (av Tryz.call123 rfl (rshifted_ok _ X s (m + 1) _ (hx.below hS.below) hs (by omega) (by omega)) ?_)
  rintro r w3 ⟨⟨bu, rfl, hbu1, hbu2⟩, hB3⟩
  replace hS := hS.push hB3 hbu1 hbu2
  refine aa rfl (am  rfl ?_)
  refine ai ?_
  repeat (with_reducible first | apply ag | apply ac | apply af | apply ae | apply ab)
  refine aj ?_
  refine aa rfl (ah  h1 ?_)
  refine aa rfl (ah  h7 ?_)
  refine ak rfl (av Tryz.call123 rfl (rshifted_ok _ Y s (n + 1) _ (hy.below hS.below) hs (by omega) (by omega)) ?_)
  rintro r w4 ⟨⟨bv, rfl, hbv1, hbv2⟩, hB4⟩
  replace hS := hS.push hB4 hbv1 hbv2
  rw [← hDe] at hS
  refine aa rfl (ah  h6 ?_)
  refine aa rfl (s_suboh (hi := n)  rfl rfl rfl (by omega) bz ?_)
  refine aa rfl (am  rfl ?_)
  refine ai ?_
  repeat (with_reducible first | apply ag | apply ac | apply af | apply ae | apply ab)
  refine aj ?_
  refine aa rfl (ah  h0 ?_)
  refine aa rfl (aG  rfl (hx.below hS.below) ⟨_, Tryz.underlying91⟩ ?_)
  refine aa rfl (ah  h6 ?_)
  refine aa rfl (bG  rfl rfl (IntWalk.i64_in _ (by omega)) ?_)
  refine aa rfl (aK  rfl rfl (IntWalk.i64_in _ (by omega)) ?_)
  refine ak rfl (c4 (n := M)  rfl rfl bz (by omega) (by omega) (by omega) (by omega) hS ?_)
  intro b1 wz2 hS hBz2
  refine aa rfl (am  rfl ?_)
  refine ai ?_
  repeat (with_reducible first | apply ag | apply ac | apply af | apply ae | apply ab)
  refine aj ?_
  refine aa rfl (ah  h0 ?_)
  refine aa rfl (aG  rfl (hx.below hS.below) ⟨_, Tryz.underlying91⟩ ?_)
  refine aa rfl (ah  h6 ?_)
  refine aa rfl (bG  rfl rfl (IntWalk.i64_in _ (by omega)) ?_)
  refine aa rfl (am  rfl ?_)
  refine ai ?_
  repeat (with_reducible first | apply ag | apply ac | apply af | apply ae | apply ab)
  rw [← cH, show 0 = B32 ^ M * 0 by rw [Nat.mul_zero]] at hS
  refine a5 (σ := Nat × Nat × Nat) (fun t ρ w' => t.1 ≤ M ∧ X * 2 ^ s = t.2.1 * D * B32 ^ t.1 + t.2.2 ∧ t.2.2 < D * B32 ^ t.1 ∧ LF ρ n s m M bu bv b1 ∧ ρ 11 = .int .i64 ((t.1 : Int) - 1) ∧
      St w w' [(b1, 94, Kr .u32 (pad B32 (B32 ^ t.1 * t.2.1) M)), (bv, 94, Kr .u32 (pad B32 D (n + 1))), (bu, 94, Kr .u32 (pad B32 t.2.2 (m + 1)))]) (fun t => t.1) (M, 0, X * 2 ^ s)
    ⟨Nat.le_refl _, by simp, hUD, ⟨h6, h7, rfl, rfl, rfl⟩, vi rfl (by omega), hS⟩ ?_
  clear hS h0 h1 h6 h7
  rintro ⟨k, Q, V⟩ ρ w6 ⟨hk, hinv, hV, hF, h11, hS⟩
  simp only at hk hinv hV h11 hS
  repeat (with_reducible first | apply ag | apply ac | apply af | apply ae | apply ab)
  refine aj ?_
  refine aa rfl (ah  h11 ?_)
  refine aa rfl (df  rfl rfl ?_)
  refine ai ?_
  repeat (with_reducible first | apply ag | apply ac | apply af | apply ae | apply ab)
  by_cases hk0 : 0 < k
  · refine aD rfl (decide_eq_true (by omega)) ?_
    repeat (with_reducible first | apply ag | apply ac | apply af | apply ae | apply ab)
    have hpk : 0 < B32 ^ (k - 1) := Nat.pow_pos (by decide)
    have hkk : B32 ^ k = B32 ^ (k - 1) * B32 := by rw [← Nat.pow_succ]; congr 1; omega
    have hVs : V % B32 ^ (k - 1) + B32 ^ (k - 1) * (V / B32 ^ (k - 1)) = V := Nat.mod_add_div _ _
    have hU : V / B32 ^ (k - 1) < D * B32 := by
      refine Nat.div_lt_of_lt_mul ?_
      rw [hkk] at hV
      rw [Nat.mul_left_comm]; exact hV
    have hlo : V % B32 ^ (k - 1) < B32 ^ (k - 1) := Nat.mod_lt _ hpk
    obtain ⟨lo, hloe⟩ : ∃ lo, lo = V % B32 ^ (k - 1) := ⟨_, rfl⟩
    obtain ⟨U, hUe⟩ : ∃ U, U = V / B32 ^ (k - 1) := ⟨_, rfl⟩
    rw [← hloe, ← hUe] at hVs
    rw [← hUe] at hU
    rw [← hloe] at hlo
    clear hloe hUe
    obtain ⟨j, hj⟩ : ∃ j, j = k - 1 := ⟨_, rfl⟩
    rw [← hj] at hpk hkk hVs hlo
    have hq0 : U / D < B32 := Nat.div_lt_of_lt_mul hU
    have hQ : B32 ^ k * Q < B32 ^ M := by
      rcases Nat.lt_or_ge (B32 ^ k * Q) (B32 ^ M) with h | h
      · exact h
      · exfalso
        have h3 : D * B32 ^ M ≤ D * (B32 ^ k * Q) := Nat.mul_le_mul_left _ h
        have h4 : D * (B32 ^ k * Q) = Q * D * B32 ^ k := by ac_rfl
        omega
    obtain ⟨eq1, eq2⟩ := fw (b := B32) (q := Q) (i := k) (e := U / D) (n := M) (by decide) hq0 hk0 hk hQ
    have hinv2 : X * 2 ^ s = (B32 * Q + U / D) * D * B32 ^ j + (lo + B32 ^ j * (U % D)) := by
      have g1 := Nat.div_add_mod U D
      have g2 : B32 ^ j * U = B32 ^ j * (D * (U / D)) + B32 ^ j * (U % D) := by rw [← Nat.mul_add, g1]
      have g3 : (B32 * Q + U / D) * D * B32 ^ j = Q * D * B32 ^ k + B32 ^ j * (D * (U / D)) := by
        rw [hkk, Nat.add_mul, Nat.add_mul]; congr 1 <;> ac_rfl
      rw [g3, hinv, ← hVs, g2]; omega
    have hV2 : lo + B32 ^ j * (U % D) < D * B32 ^ j := by
      have g1 : U % D + 1 ≤ D := Nat.mod_lt _ hD0
      have g2 : B32 ^ j * (U % D + 1) ≤ B32 ^ j * D := Nat.mul_le_mul_left _ g1
      rw [Nat.mul_comm D, Nat.mul_add] at *
      omega
    rw [← hVs] at hS
    clear hinv hV hVs hQ hUD
    -- one digit of the quotient
    have hjm : j + n + 1 ≤ m + 1 := by omega
    have h11' : ρ 11 = .int .i64 (j : Int) := h11.trans (congrArg (Value.int IntKind.i64) (by omega))
    clear h11
    have hkn := Kn.of n U D hn2 hD hD2 hU
    have hU1 : U < B32 ^ (n + 1) := by
      rw [Nat.pow_succ]
      exact Nat.lt_trans hU (Nat.mul_lt_mul_of_pos_right hD (by decide))
    have hgU : ∀ Z i, i ≤ n → (pad B32 (lo + B32 ^ j * Z) (m + 1)).getD (j + i) 0 = dgt B32 Z i := fun Z i hi => by rw [cx _ _ (by omega), dgt_off (by decide) hlo]
    have hgD : ∀ i, i < n + 1 → (pad B32 D (n + 1)).getD i 0 = dgt B32 D i := fun i hi => cx _ _ hi
    have hgd1 := hgD (n - 1) (by omega)
    have hgd2 := hgD (n - 2) (by omega)
    have a0 := bA U n
    have a1 := bA U (n - 1)
    have a2 := bA U (n - 2)
    have c1 := bA D (n - 1)
    have c2 := bA D (n - 2)
    have hd1 := hkn.h1
    obtain ⟨top, htop⟩ : ∃ top, top = dgt B32 U n * B32 + dgt B32 U (n - 1) := ⟨_, rfl⟩
    have htop2 : top = dgt B32 U (n - 1) + dgt B32 U n * 2 ^ 32 := by rw [htop, Nat.add_comm]
    have hor : dgt B32 U n * 2 ^ 32 ||| dgt B32 U (n - 1) = top := by rw [Nat.or_comm, fA _ _ _ (by omega), htop2]
    have htl2 : top ≤ 18446744073709551615 := by rw [htop]; omega
    have hgn1 : (pad B32 (lo + B32 ^ j * U) (m + 1)).getD (j + n - 1) 0 = dgt B32 U (n - 1) := by rw [show j + n - 1 = j + (n - 1) by omega]; exact hgU U _ (by omega)
    have hgn2 : (pad B32 (lo + B32 ^ j * U) (m + 1)).getD (j + n - 2) 0 = dgt B32 U (n - 2) := by rw [show j + n - 2 = j + (n - 2) by omega]; exact hgU U _ (by omega)
    repeat (with_reducible first | apply ag | apply ac | apply af | apply ae | apply ab)
    refine bm [(0, .pure), (1, .pure), (2, .pure), (3, .pure), (4, .pure), (5, .read), (6, .pure), (7, .pure), (8, .pure), (9, .pure), (10, .pure), (11, .pure), (12, .pure), (13, .pure), (14, .read), (15, .pure), (16, .pure), (17, .pure)] (by kernel_rfl) (by kernel_rfl) hS ?_
    intro wz3 hS hBz3
    refine al rfl rfl (ah  hF.h8 ?_)
    refine al rfl rfl (ah  h11' ?_)
    refine al rfl rfl (ah  hF.h6 ?_)
    refine al rfl rfl (aK  rfl rfl (IntWalk.i64_in _ (by omega)) ?_)
    refine al rfl rfl (a7 (i := j + n)  rfl rfl (by omega) (by first | omega | (simp; done) | (simp; omega)) bz ?_)
    refine aF rfl rfl (ct (k := 2) (i := j + n)  rfl aY hS rfl (by omega) (by first | omega | (simp; done) | (simp; omega)) ?_)
    refine al rfl rfl (aL  rfl Tryz.underlying95 ⟨_, Tryz.underlying94⟩ (r := ((dgt B32 U n : Nat) : Int)) (by rw [hgU U n (by omega)]; exact aQ _ ⟨rfl, by omega, by omega⟩) ?_)
    refine al rfl rfl (ef  rfl rfl (by omega) (r := ((dgt B32 U n * 2 ^ 32 : Nat) : Int)) (by exact ee _ 32 _ (by decide) (aQ _ ⟨rfl, by omega, by omega⟩)) ?_)
    refine al rfl rfl (ah  hF.h8 ?_)
    refine al rfl rfl (ah  h11' ?_)
    refine al rfl rfl (ah  hF.h6 ?_)
    refine al rfl rfl (aK  rfl rfl (IntWalk.i64_in _ (by omega)) ?_)
    refine al rfl rfl (bG  rfl rfl (IntWalk.i64_in _ (by omega)) ?_)
    refine al rfl rfl (a7 (i := j + n - 1)  rfl rfl (by omega) (by first | omega | (simp; done) | (simp; omega)) bz ?_)
    refine aF rfl rfl (ct (k := 2) (i := j + n - 1)  rfl aY hS rfl (by omega) (by first | omega | (simp; done) | (simp; omega)) ?_)
    refine al rfl rfl (aL  rfl Tryz.underlying95 ⟨_, Tryz.underlying94⟩ (r := ((dgt B32 U (n - 1) : Nat) : Int)) (by rw [hgn1]; exact aQ _ ⟨rfl, by omega, by omega⟩) ?_)
    refine al rfl rfl (gN  rfl rfl (r := ((top : Nat) : Int)) (by rw [← hor]; exact dR rfl _ _ (by show _ < 18446744073709551616; omega) (by show _ < 18446744073709551616; omega)) ?_)
    refine al rfl rfl (am  rfl ?_)
    refine bC ?_
    repeat (with_reducible first | apply ag | apply ac | apply af | apply ae | apply ab)
    refine aj ?_
    refine aa rfl (ah  rfl ?_)
    refine aa rfl (ah  hF.h9 ?_)
    refine aa rfl (ah  hF.h6 ?_)
    refine aa rfl (bG  rfl rfl (IntWalk.i64_in _ (by omega)) ?_)
    refine aa rfl (a7 (i := n - 1)  rfl rfl (by omega) (by first | omega | (simp; done) | (simp; omega)) bz ?_)
    refine aw rfl (ct (k := 1) (i := n - 1)  rfl aY hS rfl (by omega) (by first | omega | (simp; done) | (simp; omega)) ?_)
    refine aa rfl (aL  rfl Tryz.underlying95 ⟨_, Tryz.underlying94⟩ (r := ((dgt B32 D (n - 1) : Nat) : Int)) (by rw [hgd1]; exact aQ _ ⟨rfl, by omega, by omega⟩) ?_)
    refine aa rfl (gA  rfl rfl (by omega) (r := ((top / dgt B32 D (n - 1) : Nat) : Int)) (by rw [IntWalk.u64_quo _ _ (by omega)]; push_cast; rfl) ?_)
    refine aa rfl (am  rfl ?_)
    refine ai ?_
    repeat (with_reducible first | apply ag | apply ac | apply af | apply ae | apply ab)
    refine aj ?_
    refine aa rfl (ah  rfl ?_)
    refine aa rfl (ah  hF.h9 ?_)
    refine aa rfl (ah  hF.h6 ?_)
    refine aa rfl (bG  rfl rfl (IntWalk.i64_in _ (by omega)) ?_)
    refine aa rfl (a7 (i := n - 1)  rfl rfl (by omega) (by first | omega | (simp; done) | (simp; omega)) bz ?_)
    refine aw rfl (ct (k := 1) (i := n - 1)  rfl aY hS rfl (by omega) (by first | omega | (simp; done) | (simp; omega)) ?_)
    refine aa rfl (aL  rfl Tryz.underlying95 ⟨_, Tryz.underlying94⟩ (r := ((dgt B32 D (n - 1) : Nat) : Int)) (by rw [hgd1]; exact aQ _ ⟨rfl, by omega, by omega⟩) ?_)
    refine aa rfl (iM  rfl rfl (by omega) (r := ((top % dgt B32 D (n - 1) : Nat) : Int)) (by rw [Int.tmod_eq_emod_of_nonneg (by omega)]; push_cast; rfl) ?_)
    refine aa rfl (am  rfl ?_)
    refine ai ?_
    repeat (with_reducible first | apply ag | apply af | apply ae | apply ab)
    refine a9 (fun ρ w' => ∃ g, g < B32 ∧ U / D ≤ g ∧ g ≤ U / D + 1 ∧ LF ρ n s m M bu bv b1 ∧ ρ 11 = .int .i64 j ∧ ρ 13 = .int .u64 g ∧
        St w w' [(b1, 94, Kr .u32 (pad B32 (B32 ^ k * Q) M)), (bv, 94, Kr .u32 (pad B32 D (n + 1))), (bu, 94, Kr .u32 (pad B32 (lo + B32 ^ j * U) (m + 1)))]) ?_ ?_
    · repeat (with_reducible first | apply ag | apply ac | apply af | apply ae | apply ab)
      refine a5 (σ := Nat × Nat) (fun t ρ w' => t.1 * dgt B32 D (n - 1) + t.2 = top ∧ U / D ≤ t.1 ∧ t.2 < B32 ∧ LF ρ n s m M bu bv b1 ∧ ρ 11 = .int .i64 j ∧ ρ 13 = .int .u64 t.1 ∧ ρ 14 = .int .u64 t.2 ∧
          St w w' [(b1, 94, Kr .u32 (pad B32 (B32 ^ k * Q) M)), (bv, 94, Kr .u32 (pad B32 D (n + 1))), (bu, 94, Kr .u32 (pad B32 (lo + B32 ^ j * U) (m + 1)))]) (fun t => t.1) (top / dgt B32 D (n - 1), top % dgt B32 D (n - 1))
        ⟨by simp only; rw [Nat.mul_comm]; exact Nat.div_add_mod _ _, by simp only; rw [htop]; exact hkn.q_le_top, by simp only; have := Nat.mod_lt top hd1; omega, ⟨hF.h6, hF.h7, hF.h8, hF.h9, hF.h10⟩, h11', rfl, rfl, hS⟩ ?_
      clear hS hF h11'
      rintro ⟨g, r⟩ ρ w3 ⟨hinv, hgq, hr, hF, h11, h13, h14, hS⟩
      simp only at hinv hgq hr h13 h14 hS
      have hgt : g ≤ top := by
        have : g * 1 ≤ g * dgt B32 D (n - 1) := Nat.mul_le_mul_left _ hd1
        omega
      repeat (with_reducible first | apply ag | apply ac | apply af | apply ae | apply ab)
      by_cases hgB : B32 ≤ g
      · repeat (with_reducible first | apply ag | apply ac | apply af | apply ae | apply ab)
        refine bm [(0, .pure), (1, .pure), (2, .pure), (3, .pure), (4, .pure), (5, .pure), (6, .pure), (7, .pure), (8, .read), (9, .pure), (10, .pure), (11, .pure), (12, .pure), (13, .pure), (14, .pure), (15, .pure), (16, .pure), (17, .pure), (18, .pure), (19, .read), (20, .pure), (21, .pure), (22, .pure), (23, .pure)] (by kernel_rfl) (by kernel_rfl) hS ?_
        intro wz4 hS hBz4
        refine al rfl rfl (ah  h13 ?_)
        refine al rfl rfl (df  rfl rfl ?_)
        refine al rfl rfl (ah  rfl ?_)
        refine bW rfl (au 95 (by kernel_rfl) rfl (decide_eq_true (by omega))) ?_
        refine bW rfl (au 95 (by kernel_rfl) rfl (decide_eq_true (by omega))) ?_
        refine bW rfl (au 95 (by kernel_rfl) rfl (decide_eq_true (by omega))) ?_
        refine bW rfl (au 95 (by kernel_rfl) rfl (decide_eq_true (by omega))) ?_
        refine bW rfl (au 95 (by kernel_rfl) rfl (decide_eq_true (by omega))) ?_
        refine bW rfl (au 95 (by kernel_rfl) rfl (decide_eq_true (by omega))) ?_
        refine bW rfl (au 95 (by kernel_rfl) rfl (decide_eq_true (by omega))) ?_
        refine bW rfl (au 95 (by kernel_rfl) rfl (decide_eq_true (by omega))) ?_
        refine bW rfl (au 95 (by kernel_rfl) rfl (decide_eq_true (by omega))) ?_
        refine bW rfl (au 95 (by kernel_rfl) rfl (decide_eq_true (by omega))) ?_
        refine bW rfl (au 95 (by kernel_rfl) rfl (decide_eq_true (by omega))) ?_
        refine bW rfl (au 95 (by kernel_rfl) rfl (decide_eq_true (by omega))) ?_
        refine bW rfl (au 95 (by kernel_rfl) rfl (decide_eq_true (by omega))) ?_
        refine bW rfl (au 95 (by kernel_rfl) rfl (decide_eq_true (by omega))) ?_
        refine bW rfl (au 95 (by kernel_rfl) rfl (decide_eq_true (by omega))) ?_
        refine bW rfl (au 95 (by kernel_rfl) rfl (decide_eq_true (by omega))) ?_
        refine bW rfl (au 95 (by kernel_rfl) rfl (decide_eq_true (by omega))) ?_
        refine bW rfl (au 95 (by kernel_rfl) rfl (decide_eq_true (by omega))) ?_
        refine bW rfl (au 95 (by kernel_rfl) rfl (decide_eq_true (by omega))) ?_
        refine bW rfl (au 95 (by kernel_rfl) rfl (decide_eq_true (by omega))) ?_
        refine al rfl rfl (aJ (vb rfl (decide_eq_true (by omega))) rfl ?_)
        refine bC ?_
        repeat (with_reducible first | apply ag | apply ac | apply af | apply ae | apply ab)
        refine aD rfl (rfl) ?_
        repeat (with_reducible first | apply ag | apply ac | apply af | apply ae | apply ab)
        have hgq2 : U / D < g := by omega
        have hg0 : 0 < g := Nat.lt_of_le_of_lt (Nat.zero_le _) hgq2
        have hg1 : U / D ≤ g - 1 := Nat.le_sub_one_of_lt hgq2
        repeat (with_reducible first | apply ag | apply ac | apply af | apply ae | apply ab)
        refine aj ?_
        refine aa rfl (ah  h13 ?_)
        refine aa rfl (bG  rfl rfl (IntWalk.u64_in _ (by omega)) ?_)
        refine aa rfl (am  rfl ?_)
        refine ai ?_
        repeat (with_reducible first | apply ag | apply ac | apply af | apply ae | apply ab)
        have hgd : (g - 1) * dgt B32 D (n - 1) + (r + dgt B32 D (n - 1)) = top := by
          obtain ⟨g', rfl⟩ : ∃ g', g = g' + 1 := ⟨g - 1, by omega⟩
          rw [Nat.add_mul, Nat.one_mul] at hinv
          rw [Nat.add_sub_cancel]; omega
        repeat (with_reducible first | apply ag | apply ac | apply af | apply ae | apply ab)
        refine aj ?_
        refine aa rfl (ah  h14 ?_)
        refine aa rfl (ah  hF.h9 ?_)
        refine aa rfl (ah  hF.h6 ?_)
        refine aa rfl (bG  rfl rfl (IntWalk.i64_in _ (by omega)) ?_)
        refine aa rfl (a7 (i := n - 1)  rfl rfl (by omega) (by first | omega | (simp; done) | (simp; omega)) bz ?_)
        refine aw rfl (ct (k := 1) (i := n - 1)  rfl aY hS rfl (by omega) (by first | omega | (simp; done) | (simp; omega)) ?_)
        refine aa rfl (aL  rfl Tryz.underlying95 ⟨_, Tryz.underlying94⟩ (r := ((dgt B32 D (n - 1) : Nat) : Int)) (by rw [hgd1]; exact aQ _ ⟨rfl, by omega, by omega⟩) ?_)
        refine aa rfl (aK  rfl rfl (r := ((r + dgt B32 D (n - 1) : Nat) : Int)) (by exact aQ _ ⟨by push_cast; rfl, by omega, by omega⟩) ?_)
        refine aa rfl (am  rfl ?_)
        refine ai ?_
        repeat (with_reducible first | apply ag | apply ac | apply af | apply ae | apply ab)
        refine aj ?_
        refine aa rfl (ah  rfl ?_)
        refine aa rfl (df  rfl rfl ?_)
        refine ai ?_
        repeat (with_reducible first | apply ag | apply ac | apply af | apply ae | apply ab)
        by_cases hbrk : B32 ≤ r + dgt B32 D (n - 1)
        · refine aD rfl (decide_eq_true (by omega)) ?_
          refine aU ?_
          repeat (with_reducible first | apply aA | apply az | refine ay rfl ?_)
          repeat (with_reducible first | apply ag | apply ac | apply af | apply ae | apply ab)
          have hgB : g - 1 < B32 := by
            rcases Nat.lt_or_ge (g - 1) B32 with h | h
            · exact h
            · exfalso
              have h1 : B32 * dgt B32 D (n - 1) ≤ (g - 1) * dgt B32 D (n - 1) := Nat.mul_le_mul_right _ h
              have h2 := hkn.top_le
              rw [← htop, Nat.mul_comm] at h2
              omega
          have hgq := hkn.rest (by rw [← htop]; exact hgd) (by omega) hbrk
          exact ⟨_, rfl, g - 1, hgB, hg1, by omega, ⟨hF.h6, hF.h7, hF.h8, hF.h9, hF.h10⟩, h11, vi rfl (by omega), hS⟩
        · refine aN rfl (decide_eq_false (by omega)) ?_
          repeat (with_reducible first | apply ag | apply ac | apply af | apply ae | apply ab)
          refine ⟨(g - 1, r + dgt B32 D (n - 1)), _, rfl, ⟨hgd, hg1, by simp only; omega, ⟨hF.h6, hF.h7, hF.h8, hF.h9, hF.h10⟩, h11, vi rfl (by simp only; omega), rfl, hS⟩, by simp only; omega⟩
      · have hgd2' : g * dgt B32 D (n - 2) ≤ 4294967295 * 4294967295 := Nat.mul_le_mul (by omega) c2
        have hor2 : r * 2 ^ 32 ||| dgt B32 U (n - 2) = r * 4294967296 + dgt B32 U (n - 2) := by rw [Nat.or_comm, fA _ _ _ (by omega), Nat.add_comm]
        repeat (with_reducible first | apply ag | apply ac | apply af | apply ae | apply ab)
        refine bm [(0, .pure), (1, .pure), (2, .pure), (3, .pure), (4, .pure), (5, .pure), (6, .pure), (7, .pure), (8, .read), (9, .pure), (10, .pure), (11, .pure), (12, .pure), (13, .pure), (14, .pure), (15, .pure), (16, .pure), (17, .pure), (18, .pure), (19, .read), (20, .pure), (21, .pure), (22, .pure), (23, .pure)] (by kernel_rfl) (by kernel_rfl) hS ?_
        intro wz5 hS hBz5
        refine al rfl rfl (ah  h13 ?_)
        refine al rfl rfl (df  rfl rfl ?_)
        refine al rfl rfl (ah  rfl ?_)
        refine al rfl (ar 95 (by kernel_rfl) rfl (decide_eq_false (by omega))) (ah  h13 ?_)
        refine al rfl (ar 95 (by kernel_rfl) rfl (decide_eq_false (by omega))) (ah  hF.h9 ?_)
        refine al rfl (ar 95 (by kernel_rfl) rfl (decide_eq_false (by omega))) (ah  hF.h6 ?_)
        refine al rfl (ar 95 (by kernel_rfl) rfl (decide_eq_false (by omega))) (bG  rfl rfl (IntWalk.i64_in _ (by omega)) ?_)
        refine al rfl (ar 95 (by kernel_rfl) rfl (decide_eq_false (by omega))) (a7 (i := n - 2)  rfl rfl (by omega) (by first | omega | (simp; done) | (simp; omega)) bz ?_)
        refine aF rfl (ar 95 (by kernel_rfl) rfl (decide_eq_false (by omega))) (ct (k := 1) (i := n - 2)  rfl aY hS rfl (by omega) (by first | omega | (simp; done) | (simp; omega)) ?_)
        refine al rfl (ar 95 (by kernel_rfl) rfl (decide_eq_false (by omega))) (aL  rfl Tryz.underlying95 ⟨_, Tryz.underlying94⟩ (r := ((dgt B32 D (n - 2) : Nat) : Int)) (by rw [hgd2]; exact aQ _ ⟨rfl, by omega, by omega⟩) ?_)
        refine al rfl (ar 95 (by kernel_rfl) rfl (decide_eq_false (by omega))) (f5  rfl rfl (r := ((g * dgt B32 D (n - 2) : Nat) : Int)) (by exact aQ _ ⟨by push_cast; rfl, by omega, by omega⟩) ?_)
        refine al rfl (ar 95 (by kernel_rfl) rfl (decide_eq_false (by omega))) (ah  h14 ?_)
        refine al rfl (ar 95 (by kernel_rfl) rfl (decide_eq_false (by omega))) (ef  rfl rfl (by omega) (r := ((r * 2 ^ 32 : Nat) : Int)) (by exact ee _ 32 _ (by decide) (aQ _ ⟨rfl, by omega, by omega⟩)) ?_)
        refine al rfl (ar 95 (by kernel_rfl) rfl (decide_eq_false (by omega))) (ah  hF.h8 ?_)
        refine al rfl (ar 95 (by kernel_rfl) rfl (decide_eq_false (by omega))) (ah  h11 ?_)
        refine al rfl (ar 95 (by kernel_rfl) rfl (decide_eq_false (by omega))) (ah  hF.h6 ?_)
        refine al rfl (ar 95 (by kernel_rfl) rfl (decide_eq_false (by omega))) (aK  rfl rfl (IntWalk.i64_in _ (by omega)) ?_)
        refine al rfl (ar 95 (by kernel_rfl) rfl (decide_eq_false (by omega))) (bG  rfl rfl (IntWalk.i64_in _ (by omega)) ?_)
        refine al rfl (ar 95 (by kernel_rfl) rfl (decide_eq_false (by omega))) (a7 (i := j + n - 2)  rfl rfl (by omega) (by first | omega | (simp; done) | (simp; omega)) bz ?_)
        refine aF rfl (ar 95 (by kernel_rfl) rfl (decide_eq_false (by omega))) (ct (k := 2) (i := j + n - 2)  rfl aY hS rfl (by omega) (by first | omega | (simp; done) | (simp; omega)) ?_)
        refine al rfl (ar 95 (by kernel_rfl) rfl (decide_eq_false (by omega))) (aL  rfl Tryz.underlying95 ⟨_, Tryz.underlying94⟩ (r := ((dgt B32 U (n - 2) : Nat) : Int)) (by rw [hgn2]; exact aQ _ ⟨rfl, by omega, by omega⟩) ?_)
        refine al rfl (ar 95 (by kernel_rfl) rfl (decide_eq_false (by omega))) (gN  rfl rfl (r := ((r * 4294967296 + dgt B32 U (n - 2) : Nat) : Int)) (by rw [← hor2]; exact dR rfl _ _ (by show _ < 18446744073709551616; omega) (by show _ < 18446744073709551616; omega)) ?_)
        refine al rfl (ar 95 (by kernel_rfl) rfl (decide_eq_false (by omega))) (cf  rfl rfl ?_)
        refine al rfl rfl (aJ (vb rfl (decide_eq_false (by omega))) rfl ?_)
        refine bC ?_
        repeat (with_reducible first | apply ag | apply ac | apply af | apply ae | apply ab)
        by_cases href : r * 4294967296 + dgt B32 U (n - 2) < g * dgt B32 D (n - 2)
        · refine aD rfl (decide_eq_true (by exact_mod_cast href)) ?_
          repeat (with_reducible first | apply ag | apply ac | apply af | apply ae | apply ab)
          have hgq2 : U / D < g := hkn.refuted (by rw [← htop]; exact hinv) hgq href
          have hg0 : 0 < g := Nat.lt_of_le_of_lt (Nat.zero_le _) hgq2
          have hg1 : U / D ≤ g - 1 := Nat.le_sub_one_of_lt hgq2
          repeat (with_reducible first | apply ag | apply ac | apply af | apply ae | apply ab)
          refine aj ?_
          refine aa rfl (ah  h13 ?_)
          refine aa rfl (bG  rfl rfl (IntWalk.u64_in _ (by omega)) ?_)
          refine aa rfl (am  rfl ?_)
          refine ai ?_
          repeat (with_reducible first | apply ag | apply ac | apply af | apply ae | apply ab)
          have hgd : (g - 1) * dgt B32 D (n - 1) + (r + dgt B32 D (n - 1)) = top := by
            obtain ⟨g', rfl⟩ : ∃ g', g = g' + 1 := ⟨g - 1, by omega⟩
            rw [Nat.add_mul, Nat.one_mul] at hinv
            rw [Nat.add_sub_cancel]; omega
          repeat (with_reducible first | apply ag | apply ac | apply af | apply ae | apply ab)
          refine aj ?_
          refine aa rfl (ah  h14 ?_)
          refine aa rfl (ah  hF.h9 ?_)
          refine aa rfl (ah  hF.h6 ?_)
          refine aa rfl (bG  rfl rfl (IntWalk.i64_in _ (by omega)) ?_)
          refine aa rfl (a7 (i := n - 1)  rfl rfl (by omega) (by first | omega | (simp; done) | (simp; omega)) bz ?_)
          refine aw rfl (ct (k := 1) (i := n - 1)  rfl aY hS rfl (by omega) (by first | omega | (simp; done) | (simp; omega)) ?_)
          refine aa rfl (aL  rfl Tryz.underlying95 ⟨_, Tryz.underlying94⟩ (r := ((dgt B32 D (n - 1) : Nat) : Int)) (by rw [hgd1]; exact aQ _ ⟨rfl, by omega, by omega⟩) ?_)
          refine aa rfl (aK  rfl rfl (r := ((r + dgt B32 D (n - 1) : Nat) : Int)) (by exact aQ _ ⟨by push_cast; rfl, by omega, by omega⟩) ?_)
          refine aa rfl (am  rfl ?_)
          refine ai ?_
          repeat (with_reducible first | apply ag | apply ac | apply af | apply ae | apply ab)
          refine aj ?_
          refine aa rfl (ah  rfl ?_)
          refine aa rfl (df  rfl rfl ?_)
          refine ai ?_
          repeat (with_reducible first | apply ag | apply ac | apply af | apply ae | apply ab)
          by_cases hbrk : B32 ≤ r + dgt B32 D (n - 1)
          · refine aD rfl (decide_eq_true (by omega)) ?_
            refine aU ?_
            repeat (with_reducible first | apply aA | apply az | refine ay rfl ?_)
            repeat (with_reducible first | apply ag | apply ac | apply af | apply ae | apply ab)
            have hgB : g - 1 < B32 := by
              rcases Nat.lt_or_ge (g - 1) B32 with h | h
              · exact h
              · exfalso
                have h1 : B32 * dgt B32 D (n - 1) ≤ (g - 1) * dgt B32 D (n - 1) := Nat.mul_le_mul_right _ h
                have h2 := hkn.top_le
                rw [← htop, Nat.mul_comm] at h2
                omega
            have hgq := hkn.rest (by rw [← htop]; exact hgd) (by omega) hbrk
            exact ⟨_, rfl, g - 1, hgB, hg1, by omega, ⟨hF.h6, hF.h7, hF.h8, hF.h9, hF.h10⟩, h11, vi rfl (by omega), hS⟩
          · refine aN rfl (decide_eq_false (by omega)) ?_
            repeat (with_reducible first | apply ag | apply ac | apply af | apply ae | apply ab)
            refine ⟨(g - 1, r + dgt B32 D (n - 1)), _, rfl, ⟨hgd, hg1, by simp only; omega, ⟨hF.h6, hF.h7, hF.h8, hF.h9, hF.h10⟩, h11, vi rfl (by simp only; omega), rfl, hS⟩, by simp only; omega⟩
        · refine aN rfl (decide_eq_false (by exact_mod_cast href)) ?_
          repeat (with_reducible first | apply ag | apply ac | apply af | apply ae | apply ab)
          refine aU ?_
          repeat (with_reducible first | apply aA | apply az | refine ay rfl ?_)
          repeat (with_reducible first | apply ag | apply ac | apply af | apply ae | apply ab)
          have hnear := hkn.near (by rw [← htop]; exact hinv) (by omega) (Nat.le_of_not_lt href)
          exact ⟨_, rfl, g, by omega, hgq, hnear, ⟨hF.h6, hF.h7, hF.h8, hF.h9, hF.h10⟩, h11, h13, hS⟩
    clear hS a0 a1 a2 c1 c2 hor htl2 htop2 hF h11'
    rintro ρ w2 ⟨g, hgB, hq1, hq2, hF, h11, h13, hS⟩
    clear htop hgn1 hgn2
    repeat (with_reducible first | apply ag | apply ac | apply af | apply ae | apply ab)
    refine aj ?_
    refine aa rfl (am  rfl ?_)
    refine ai ?_
    repeat (with_reducible first | apply ag | apply ac | apply af | apply ae | apply ab)
    refine aj ?_
    refine aa rfl (am  rfl ?_)
    refine ai ?_
    repeat (with_reducible first | apply ag | apply ac | apply af | apply ae | apply ab)
    refine aj ?_
    refine aa rfl (am  rfl ?_)
    refine ai ?_
    repeat (with_reducible first | apply ag | apply af | apply ae | apply ab)
    refine a9 (fun ρ w' => ∃ c bb Z, c ≤ 4294967295 ∧ bb ≤ 1 ∧ Z < B32 ^ (n + 1) ∧ Z + g * D = U + B32 ^ n * (c + bb) ∧ LF ρ n s m M bu bv b1 ∧ ρ 11 = .int .i64 j ∧ ρ 13 = .int .u64 g ∧ ρ 15 = .int .u64 (c : Nat) ∧ ρ 16 = .int .u64 (bb : Nat) ∧
        St w w' [(b1, 94, Kr .u32 (pad B32 (B32 ^ k * Q) M)), (bv, 94, Kr .u32 (pad B32 D (n + 1))), (bu, 94, Kr .u32 (pad B32 (lo + B32 ^ j * Z) (m + 1)))]) ?_ ?_
    · repeat (with_reducible first | apply ag | apply ac | apply af | apply ae | apply ab)
      refine a5 (σ := Nat × Nat × Nat × Nat) (fun t ρ w' => t.1 ≤ n ∧ t.2.1 ≤ 4294967295 ∧ t.2.2.1 ≤ 1 ∧ t.2.2.2 < B32 ^ (n + 1) ∧ t.2.2.2 + g * (D % B32 ^ t.1) = U + B32 ^ t.1 * (t.2.1 + t.2.2.1) ∧ LF ρ n s m M bu bv b1 ∧ ρ 11 = .int .i64 j ∧ ρ 13 = .int .u64 g ∧ ρ 15 = .int .u64 t.2.1 ∧ ρ 16 = .int .u64 t.2.2.1 ∧ ρ 17 = .int .i64 t.1 ∧
          St w w' [(b1, 94, Kr .u32 (pad B32 (B32 ^ k * Q) M)), (bv, 94, Kr .u32 (pad B32 D (n + 1))), (bu, 94, Kr .u32 (pad B32 (lo + B32 ^ j * t.2.2.2) (m + 1)))]) (fun t => n - t.1) (0, 0, 0, U)
        ⟨Nat.zero_le _, Nat.zero_le _, Nat.zero_le _, hU1, by simp [Nat.mod_one], ⟨hF.h6, hF.h7, hF.h8, hF.h9, hF.h10⟩, h11, h13, rfl, rfl, rfl, hS⟩ ?_
      clear hS hF h11 h13
      rintro ⟨i, c, bb, Z⟩ ρ w3 ⟨hi, hc, hbb, hZ, hinv, hF, h11, h13, h15, h16, h17, hS⟩
      simp only at hi hc hbb hZ hinv h15 h16 h17 hS
      repeat (with_reducible first | apply ag | apply ac | apply af | apply ae | apply ab)
      refine aj ?_
      refine aa rfl (ah  h17 ?_)
      refine aa rfl (ah  hF.h6 ?_)
      refine aa rfl (aV  rfl rfl ?_)
      refine ai ?_
      repeat (with_reducible first | apply ag | apply ac | apply af | apply ae | apply ab)
      by_cases hlt : i < n
      · refine aD rfl (decide_eq_true (by omega)) ?_
        repeat (with_reducible first | apply ag | apply ac | apply af | apply ae | apply ab)
        have x1 := bA Z i
        have d1 := bA D i
        have hgX := hgU Z i hi
        obtain ⟨u1, u2⟩ := fO g (dgt B32 D i) 0 c (by omega) d1 (by omega) hc
        obtain ⟨t, ht⟩ : ∃ t, t = g * dgt B32 D i + c := ⟨_, rfl⟩
        have htl : t ≤ 18446744073709551615 := by omega
        repeat (with_reducible first | apply ag | apply ac | apply af | apply ae | apply ab)
        refine aj ?_
        refine aa rfl (ah  h15 ?_)
        refine aa rfl (ah  h13 ?_)
        refine aa rfl (ah  hF.h9 ?_)
        refine aa rfl (ah  h17 ?_)
        refine aa rfl (a7 (i := i)  rfl rfl (by omega) (by first | omega | (simp; done) | (simp; omega)) bz ?_)
        refine aw rfl (ct (k := 1) (i := i)  rfl aY hS rfl (by omega) (by first | omega | (simp; done) | (simp; omega)) ?_)
        refine aa rfl (aL  rfl Tryz.underlying95 ⟨_, Tryz.underlying94⟩ (r := ((dgt B32 D i : Nat) : Int)) (by rw [hgD i (by omega)]; exact aQ _ ⟨rfl, by omega, by omega⟩) ?_)
        refine aa rfl (f5  rfl rfl (r := ((g * dgt B32 D i : Nat) : Int)) (by exact aQ _ ⟨by push_cast; rfl, by omega, by omega⟩) ?_)
        refine aa rfl (aK  rfl rfl (r := ((t : Nat) : Int)) (by rw [ht]; exact aQ _ ⟨by omega, by omega, by omega⟩) ?_)
        refine aa rfl (am  rfl ?_)
        refine ai ?_
        repeat (with_reducible first | apply ag | apply ac | apply af | apply ae | apply ab)
        refine aj ?_
        refine aa rfl (ah  rfl ?_)
        refine aa rfl (gz  rfl rfl (and_low t htl) ?_)
        refine aa rfl (ah  h16 ?_)
        refine aa rfl (aK  rfl rfl (r := ((t % 4294967296 + bb : Nat) : Int)) (by exact aQ _ ⟨by omega, by omega, by omega⟩) ?_)
        refine aa rfl (am  rfl ?_)
        refine ai ?_
        repeat (with_reducible first | apply ag | apply ac | apply af | apply ae | apply ab)
        refine aj ?_
        refine aa rfl (ah  rfl ?_)
        refine aa rfl (dk  rfl rfl (by omega) (r := ((t / 4294967296 : Nat) : Int)) (by exact dp _ 32 (by decide)) ?_)
        refine aa rfl (am  rfl ?_)
        refine ai ?_
        repeat (with_reducible first | apply ag | apply ac | apply af | apply ae | apply ab)
        refine aj ?_
        refine aa rfl (ah  hF.h8 ?_)
        refine aa rfl (ah  h11 ?_)
        refine aa rfl (ah  h17 ?_)
        refine aa rfl (aK  rfl rfl (IntWalk.i64_in _ (by omega)) ?_)
        refine aa rfl (a7 (i := j + i)  rfl rfl (by omega) (by first | omega | (simp; done) | (simp; omega)) bz ?_)
        refine aw rfl (ct (k := 2) (i := j + i)  rfl aY hS rfl (by omega) (by first | omega | (simp; done) | (simp; omega)) ?_)
        refine aa rfl (aL  rfl Tryz.underlying95 ⟨_, Tryz.underlying94⟩ (r := ((dgt B32 Z i : Nat) : Int)) (by rw [hgX]; exact aQ _ ⟨rfl, by omega, by omega⟩) ?_)
        refine aa rfl (am  rfl ?_)
        refine ai ?_
        repeat (with_reducible first | apply ag | apply ac | apply af | apply ae | apply ab)
        refine aj ?_
        refine aa rfl (am  rfl ?_)
        refine ai ?_
        repeat (with_reducible first | apply ag | apply ac | apply af | apply ae | apply ab)
        refine aj ?_
        refine aa rfl (ah  rfl ?_)
        refine aa rfl (ah  rfl ?_)
        refine aa rfl (aV  rfl rfl ?_)
        refine ai ?_
        repeat (with_reducible first | apply ag | apply ac | apply af | apply ae | apply ab)
        obtain ⟨y, hy9⟩ : ∃ y, y = t % 4294967296 + bb := ⟨_, rfl⟩
        have hyl : y ≤ 4294967296 := by omega
        rw [← hy9]
        obtain ⟨xx, hxx⟩ : ∃ d, d = (if dgt B32 Z i < y then dgt B32 Z i + 4294967296 else dgt B32 Z i) := ⟨_, rfl⟩
        obtain ⟨b', hb'⟩ : ∃ c', c' = (if dgt B32 Z i < y then 1 else 0) := ⟨_, rfl⟩
        have hub : xx = dgt B32 Z i + 4294967296 * b' := by rw [hxx, hb']; split <;> omega
        have hul : y ≤ xx ∧ xx - y ≤ 4294967295 := by rw [hxx]; split <;> omega
        have hb1 : b' ≤ 1 := by rw [hb']; split <;> omega
        refine a9 (fun ρ w' => LF ρ n s m M bu bv b1 ∧ ρ 11 = .int .i64 j ∧ ρ 13 = .int .u64 g ∧ ρ 15 = .int .u64 (t / 4294967296 : Nat) ∧ ρ 16 = .int .u64 (b' : Nat) ∧ ρ 17 = .int .i64 i ∧ ρ 18 = .int .u64 (y : Nat) ∧ ρ 19 = .int .u64 (xx : Nat) ∧ w3 = w') ?_ ?_
        · repeat (with_reducible first | apply ag | apply ac | apply af | apply ae | apply ab)
          by_cases hlt2 : dgt B32 Z i < y
          · rw [if_pos hlt2] at hxx hb'
            refine aD rfl (decide_eq_true (by omega)) ?_
            repeat (with_reducible first | apply ag | apply ac | apply af | apply ae | apply ab)
            refine aj ?_
            refine aa rfl (ah  rfl ?_)
            refine aa rfl (aK  rfl rfl (r := ((xx : Nat) : Int)) (by rw [hxx]; exact aQ _ ⟨by omega, by omega, by omega⟩) ?_)
            refine aa rfl (am  rfl ?_)
            refine ai ?_
            repeat (with_reducible first | apply ag | apply ac | apply af | apply ae | apply ab)
            refine aj ?_
            refine aa rfl (am  rfl ?_)
            refine ai ?_
            repeat (with_reducible first | apply ag | apply ac | apply af | apply ae | apply ab)
            exact ⟨_, rfl, ⟨hF.h6, hF.h7, hF.h8, hF.h9, hF.h10⟩, h11, h13, rfl, vi rfl (by rw [hb']; rfl), h17, vi rfl (by rw [hy9]), rfl, rfl⟩
          · rw [if_neg hlt2] at hxx hb'
            refine aN rfl (decide_eq_false (by omega)) ?_
            repeat (with_reducible first | apply ag | apply ac | apply af | apply ae | apply ab)
            exact ⟨_, rfl, ⟨hF.h6, hF.h7, hF.h8, hF.h9, hF.h10⟩, h11, h13, rfl, vi rfl (by rw [hb']; rfl), h17, vi rfl (by rw [hy9]), vi rfl (by rw [hxx]), rfl⟩
        clear hxx hb' hF h11 h13 h15 h16 h17
        rintro ρ w' ⟨hF, h11, h13, h15, h16, h17, h18, h19, rfl⟩
        repeat (with_reducible first | apply ag | apply ac | apply af | apply ae | apply ab)
        refine aj ?_
        refine aa rfl (ah  hF.h8 ?_)
        refine aa rfl (ah  h11 ?_)
        refine aa rfl (ah  h17 ?_)
        refine aa rfl (aK  rfl rfl (IntWalk.i64_in _ (by omega)) ?_)
        refine aa rfl (ah  h19 ?_)
        refine aa rfl (ah  h18 ?_)
        refine aa rfl (bG  rfl rfl (r := ((xx - y : Nat) : Int)) (by exact aQ _ ⟨by omega, by omega, by omega⟩) ?_)
        refine aa rfl (aL  rfl Tryz.underlying94 ⟨_, Tryz.underlying95⟩ (r := ((xx - y : Nat) : Int)) (by exact de _ ⟨rfl, by omega, by omega⟩) ?_)
        refine aa rfl (a7 (i := j + i)  rfl rfl (by omega) (by first | omega | (simp; done) | (simp; omega)) bz ?_)
        refine ak rfl (cW (k := 2) (i := j + i) (a := _)  rfl rfl rfl aY hS rfl (by omega) (by first | omega | (simp; done) | (simp; omega)) ?_)
        intro wz6 hS
        refine ai ?_
        repeat (with_reducible first | apply ag | apply ac | apply af | apply ae | apply ab)
        obtain ⟨Z', e1, e2, e3⟩ := dn (b := B32) (lo := lo) (X := Z) (o := j) (k := i) (d := xx - y) (n := m + 1) (by decide) hlo (show _ < 4294967296 by omega) (by omega)
        rw [set2, e1] at hS
        repeat (with_reducible first | apply ag | apply ac | apply af | apply ae | apply ab)
        refine aj ?_
        refine aa rfl (ah  h17 ?_)
        refine aa rfl (aK  rfl rfl (IntWalk.i64_in _ (by omega)) ?_)
        refine aa rfl (am  rfl ?_)
        refine ai ?_
        repeat (with_reducible first | apply ag | apply ac | apply af | apply ae | apply ab)
        refine ⟨(i + 1, t / 4294967296, b', Z'), _, rfl, ⟨hlt, by simp only; omega, hb1, e3 _ (by omega) hZ, ?_, ⟨hF.h6, hF.h7, hF.h8, hF.h9, hF.h10⟩, h11, h13, h15, h16, vi rfl (by simp), hS⟩, by simp only; omega⟩
        simp only
        have f1 : g * (D % B32 ^ (i + 1)) = g * (D % B32 ^ i) + B32 ^ i * (g * dgt B32 D i) := by rw [mod_pow_succ, Nat.mul_add]; congr 1; ac_rfl
        have f2 : B32 ^ (i + 1) * (t / 4294967296 + b') = B32 ^ i * (4294967296 * (t / 4294967296) + 4294967296 * b') := by rw [Nat.pow_succ, Nat.mul_assoc, ← Nat.mul_add]
        have f3 : dgt B32 Z i + (4294967296 * (t / 4294967296) + 4294967296 * b') = (xx - y) + (g * dgt B32 D i + c) + bb := by omega
        have f4 : B32 ^ i * dgt B32 Z i + B32 ^ i * (4294967296 * (t / 4294967296) + 4294967296 * b') = B32 ^ i * (xx - y) + B32 ^ i * (g * dgt B32 D i) + B32 ^ i * (c + bb) := by
          rw [← Nat.mul_add, f3, ← Nat.mul_add, ← Nat.mul_add]; congr 1; omega
        rw [f1, f2]
        omega
      · refine aN rfl (decide_eq_false (by omega)) ?_
        repeat (with_reducible first | apply ag | apply ac | apply af | apply ae | apply ab)
        refine aU ?_
        repeat (with_reducible first | apply aA | apply az | refine ay rfl ?_)
        repeat (with_reducible first | apply ag | apply ac | apply af | apply ae | apply ab)
        obtain rfl : i = n := by omega
        rw [Nat.mod_eq_of_lt hD] at hinv
        exact ⟨_, rfl, c, bb, Z, hc, hbb, hZ, hinv, ⟨hF.h6, hF.h7, hF.h8, hF.h9, hF.h10⟩, h11, h13, h15, h16, hS⟩
    clear hS hF h11 h13
    rintro ρ w3 ⟨c, bb, Z, hc, hbb, hZ, hinv, hF, h11, h13, h15, h16, hS⟩
    repeat (with_reducible first | apply ag | apply ac | apply af | apply ae | apply ab)
    have x1 := bA Z n
    have hgX := hgU Z n (Nat.le_refl _)
    repeat (with_reducible first | apply ag | apply ac | apply af | apply ae | apply ab)
    refine aj ?_
    refine aa rfl (ah  h15 ?_)
    refine aa rfl (ah  h16 ?_)
    refine aa rfl (aK  rfl rfl (r := ((c + bb : Nat) : Int)) (by exact aQ _ ⟨by push_cast; rfl, by omega, by omega⟩) ?_)
    refine aa rfl (am  rfl ?_)
    refine ai ?_
    repeat (with_reducible first | apply ag | apply ac | apply af | apply ae | apply ab)
    refine aj ?_
    refine aa rfl (ah  hF.h8 ?_)
    refine aa rfl (ah  h11 ?_)
    refine aa rfl (ah  hF.h6 ?_)
    refine aa rfl (aK  rfl rfl (IntWalk.i64_in _ (by omega)) ?_)
    refine aa rfl (a7 (i := j + n)  rfl rfl (by omega) (by first | omega | (simp; done) | (simp; omega)) bz ?_)
    refine aw rfl (ct (k := 2) (i := j + n)  rfl aY hS rfl (by omega) (by first | omega | (simp; done) | (simp; omega)) ?_)
    refine aa rfl (aL  rfl Tryz.underlying95 ⟨_, Tryz.underlying94⟩ (r := ((dgt B32 Z n : Nat) : Int)) (by rw [hgX]; exact aQ _ ⟨rfl, by omega, by omega⟩) ?_)
    refine aa rfl (am  rfl ?_)
    refine ai ?_
    repeat (with_reducible first | apply ag | apply ac | apply af | apply ae | apply ab)
    refine aj ?_
    refine aa rfl (ah  rfl ?_)
    refine aa rfl (ah  rfl ?_)
    refine aa rfl (aV  rfl rfl ?_)
    refine aa rfl (am  rfl ?_)
    refine ai ?_
    repeat (with_reducible first | apply ag | apply ac | apply af | apply ae | apply ab)
    obtain ⟨u', hu'⟩ : ∃ u', u' = (dgt B32 Z n + 4294967296 - (c + bb)) % 4294967296 := ⟨_, rfl⟩
    obtain ⟨b', hb'⟩ : ∃ b', b' = if dgt B32 Z n < c + bb then 1 else 0 := ⟨_, rfl⟩
    have hub : u' + (c + bb) = dgt B32 Z n + 4294967296 * b' := by rw [hu', hb']; exact top_borrow _ _ x1 (by omega)
    have hb1 : b' ≤ 1 := by rw [hb']; split <;> omega
    have hbc : (b' = 0 ↔ ¬ dgt B32 Z n < c + bb) := by rw [hb']; split <;> omega
    have hul : u' < B32 := by rw [hu']; exact Nat.mod_lt _ (by decide)
    repeat (with_reducible first | apply ag | apply ac | apply af | apply ae | apply ab)
    refine aj ?_
    refine aa rfl (ah  hF.h8 ?_)
    refine aa rfl (ah  h11 ?_)
    refine aa rfl (ah  hF.h6 ?_)
    refine aa rfl (aK  rfl rfl (IntWalk.i64_in _ (by omega)) ?_)
    refine aa rfl (ah  rfl ?_)
    refine aa rfl (ah  rfl ?_)
    refine aa rfl (bG  rfl rfl rfl ?_)
    refine aa rfl (aL  rfl Tryz.underlying94 ⟨_, Tryz.underlying95⟩ (r := ((u' : Nat) : Int)) (by rw [hu']; exact top_sub _ _ x1 (by omega)) ?_)
    refine aa rfl (a7 (i := j + n)  rfl rfl (by omega) (by first | omega | (simp; done) | (simp; omega)) bz ?_)
    refine ak rfl (cW (k := 2) (i := j + n) (a := _)  rfl rfl rfl aY hS rfl (by omega) (by first | omega | (simp; done) | (simp; omega)) ?_)
    intro wz7 hS
    refine ai ?_
    repeat (with_reducible first | apply ag | apply ac | apply af | apply ae | apply ab)
    obtain ⟨Y', e1, e2, e3⟩ := dn (b := B32) (lo := lo) (X := Z) (o := j) (k := n) (d := u') (n := m + 1) (by decide) hlo hul (by omega)
    have hY' := e3 _ (by omega) hZ
    rw [set2, e1] at hS
    have hYU : Y' + g * D = U + B32 ^ (n + 1) * b' := by
      have f2 : B32 ^ (n + 1) * b' = B32 ^ n * (4294967296 * b') := by rw [Nat.pow_succ, Nat.mul_assoc]
      have f4 : B32 ^ n * dgt B32 Z n + B32 ^ n * (4294967296 * b') = B32 ^ n * u' + B32 ^ n * (c + bb) := by
        rw [← Nat.mul_add, ← Nat.mul_add]; congr 1; omega
      omega
    clear e1 e2 e3 hub hu' hb' hgX x1 hinv
    repeat (with_reducible first | apply ag | apply ac | apply af | apply ae | apply ab)
    refine aj ?_
    refine aa rfl (ah  rfl ?_)
    refine ai ?_
    repeat (with_reducible first | apply ag | apply ac | apply af | apply ae | apply ab)
    have hdm := Nat.div_add_mod U D
    have hDpos : 0 < D := hkn.dpos
    refine a9 (fun ρ w' => LF ρ n s m M bu bv b1 ∧ ρ 11 = .int .i64 j ∧ ρ 13 = .int .u64 (U / D : Nat) ∧
        St w w' [(b1, 94, Kr .u32 (pad B32 (B32 ^ k * Q) M)), (bv, 94, Kr .u32 (pad B32 D (n + 1))), (bu, 94, Kr .u32 (pad B32 (lo + B32 ^ j * (U % D)) (m + 1)))]) ?_ ?_
    · repeat (with_reducible first | apply ag | apply ac | apply af | apply ae | apply ab)
      by_cases hb0 : b' = 0
      · refine aN rfl (decide_eq_false (by have := hbc.1 hb0; omega)) ?_
        repeat (with_reducible first | apply ag | apply ac | apply af | apply ae | apply ab)
        rw [hb0, Nat.mul_zero, Nat.add_zero] at hYU
        have hg1 : g ≤ U / D := (Nat.le_div_iff_mul_le hDpos).2 (by omega)
        have hgq : g = U / D := by omega
        have hYm : Y' = U % D := by rw [hgq, Nat.mul_comm] at hYU; omega
        rw [hYm] at hS
        exact ⟨_, rfl, ⟨hF.h6, hF.h7, hF.h8, hF.h9, hF.h10⟩, h11, h13.trans (by rw [hgq]), hS⟩
      · refine aD rfl (decide_eq_true (by have := fun h => hb0 (hbc.2 h); omega)) ?_
        repeat (with_reducible first | apply ag | apply ac | apply af | apply ae | apply ab)
        obtain rfl : b' = 1 := by omega
        have hgq : g = U / D + 1 := by
          rcases Nat.lt_or_ge (U / D) g with h | h
          · omega
          · exfalso
            have : g * D ≤ U := (Nat.le_div_iff_mul_le hDpos).1 h
            omega
        have hYR : Y' + D = U % D + B32 ^ (n + 1) := by
          rw [hgq, Nat.add_mul, Nat.one_mul, Nat.mul_comm] at hYU; omega
        repeat (with_reducible first | apply ag | apply ac | apply af | apply ae | apply ab)
        refine aj ?_
        refine aa rfl (ah  h13 ?_)
        refine aa rfl (bG  rfl rfl (r := ((U / D : Nat) : Int)) (by rw [hgq]; exact aQ _ ⟨by push_cast; omega, Int.natCast_nonneg _, by generalize U / D = z at hq0 ⊢; omega⟩) ?_)
        refine aa rfl (am  rfl ?_)
        refine ai ?_
        repeat (with_reducible first | apply ag | apply ac | apply af | apply ae | apply ab)
        refine aj ?_
        refine aa rfl (am  rfl ?_)
        refine ai ?_
        repeat (with_reducible first | apply ag | apply ac | apply af | apply ae | apply ab)
        refine aj ?_
        refine aa rfl (am  rfl ?_)
        refine ai ?_
        repeat (with_reducible first | apply ag | apply af | apply ae | apply ab)
        refine a9 (fun ρ w' => ∃ c Z, c ≤ 1 ∧ Z < B32 ^ (n + 1) ∧ Z + B32 ^ n * c = Y' + D ∧ LF ρ n s m M bu bv b1 ∧ ρ 11 = .int .i64 j ∧ ρ 13 = .int .u64 (U / D : Nat) ∧ ρ 15 = .int .u64 (c : Nat) ∧
            St w w' [(b1, 94, Kr .u32 (pad B32 (B32 ^ k * Q) M)), (bv, 94, Kr .u32 (pad B32 D (n + 1))), (bu, 94, Kr .u32 (pad B32 (lo + B32 ^ j * Z) (m + 1)))]) ?_ ?_
        · repeat (with_reducible first | apply ag | apply ac | apply af | apply ae | apply ab)
          refine a5 (σ := Nat × Nat × Nat) (fun t ρ w' => t.1 ≤ n ∧ t.2.1 ≤ 1 ∧ t.2.2 < B32 ^ (n + 1) ∧ t.2.2 + B32 ^ t.1 * t.2.1 = Y' + D % B32 ^ t.1 ∧ LF ρ n s m M bu bv b1 ∧ ρ 11 = .int .i64 j ∧ ρ 13 = .int .u64 (U / D : Nat) ∧ ρ 15 = .int .u64 t.2.1 ∧ ρ 23 = .int .i64 t.1 ∧
              St w w' [(b1, 94, Kr .u32 (pad B32 (B32 ^ k * Q) M)), (bv, 94, Kr .u32 (pad B32 D (n + 1))), (bu, 94, Kr .u32 (pad B32 (lo + B32 ^ j * t.2.2) (m + 1)))]) (fun t => n - t.1) (0, 0, Y')
            ⟨Nat.zero_le _, Nat.zero_le _, hY', by simp [Nat.mod_one], ⟨hF.h6, hF.h7, hF.h8, hF.h9, hF.h10⟩, h11, rfl, rfl, rfl, hS⟩ ?_
          clear hS hF h11 h13 h15 h16
          rintro ⟨i, c, Z⟩ ρ w3 ⟨hi, hc, hZ, hinv, hF, h11, h13, h15, h23, hS⟩
          simp only at hi hc hZ hinv h15 h23 hS
          repeat (with_reducible first | apply ag | apply ac | apply af | apply ae | apply ab)
          refine aj ?_
          refine aa rfl (ah  h23 ?_)
          refine aa rfl (ah  hF.h6 ?_)
          refine aa rfl (aV  rfl rfl ?_)
          refine ai ?_
          repeat (with_reducible first | apply ag | apply ac | apply af | apply ae | apply ab)
          by_cases hlt : i < n
          · refine aD rfl (decide_eq_true (by omega)) ?_
            repeat (with_reducible first | apply ag | apply ac | apply af | apply ae | apply ab)
            have x1 := bA Z i
            have d1 := bA D i
            have hgX := hgU Z i hi
            obtain ⟨t, ht⟩ : ∃ t, t = dgt B32 Z i + dgt B32 D i + c := ⟨_, rfl⟩
            repeat (with_reducible first | apply ag | apply ac | apply af | apply ae | apply ab)
            refine bm [(0, .pure), (1, .pure), (2, .pure), (3, .pure), (4, .pure), (5, .pure), (6, .read), (7, .pure), (8, .pure), (9, .pure), (10, .pure), (11, .pure), (12, .read), (13, .pure), (14, .pure), (15, .pure)] (by kernel_rfl) (by kernel_rfl) hS ?_
            intro wz8 hS hBz8
            refine al rfl rfl (ah  h15 ?_)
            refine al rfl rfl (ah  hF.h8 ?_)
            refine al rfl rfl (ah  h11 ?_)
            refine al rfl rfl (ah  h23 ?_)
            refine al rfl rfl (aK  rfl rfl (IntWalk.i64_in _ (by omega)) ?_)
            refine al rfl rfl (a7 (i := j + i)  rfl rfl (by omega) (by first | omega | (simp; done) | (simp; omega)) bz ?_)
            refine aF rfl rfl (ct (k := 2) (i := j + i)  rfl aY hS rfl (by omega) (by first | omega | (simp; done) | (simp; omega)) ?_)
            refine al rfl rfl (aL  rfl Tryz.underlying95 ⟨_, Tryz.underlying94⟩ (r := ((dgt B32 Z i : Nat) : Int)) (by rw [hgX]; exact aQ _ ⟨rfl, by omega, by omega⟩) ?_)
            refine al rfl rfl (aK  rfl rfl (r := ((c + dgt B32 Z i : Nat) : Int)) (by exact aQ _ ⟨by push_cast; rfl, by omega, by omega⟩) ?_)
            refine al rfl rfl (ah  hF.h9 ?_)
            refine al rfl rfl (ah  h23 ?_)
            refine al rfl rfl (a7 (i := i)  rfl rfl (by omega) (by first | omega | (simp; done) | (simp; omega)) bz ?_)
            refine aF rfl rfl (ct (k := 1) (i := i)  rfl aY hS rfl (by omega) (by first | omega | (simp; done) | (simp; omega)) ?_)
            refine al rfl rfl (aL  rfl Tryz.underlying95 ⟨_, Tryz.underlying94⟩ (r := ((dgt B32 D i : Nat) : Int)) (by rw [hgD i (by omega)]; exact aQ _ ⟨rfl, by omega, by omega⟩) ?_)
            refine al rfl rfl (aK  rfl rfl (r := ((t : Nat) : Int)) (by rw [ht]; exact aQ _ ⟨by omega, by omega, by omega⟩) ?_)
            refine al rfl rfl (am  rfl ?_)
            refine bC ?_
            repeat (with_reducible first | apply ag | apply ac | apply af | apply ae | apply ab)
            refine aj ?_
            refine aa rfl (ah  hF.h8 ?_)
            refine aa rfl (ah  h11 ?_)
            refine aa rfl (ah  h23 ?_)
            refine aa rfl (aK  rfl rfl (IntWalk.i64_in _ (by omega)) ?_)
            refine aa rfl (ah  rfl ?_)
            refine aa rfl (aL  rfl Tryz.underlying94 ⟨_, Tryz.underlying95⟩ (dG _) ?_)
            refine aa rfl (a7 (i := j + i)  rfl rfl (by omega) (by first | omega | (simp; done) | (simp; omega)) bz ?_)
            refine ak rfl (cW (k := 2) (i := j + i) (a := _)  rfl rfl rfl aY hS rfl (by omega) (by first | omega | (simp; done) | (simp; omega)) ?_)
            intro wz9 hS
            refine ai ?_
            repeat (with_reducible first | apply ag | apply ac | apply af | apply ae | apply ab)
            refine aj ?_
            refine aa rfl (ah  rfl ?_)
            refine aa rfl (dk  rfl rfl (by omega) (r := ((t / 4294967296 : Nat) : Int)) (by exact dp _ 32 (by decide)) ?_)
            refine aa rfl (am  rfl ?_)
            refine ai ?_
            repeat (with_reducible first | apply ag | apply ac | apply af | apply ae | apply ab)
            obtain ⟨Z', e1, e2, e3⟩ := dn (b := B32) (lo := lo) (X := Z) (o := j) (k := i) (d := t % 4294967296) (n := m + 1) (by decide) hlo (Nat.mod_lt _ (by decide)) (by omega)
            rw [set2, e1] at hS
            repeat (with_reducible first | apply ag | apply ac | apply af | apply ae | apply ab)
            refine aj ?_
            refine aa rfl (ah  h23 ?_)
            refine aa rfl (aK  rfl rfl (IntWalk.i64_in _ (by omega)) ?_)
            refine aa rfl (am  rfl ?_)
            refine ai ?_
            repeat (with_reducible first | apply ag | apply ac | apply af | apply ae | apply ab)
            refine ⟨(i + 1, t / 4294967296, Z'), _, rfl, ⟨hlt, by simp only; omega, e3 _ (by omega) hZ, ?_, ⟨hF.h6, hF.h7, hF.h8, hF.h9, hF.h10⟩, h11, h13, rfl, vi rfl (by simp), hS⟩, by simp only; omega⟩
            simp only
            have f2 : B32 ^ (i + 1) * (t / 4294967296) = B32 ^ i * (4294967296 * (t / 4294967296)) := by rw [Nat.pow_succ, Nat.mul_assoc]
            have f4 : B32 ^ i * (t % 4294967296) + B32 ^ i * (4294967296 * (t / 4294967296)) = B32 ^ i * dgt B32 Z i + B32 ^ i * dgt B32 D i + B32 ^ i * c := by
              rw [← Nat.mul_add, Nat.mod_add_div, ht, Nat.mul_add, Nat.mul_add]
            rw [mod_pow_succ, f2]
            omega
          · refine aN rfl (decide_eq_false (by omega)) ?_
            repeat (with_reducible first | apply ag | apply ac | apply af | apply ae | apply ab)
            refine aU ?_
            repeat (with_reducible first | apply aA | apply az | refine ay rfl ?_)
            repeat (with_reducible first | apply ag | apply ac | apply af | apply ae | apply ab)
            obtain rfl : i = n := by omega
            rw [Nat.mod_eq_of_lt hD] at hinv
            exact ⟨_, rfl, c, Z, hc, hZ, hinv, ⟨hF.h6, hF.h7, hF.h8, hF.h9, hF.h10⟩, h11, h13, h15, hS⟩
        clear hS hF h11 h13 h15 h16
        rintro ρ w4 ⟨c, Z, hc, hZ, hinv, hF, h11, h13, h15, hS⟩
        repeat (with_reducible first | apply ag | apply ac | apply af | apply ae | apply ab)
        have x1 := bA Z n
        have hgX := hgU Z n (Nat.le_refl _)
        repeat (with_reducible first | apply ag | apply ac | apply af | apply ae | apply ab)
        refine aj ?_
        refine aa rfl (ah  hF.h8 ?_)
        refine aa rfl (ah  h11 ?_)
        refine aa rfl (ah  hF.h6 ?_)
        refine aa rfl (aK  rfl rfl (IntWalk.i64_in _ (by omega)) ?_)
        refine aa rfl (ah  hF.h8 ?_)
        refine aa rfl (ah  h11 ?_)
        refine aa rfl (ah  hF.h6 ?_)
        refine aa rfl (aK  rfl rfl (IntWalk.i64_in _ (by omega)) ?_)
        refine aa rfl (a7 (i := j + n)  rfl rfl (by omega) (by first | omega | (simp; done) | (simp; omega)) bz ?_)
        refine aw rfl (ct (k := 2) (i := j + n)  rfl aY hS rfl (by omega) (by first | omega | (simp; done) | (simp; omega)) ?_)
        refine aa rfl (ah  h15 ?_)
        refine aa rfl (aL  rfl Tryz.underlying94 ⟨_, Tryz.underlying95⟩ (r := ((c : Nat) : Int)) (by exact de _ ⟨rfl, by omega, by omega⟩) ?_)
        refine aa rfl (aK  rfl rfl (r := (((dgt B32 Z n + c) % 4294967296 : Nat) : Int)) (by rw [hgX, eW]; omega) ?_)
        refine aa rfl (a7 (i := j + n)  rfl rfl (by omega) (by first | omega | (simp; done) | (simp; omega)) bz ?_)
        refine ak rfl (cW (k := 2) (i := j + n) (a := _)  rfl rfl rfl aY hS rfl (by omega) (by first | omega | (simp; done) | (simp; omega)) ?_)
        intro wz10 hS
        refine ai ?_
        repeat (with_reducible first | apply ag | apply ac | apply af | apply ae | apply ab)
        obtain ⟨W, e1, e2, e3⟩ := dn (b := B32) (lo := lo) (X := Z) (o := j) (k := n) (d := (dgt B32 Z n + c) % 4294967296) (n := m + 1) (by decide) hlo (Nat.mod_lt _ (by decide)) (by omega)
        rw [set2, e1] at hS
        have hW : W = U % D := by
          have hR : U % D < B32 ^ n := Nat.lt_trans (Nat.mod_lt _ hDpos) hD
          have hpos : 0 < B32 ^ n := Nat.pow_pos (by decide)
          have htop : dgt B32 Z n = Z / B32 ^ n := ed (by decide) hZ
          have hdz := Nat.div_add_mod Z (B32 ^ n)
          have hmz := Nat.mod_lt Z hpos
          have hsum : Z % B32 ^ n + B32 ^ n * (Z / B32 ^ n + c) = U % D + B32 ^ n * 4294967296 := by
            have : B32 ^ (n + 1) = B32 ^ n * 4294967296 := Nat.pow_succ ..
            rw [Nat.mul_add]; omega
          have hy : Z / B32 ^ n + c = 4294967296 := by
            have h1 : (Z % B32 ^ n + B32 ^ n * (Z / B32 ^ n + c)) / B32 ^ n = (U % D + B32 ^ n * 4294967296) / B32 ^ n := by rw [hsum]
            rwa [Nat.add_mul_div_left _ _ hpos, Nat.add_mul_div_left _ _ hpos, Nat.div_eq_of_lt hmz, Nat.div_eq_of_lt hR, Nat.zero_add, Nat.zero_add] at h1
          rw [htop, hy] at e2
          rw [hy] at hsum
          simp only [Nat.mod_self, Nat.mul_zero, Nat.add_zero] at e2
          omega
        rw [hW] at hS
        exact ⟨_, rfl, ⟨hF.h6, hF.h7, hF.h8, hF.h9, hF.h10⟩, h11, h13, hS⟩
    clear hS hF h11 h13 h15 h16 hYU
    rintro ρ w4 ⟨hF, h11, h13, hS⟩
    repeat (with_reducible first | apply ag | apply ac | apply af | apply ae | apply ab)
    refine aj ?_
    refine aa rfl (ah  hF.h10 ?_)
    refine aa rfl (ah  h11 ?_)
    refine aa rfl (ah  h13 ?_)
    refine aa rfl (aL  rfl Tryz.underlying94 ⟨_, Tryz.underlying95⟩ (r := ((U / D : Nat) : Int)) (by exact de _ ⟨rfl, Int.natCast_nonneg _, by generalize U / D = z at hq0 ⊢; omega⟩) ?_)
    refine aa rfl (a7 (i := j)  rfl rfl (by omega) (by first | omega | (simp; done) | (simp; omega)) bz ?_)
    refine ak rfl (cW (k := 0) (i := j) (a := (U / D))  rfl rfl rfl aY hS rfl (by omega) (by first | omega | (simp; done) | (simp; omega)) ?_)
    intro wz11 hS
    refine ai ?_
    repeat (with_reducible first | apply ag | apply ac | apply af | apply ae | apply ab)
    rw [List.set_cons_zero, hj, eq1, ← hj] at hS
    repeat (with_reducible first | apply ag | apply ac | apply af | apply ae | apply ab)
    refine aj ?_
    refine aa rfl (ah  h11 ?_)
    refine aa rfl (bG  rfl rfl (IntWalk.i64_in _ (by omega)) ?_)
    refine aa rfl (am  rfl ?_)
    refine ai ?_
    repeat (with_reducible first | apply ag | apply ac | apply af | apply ae | apply ab)
    exact ⟨(j, B32 * Q + U / D, lo + B32 ^ j * (U % D)), _, rfl, ⟨by simp only; omega, hinv2, hV2, ⟨hF.h6, hF.h7, hF.h8, hF.h9, hF.h10⟩, rfl, hS⟩, by simp only; omega⟩
  · refine aN rfl (decide_eq_false (by omega)) ?_
    repeat (with_reducible first | apply ag | apply ac | apply af | apply ae | apply ab)
    refine aU ?_
    repeat (with_reducible first | apply aA | apply az | refine ay rfl ?_)
    repeat (with_reducible first | apply ag | apply ac | apply af | apply ae | apply ab)
    obtain rfl : k = 0 := by omega
    rw [Nat.pow_zero, Nat.mul_one] at hinv hV
    rw [Nat.pow_zero, Nat.one_mul] at hS
    rw [hDe] at hinv hV
    obtain ⟨f1, f2, f3⟩ := divmod_unique hpc hinv hV
    rw [← hDe] at hinv hV
    have hQM : Q < B32 ^ M := by
      rcases Nat.lt_or_ge Q (B32 ^ M) with h | h
      · exact h
      · exfalso
        have h3 : D * B32 ^ M ≤ D * Q := Nat.mul_le_mul_left _ h
        rw [Nat.mul_comm D Q] at h3
        omega
    have hVn : V < B32 ^ n := by omega
    repeat (with_reducible first | apply ag | apply ac | apply af | apply ae | apply ab)
    refine aj ?_
    refine aa rfl (ah  hF.h6 ?_)
    refine ak rfl (c4 (n := n)  rfl rfl bz (by omega) (by omega) (by omega) (by omega) hS ?_)
    intro b12 wz13 hS hBz13
    refine aa rfl (am  rfl ?_)
    refine ai ?_
    repeat (with_reducible first | apply ag | apply ac | apply af | apply ae | apply ab)
    refine aj ?_
    refine aa rfl (am  rfl ?_)
    refine ai ?_
    repeat (with_reducible first | apply ag | apply ac | apply af | apply ae | apply ab)
    rw [← cH B32 n, show 0 = V / 2 ^ s % B32 ^ 0 by rw [Nat.pow_zero, Nat.mod_one]] at hS
    refine a5 (σ := Nat) (fun i ρ w' => i ≤ n ∧ ρ 6 = .int .i64 n ∧ ρ 7 = .int .u64 s ∧ ρ 8 = .slice (some ⟨bu, 0, none⟩) (m + 1) (m + 1) ∧ ρ 10 = .slice (some ⟨b1, 0, none⟩) M M ∧ ρ 24 = .slice (some ⟨b12, 0, none⟩) n n ∧ ρ 25 = .int .i64 i ∧
        St w w' [(b12, 94, Kr .u32 (pad B32 (V / 2 ^ s % B32 ^ i) n)), (b1, 94, Kr .u32 (pad B32 Q M)), (bv, 94, Kr .u32 (pad B32 D (n + 1))), (bu, 94, Kr .u32 (pad B32 V (m + 1)))]) (fun i => n - i) 0
      ⟨Nat.zero_le _, hF.h6, hF.h7, hF.h8, hF.h10, rfl, rfl, hS⟩ ?_
    clear hS hF h11
    rintro i ρ w7 ⟨hi, h6, h7, h8, h10, h24, h25, hS⟩
    repeat (with_reducible first | apply ag | apply ac | apply af | apply ae | apply ab)
    refine aj ?_
    refine aa rfl (ah  h25 ?_)
    refine aa rfl (ah  h6 ?_)
    refine aa rfl (aV  rfl rfl ?_)
    refine ai ?_
    repeat (with_reducible first | apply ag | apply ac | apply af | apply ae | apply ab)
    by_cases hlt : i < n
    · refine aD rfl (decide_eq_true (by omega)) ?_
      repeat (with_reducible first | apply ag | apply ac | apply af | apply ae | apply ab)
      have x1 := bA V i
      have x2 := bA V (i + 1)
      have hg1 : (pad B32 V (m + 1)).getD i 0 = dgt B32 V i := cx _ _ (by omega)
      have hg2 : (pad B32 V (m + 1)).getD (i + 1) 0 = dgt B32 V (i + 1) := cx _ _ (by omega)
      have hor : dgt B32 V (i + 1) * 2 ^ 32 ||| dgt B32 V i = dgt B32 V i + dgt B32 V (i + 1) * 4294967296 := by rw [Nat.or_comm, fA _ _ 32 (by omega)]
      repeat (with_reducible first | apply ag | apply ac | apply af | apply ae | apply ab)
      refine bm [(0, .pure), (1, .pure), (2, .pure), (3, .pure), (4, .pure), (5, .pure), (6, .read), (7, .pure), (8, .pure), (9, .pure), (10, .pure), (11, .pure), (12, .read), (13, .pure), (14, .pure), (15, .pure), (16, .pure), (17, .pure), (18, .pure), (19, .free)] (by kernel_rfl) (by kernel_rfl) hS ?_
      intro wz14 hS hBz14
      refine al rfl rfl (ah  h24 ?_)
      refine al rfl rfl (ah  h25 ?_)
      refine al rfl rfl (ah  h8 ?_)
      refine al rfl rfl (ah  h25 ?_)
      refine al rfl rfl (aK  rfl rfl (IntWalk.i64_in _ (by omega)) ?_)
      refine al rfl rfl (a7 (i := i + 1)  rfl rfl (by omega) (by first | omega | (simp; done) | (simp; omega)) bz ?_)
      refine aF rfl rfl (ct (k := 3) (i := i + 1)  rfl aY hS rfl (by omega) (by first | omega | (simp; done) | (simp; omega)) ?_)
      refine al rfl rfl (aL  rfl Tryz.underlying95 ⟨_, Tryz.underlying94⟩ (r := ((dgt B32 V (i + 1) : Nat) : Int)) (by rw [hg2]; exact aQ _ ⟨rfl, by omega, by omega⟩) ?_)
      refine al rfl rfl (ef  rfl rfl (by omega) (r := ((dgt B32 V (i + 1) * 2 ^ 32 : Nat) : Int)) (by exact ee _ 32 _ (by decide) (aQ _ ⟨rfl, by omega, by omega⟩)) ?_)
      refine al rfl rfl (ah  h8 ?_)
      refine al rfl rfl (ah  h25 ?_)
      refine al rfl rfl (a7 (i := i)  rfl rfl (by omega) (by first | omega | (simp; done) | (simp; omega)) bz ?_)
      refine aF rfl rfl (ct (k := 3) (i := i)  rfl aY hS rfl (by omega) (by first | omega | (simp; done) | (simp; omega)) ?_)
      refine al rfl rfl (aL  rfl Tryz.underlying95 ⟨_, Tryz.underlying94⟩ (r := ((dgt B32 V i : Nat) : Int)) (by rw [hg1]; exact aQ _ ⟨rfl, by omega, by omega⟩) ?_)
      refine al rfl rfl (gN  rfl rfl (r := ((dgt B32 V i + dgt B32 V (i + 1) * 4294967296 : Nat) : Int)) (by rw [← hor]; exact dR rfl _ _ (by show _ < 18446744073709551616; omega) (by show _ < 18446744073709551616; omega)) ?_)
      refine al rfl rfl (ah  h7 ?_)
      refine al rfl rfl (dk  rfl rfl (by omega) (dp _ s (show s ≤ 64 by omega)) ?_)
      refine al rfl rfl (aL  rfl Tryz.underlying94 ⟨_, Tryz.underlying95⟩ (dG _) ?_)
      refine al rfl rfl (a7 (i := i)  rfl rfl (by omega) (by first | omega | (simp; done) | (simp; omega)) bz ?_)
      refine bJ rfl rfl (cW (k := 0) (i := i) (a := _)  rfl rfl rfl aY hS rfl (by omega) (by first | omega | (simp; done) | (simp; omega)) ?_)
      intro wz15 hS
      refine bC ?_
      repeat (with_reducible first | apply ag | apply ac | apply af | apply ae | apply ab)
      rw [List.set_cons_zero, unshift_dgt V s i (by omega), pad_next (by decide)] at hS
      repeat (with_reducible first | apply ag | apply ac | apply af | apply ae | apply ab)
      refine aj ?_
      refine aa rfl (ah  h25 ?_)
      refine aa rfl (aK  rfl rfl (IntWalk.i64_in _ (by omega)) ?_)
      refine aa rfl (am  rfl ?_)
      refine ai ?_
      repeat (with_reducible first | apply ag | apply ac | apply af | apply ae | apply ab)
      exact ⟨i + 1, _, rfl, ⟨hlt, h6, h7, h8, h10, h24, vi rfl (by omega), hS⟩, by omega⟩
    · refine aN rfl (decide_eq_false (by omega)) ?_
      repeat (with_reducible first | apply ag | apply ac | apply af | apply ae | apply ab)
      refine aU ?_
      repeat (with_reducible first | apply aA | apply az | refine ay rfl ?_)
      repeat (with_reducible first | apply ag | apply ac | apply af | apply ae | apply ab)
      obtain rfl : i = n := by omega
      have hlt3 : V / 2 ^ s < B32 ^ i := Nat.lt_of_le_of_lt (Nat.div_le_self _ _) hVn
      rw [Nat.mod_eq_of_lt hlt3] at hS
      have hslr := hS.slk (k := 0) rfl (n := i) (cap := i) (by simp) (Nat.le_refl _) (by omega)
      rw [List.take_of_length_le (by simp)] at hslr
      have hslq := hS.slk (k := 1) rfl (n := M) (cap := M) (by simp) (Nat.le_refl _) (by omega)
      rw [List.take_of_length_le (by simp)] at hslq
      repeat (with_reducible first | apply ag | apply ac | apply af | apply ae | apply ab)
      refine aj ?_
      refine aa rfl (ah  h10 ?_)
      refine ak rfl (av Tryz.call101 rfl (eo _ _ _ hslq (eb (by decide) _ _)) ?_)
      rintro _ wq16 ⟨hq, hq16⟩
      replace hq16 := hq16.symm
      subst hq16
      refine aa rfl (ah  h24 ?_)
      refine ak rfl (av Tryz.call101 rfl (eo _ _ _ hslr (eb (by decide) _ _)) ?_)
      rintro _ wq17 ⟨hr, hq17⟩
      replace hq17 := hq17.symm
      subst hq17
      refine aa rfl (am  rfl ?_)
      refine aa rfl (am  rfl ?_)
      refine ai ?_
      repeat (with_reducible first | apply ag | apply ac | apply af | apply ae | apply ab)
      refine aE ?_
      repeat (with_reducible first | apply ap | apply ao)
      refine dw rfl rfl rfl ?_
      rw [bQ hQM, ← f1] at hq
      rw [bQ hlt3, f3] at hr
      exact ⟨⟨_, _, rfl, hq, hr⟩, hS.below⟩
end Go.Proofs.YtmghobajmhdbfaaGreatDoor
