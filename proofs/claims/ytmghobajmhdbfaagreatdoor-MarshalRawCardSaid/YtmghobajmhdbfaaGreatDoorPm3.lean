/-
  Part 3 of the texts that the law's proof is made of: the framework and the walks.
-/
import Derived.Test.YtmghobajmhdbfaaGreatDoorPm2
namespace Go.Proofs.YtmghobajmhdbfaaGreatDoor
open Go Go.RowKit Go.Sx
section
variable {P : Program} {N : Nat} {ρ : Nat → Value} {ops : Array Oper}
  {d : Option Tmp} {ty : TypeId} {pos : String} {aft : Array Edge} {g : Option (Nat × Bool)} {x y z : Operand} {t e : TypeId} {b o : Nat} {K : Value → Prop}
/-- A part of a slice that is written out, its three numbers given. -/
theorem s_subx {size by_ n cap o' n' c' : Nat} {zz : List Value} {lo hi : Nat} {kl kh : IntKind} {ml mh : Int} (hx : ev N ρ x = .slice (some ⟨b, o, none⟩) n cap) (hl : ev N ρ y = .int kl ml) (hh : ev N ρ z = .int kh mh)
    (hml : ml = (lo : Int)) (hmh : mh = (hi : Int)) (h1 : lo ≤ hi) (h2 : hi ≤ cap) (h3 : lo < cap) (e1 : o + lo * size = o') (e2 : hi - lo = n') (e3 : cap - lo = c') (ht : db P t = some (e, size, by_, zz)) (h : K (.slice (some ⟨b, o', none⟩) n' c')) :
    bP P N ρ ⟨d, .slice t x (some y) (some z) none, ty, pos, aft, g⟩ K := by
  subst e1 e2 e3
  exact s_subo hx hl hh hml hmh h1 h2 h3 ht h
end
theorem pad_take (b v : Nat) {n m : Nat} (h : n ≤ m) : (pad b v m).take n = pad b v n := by
  unfold pad
  rw [← List.map_take, List.take_range, Nat.min_eq_left h]
theorem iw {Y : Nat} (h : 0 < Y) : 0 < (aI Y).length ∧ 0 < dgt B32 Y ((aI Y).length - 1) := by
  have hl : 0 < (aI Y).length := by
    rcases Nat.eq_zero_or_pos (aI Y).length with h0 | h0
    · have := (digs_eq_nil (b := B32) (n := Y) (by decide)).1 (List.eq_nil_of_length_eq_zero h0); omega
    · exact h0
  refine ⟨hl, ?_⟩
  have h1 := ba Y
  have h2 : B32 ^ ((aI Y).length - 1) ≤ Y := pow_le_of_digs_length (by decide) (by show _ < (aI Y).length; omega)
  rw [ed (by decide) (by rw [Nat.sub_add_cancel hl]; exact h1)]
  exact Nat.div_pos h2 (Nat.pow_pos (by decide))
theorem norm_law {Y n c : Nat} (hn : 0 < n) (hY : Y < B32 ^ n) (hc : c < 32) (h1 : dgt B32 Y (n - 1) * 2 ^ c < B32) (h2 : B32 ≤ 2 * (dgt B32 Y (n - 1) * 2 ^ c)) :
    Y * 2 ^ c < B32 ^ n ∧ B32 ^ n ≤ 2 * (Y * 2 ^ c) := by
  obtain ⟨x, hx⟩ : ∃ x, x = dgt B32 Y (n - 1) := ⟨_, rfl⟩
  have hxt : x = Y / B32 ^ (n - 1) := by rw [hx]; exact ed (by decide) (by rw [Nat.sub_add_cancel hn]; exact hY)
  rw [← hx] at h1 h2
  have hp : 0 < B32 ^ (n - 1) := Nat.pow_pos (by decide)
  have hB : B32 ^ n = B32 ^ (n - 1) * B32 := by rw [← Nat.pow_succ]; congr 1; omega
  have e1 := Nat.div_add_mod Y (B32 ^ (n - 1))
  have e2 := Nat.mod_lt Y hp
  rw [← hxt] at e1
  have h3 : (x + 1) * 2 ^ c ≤ B32 := by
    have hb : B32 = 2 ^ (32 - c) * 2 ^ c := by rw [← Nat.pow_add, Nat.sub_add_cancel (by omega)]
    rw [hb] at h1 ⊢
    exact Nat.mul_le_mul_right _ (Nat.lt_of_mul_lt_mul_right h1)
  have hpc : 0 < 2 ^ c := Nat.pow_pos (by decide)
  constructor
  · rw [hB]
    have a1 : Y < B32 ^ (n - 1) * (x + 1) := by rw [Nat.mul_add]; omega
    have a2 : Y * 2 ^ c < B32 ^ (n - 1) * (x + 1) * 2 ^ c := Nat.mul_lt_mul_of_pos_right a1 hpc
    have a3 : B32 ^ (n - 1) * ((x + 1) * 2 ^ c) ≤ B32 ^ (n - 1) * B32 := Nat.mul_le_mul_left _ h3
    rw [← Nat.mul_assoc] at a3
    omega
  · rw [hB]
    have a1 : B32 ^ (n - 1) * x ≤ Y := by rw [hxt]; exact Nat.mul_div_le _ _
    have a2 : B32 ^ (n - 1) * x * 2 ^ c ≤ Y * 2 ^ c := Nat.mul_le_mul_right _ a1
    have a3 : B32 ^ (n - 1) * B32 ≤ B32 ^ (n - 1) * (2 * (x * 2 ^ c)) := Nat.mul_le_mul_left _ h2
    have a4 : B32 ^ (n - 1) * (2 * (x * 2 ^ c)) = 2 * (B32 ^ (n - 1) * x * 2 ^ c) := by rw [Nat.mul_left_comm, Nat.mul_assoc]
    omega
theorem divmod_unique {X Y Q V s : Nat} (hs : 0 < s) (h : X * s = Q * (Y * s) + V) (hV : V < Y * s) : X / Y = Q ∧ V = X % Y * s ∧ V / s = X % Y := by
  have hY : 0 < Y := by rcases Nat.eq_zero_or_pos Y with h0 | h0; · rw [h0] at hV; omega
                        · exact h0
  have h1 : X * s / (Y * s) = Q := by
    rw [h, Nat.add_comm, Nat.add_mul_div_right _ _ (Nat.mul_pos hY hs), Nat.div_eq_of_lt hV, Nat.zero_add]
  have h2 : X * s % (Y * s) = V := by
    rw [h, Nat.mul_add_mod_self_right, Nat.mod_eq_of_lt hV]
  rw [Nat.mul_div_mul_right _ _ hs] at h1
  rw [Nat.mul_mod_mul_right] at h2
  refine ⟨h1, h2.symm, ?_⟩
  rw [← h2, Nat.mul_div_cancel _ hs]
set_option maxHeartbeats 1000000 in
theorem divide_ok (vx vy : Value) (X Y : Nat) (w : World) (hx : Sl (uk .u32) 1 w vx (aI X)) (hy : Sl (uk .u32) 1 w vy (aI Y)) (hY0 : 0 < Y) (hmx : (aI X).length ≤ 4398046511104) (hmy : (aI Y).length ≤ 4398046511104) :
    Ret Tryz.prog 106 #[vx, vy] w fun r w' => (∃ q s, r = .tuple #[q, s] ∧ Sl (uk .u32) 1 w' q (aI (X / Y)) ∧ Sl (uk .u32) 1 w' s (aI (X % Y))) ∧ Below w.heap.size w w' := by
  have hB : B32 = 4294967296 := rfl
  have hS := St.init w
  obtain ⟨m, hm⟩ : ∃ m, m = (aI X).length := ⟨_, rfl⟩
  obtain ⟨n, hn⟩ : ∃ n, n = (aI Y).length := ⟨_, rfl⟩
  have hXm : X < B32 ^ m := hm ▸ ba X
  have hYn : Y < B32 ^ n := hn ▸ ba Y
  obtain ⟨M, hM⟩ : ∃ M, M = m - n + 1 := ⟨_, rfl⟩
  obtain ⟨hn0, htp⟩ := iw hY0
  rw [← hn] at hn0 htp
  have htl := bA Y (n - 1)
  refine enter Tryz.func106 rfl Tryz.ntmps106 rfl ?_
  repeat (with_reducible first | apply ag | apply ac | apply af | apply ae | apply ab)
  refine aj ?_
  refine aa rfl (am  rfl ?_)
  refine aa rfl (am  rfl ?_)
  refine ai ?_
  repeat (with_reducible first | apply ag | apply ac | apply af | apply ae | apply ab)
  refine aj ?_
  refine aa rfl (ah  rfl ?_)
  refine aa rfl (ah  rfl ?_)
  refine ak rfl (av Tryz.call93 rfl (compare_ok _ _ _ _ _ (hx.below hS.below) (hy.below hS.below)) ?_)
  rintro r w1 ⟨rfl, hB1⟩
  replace hS := hS.grow hB1
  refine aa rfl (aV  rfl rfl ?_)
  refine ai ?_
  repeat (with_reducible first | apply ag | apply ac | apply af | apply ae | apply ab)
  by_cases hlt : X < Y
  · refine aD rfl (decide_eq_true (by rw [eQ hlt]; decide)) ?_
    repeat (with_reducible first | apply ag | apply ac | apply af | apply ae | apply ab)
    refine aj ?_
    refine aa rfl (ah  rfl ?_)
    refine aa rfl (am  rfl ?_)
    refine aa rfl (am  rfl ?_)
    refine ai ?_
    repeat (with_reducible first | apply ag | apply ac | apply af | apply ae | apply ab)
    refine aE ?_
    repeat (with_reducible first | apply ap | apply ao)
    refine dw rfl rfl rfl ?_
    refine ⟨⟨_, _, rfl, ?_, ?_⟩, hS.below⟩
    · rw [Nat.div_eq_of_lt hlt, aI, cA]; exact Sl.nil _ _ _
    · rw [Nat.mod_eq_of_lt hlt]; exact hx.below hS.below
  · have hge : Y ≤ X := Nat.le_of_not_lt hlt
    have hnm : n ≤ m := by rw [hn, hm]; exact cj (by decide) hge
    have hcmp : ¬ eh X Y < 0 := by
      rcases Nat.lt_or_ge Y X with h | h
      · rw [eM h]; decide
      · rw [show X = Y by omega, fF]; decide
    refine aN rfl (decide_eq_false hcmp) ?_
    repeat (with_reducible first | apply ag | apply ac | apply af | apply ae | apply ab)
    refine aj ?_
    refine aa rfl (ah  rfl ?_)
    refine aa rfl (aG  rfl (hy.below hS.below) ⟨_, Tryz.underlying92⟩ ?_)
    refine aa rfl (c6  rfl rfl ?_)
    refine ai ?_
    repeat (with_reducible first | apply ag | apply ac | apply af | apply ae | apply ab)
    by_cases h1 : n = 1
    · refine aD rfl (decide_eq_true (by omega)) ?_
      repeat (with_reducible first | apply ag | apply ac | apply af | apply ae | apply ab)
      have hg : (aI Y).getD 0 0 = Y := by
        rw [bh, dgt, Nat.pow_zero, Nat.div_one]
        rw [h1, Nat.pow_one] at hYn
        exact Nat.mod_eq_of_lt hYn
      have hYl : Y ≤ 4294967295 := by rw [h1, Nat.pow_one] at hYn; omega
      repeat (with_reducible first | apply ag | apply ac | apply af | apply ae | apply ab)
      refine aj ?_
      refine aa rfl (ah  rfl ?_)
      refine aa rfl (ah  rfl ?_)
      refine aa rfl (aX (i := 0)  rfl rfl (hy.below hS.below) (by omega) (by first | omega | (simp; done) | (simp; omega)) bD ?_)
      refine aw rfl (a6 (i := 0) 0  rfl aY (hy.below hS.below) (by first | omega | (simp; done) | (simp; omega)) rfl rfl (.inr rfl) ?_)
      rw [hg]
      refine ak rfl (av Tryz.call115 rfl (divideSmall_ok _ _ _ _ (hx.below hS.below) hY0 hYl (by omega)) ?_)
      rintro r w2 ⟨⟨q, rfl, hq⟩, hB2⟩
      replace hS := hS.grow hB2
      refine aa rfl (ah  rfl ?_)
      refine aa rfl (bL  rfl rfl ?_)
      refine aa rfl (bL  rfl rfl ?_)
      refine aa rfl (am  rfl ?_)
      refine aa rfl (am  rfl ?_)
      refine ai ?_
      repeat (with_reducible first | apply ag | apply ac | apply af | apply ae | apply ab)
      have hml : X % Y ≤ 4294967295 := by have := Nat.mod_lt X hY0; omega
      have hq0 : Sl (uk .u32) 1 w2 q (aI (X / Y)) := hq
      repeat (with_reducible first | apply ag | apply ac | apply af | apply ae | apply ab)
      refine aj ?_
      refine aa rfl (ah  rfl ?_)
      refine aa rfl (ah  rfl ?_)
      refine ak rfl (dJ (vs := [_])  rfl bD rfl (by decide) (by decide) (by decide) (by simp [Value.cells]) rfl hS ?_)
      intro b1 wz2 hS hBz2
      have hq1 := hq0.below hBz2
      have hsl := St.slk (L := [X % Y]) hS (k := 0) rfl (n := 1) (cap := 1) (by simp) (by omega) (by omega)
      refine ak rfl (av Tryz.call90 rfl (gv _ _ _ hsl (by intro d hd; rw [List.take_of_length_le (by simp)] at hd; rw [List.mem_singleton.1 hd]; omega)) ?_)
      rintro v w4 ⟨hv, rfl⟩
      refine aa rfl (am  rfl ?_)
      refine aa rfl (am  rfl ?_)
      refine ai ?_
      repeat (with_reducible first | apply ag | apply ac | apply af | apply ae | apply ab)
      refine aE ?_
      repeat (with_reducible first | apply ap | apply ao)
      refine dw rfl rfl rfl ?_
      refine ⟨⟨_, _, rfl, hq1, ?_⟩, hS.below⟩
      have e : bj B32 ([X % Y].take 1) = X % Y := by simp [bj]
      rwa [e] at hv
    · refine aN rfl (decide_eq_false (by omega)) ?_
      repeat (with_reducible first | apply ag | apply ac | apply af | apply ae | apply ab)
      have hgt : (aI Y).getD (n - 1) 0 = dgt B32 Y (n - 1) := bh Y (n - 1)
      repeat (with_reducible first | apply ag | apply ac | apply af | apply ae | apply ab)
      refine aj ?_
      refine aa rfl (ah  rfl ?_)
      refine aa rfl (ah  rfl ?_)
      refine aa rfl (aG  rfl (hy.below hS.below) ⟨_, Tryz.underlying92⟩ ?_)
      refine aa rfl (bG  rfl rfl (IntWalk.i64_in _ (by omega)) ?_)
      refine aa rfl (aX (i := n - 1)  rfl rfl (hy.below hS.below) (by omega) (by first | omega | (simp; done) | (simp; omega)) bD ?_)
      refine aw rfl (a6 (i := n - 1) 0  rfl aY (hy.below hS.below) (by first | omega | (simp; done) | (simp; omega)) rfl rfl (.inr rfl) ?_)
      rw [hgt]
      refine ak rfl (av Tryz.call116 rfl (LeadingZeros32_ok _ _ htp (by omega)) ?_)
      rintro r w2 ⟨⟨c, hc, hc1, hc2, rfl⟩, rfl⟩
      obtain ⟨hD, hD2⟩ := norm_law hn0 hYn hc hc1 hc2
      have hpc : 0 < 2 ^ c := Nat.pow_pos (by decide)
      have hpc2 : 2 ^ c ≤ 2 ^ 31 := Nat.pow_le_pow_right (by decide) (by omega)
      obtain ⟨D, hDe⟩ : ∃ D, D = Y * 2 ^ c := ⟨_, rfl⟩
      rw [← hDe] at hD hD2
      have hD0 : 0 < D := by rw [hDe]; exact Nat.mul_pos hY0 hpc
      have hUm : X * 2 ^ c < B32 ^ (m + 1) := by
        have h3 : X * 2 ^ c < B32 ^ m * 2 ^ c := Nat.mul_lt_mul_of_pos_right hXm hpc
        have h4 : B32 ^ m * 2 ^ c ≤ B32 ^ m * B32 := Nat.mul_le_mul_left _ (by omega)
        rw [Nat.pow_succ]; omega
      have hUD : X * 2 ^ c < D * B32 ^ (m - n + 1) := by
        have h3 : X * 2 ^ c < B32 ^ m * 2 ^ c := Nat.mul_lt_mul_of_pos_right hXm hpc
        have h4 : B32 ^ m * 2 ^ c ≤ B32 ^ m * 2 ^ 31 := Nat.mul_le_mul_left _ hpc2
        have h5 : B32 ^ n * B32 ^ (m - n + 1) = B32 ^ m * B32 := by rw [← Nat.pow_add, ← Nat.pow_succ]; congr 1; omega
        have h6 : B32 ^ n * B32 ^ (m - n + 1) ≤ 2 * D * B32 ^ (m - n + 1) := Nat.mul_le_mul_right _ hD2
        rw [Nat.mul_assoc] at h6
        have h7 : B32 ^ m * B32 = B32 ^ m * 4294967296 := rfl
        omega
      refine aa rfl (aL  rfl Tryz.underlying85 ⟨_, Tryz.underlying3⟩ (IntWalk.u64_in _ (by omega)) ?_)
      refine aa rfl (am  rfl ?_)
      refine ai ?_
      repeat (with_reducible first | apply ag | apply ac | apply af | apply ae | apply ab)
      refine aj ?_
      refine aa rfl (ah  rfl ?_)
      refine aa rfl (aG  rfl (hy.below hS.below) ⟨_, Tryz.underlying92⟩ ?_)
      refine aa rfl (am  rfl ?_)
      refine ai ?_
      repeat (with_reducible first | apply ag | apply ac | apply af | apply ae | apply ab)
      refine aj ?_
      refine aa rfl (ah  rfl ?_)
      refine aa rfl (ah  rfl ?_)
      refine aa rfl (ah  rfl ?_)
      refine ak rfl (av Tryz.call117 rfl (shift_ok _ _ _ _ _ (hy.below hS.below) hc (Nat.le_refl _) (by rw [← hn, ← hDe]; exact hD) (by omega)) ?_)
      rintro r w3 ⟨⟨bd, rfl, hbd1, hbd2⟩, hB3⟩
      replace hS := hS.push hB3 hbd1 hbd2
      refine aa rfl (am  rfl ?_)
      refine ai ?_
      repeat (with_reducible first | apply ag | apply ac | apply af | apply ae | apply ab)
      refine aj ?_
      refine aa rfl (ah  rfl ?_)
      refine aa rfl (ah  rfl ?_)
      refine aa rfl (ah  rfl ?_)
      refine aa rfl (aG  rfl (hx.below hS.below) ⟨_, Tryz.underlying92⟩ ?_)
      refine aa rfl (aK  rfl rfl (IntWalk.i64_in _ (by omega)) ?_)
      have hs2 := shift_ok vx X c (m + 1) w3 (hx.below hS.below) hc (by omega) hUm (by omega)
      refine ak rfl (av Tryz.call117 rfl ((by rw [hm] at hs2; exact hs2)) ?_)
      rintro r w4 ⟨⟨bu, rfl, hbu1, hbu2⟩, hB4⟩
      replace hS := hS.push hB4 hbu1 hbu2
      rw [← hm, ← hn, ← hDe] at hS
      refine aa rfl (am  rfl ?_)
      refine ai ?_
      repeat (with_reducible first | apply ag | apply ac | apply af | apply ae | apply ab)
      refine aj ?_
      refine aa rfl (ah  rfl ?_)
      refine aa rfl (aG  rfl (hx.below hS.below) ⟨_, Tryz.underlying92⟩ ?_)
      refine aa rfl (ah  rfl ?_)
      refine aa rfl (bG  rfl rfl (IntWalk.i64_in _ (by omega)) ?_)
      refine aa rfl (aK  rfl rfl (IntWalk.i64_in _ (by omega)) ?_)
      refine ak rfl (c4 (n := M)  rfl rfl bD (by omega) (by omega) (by omega) (by omega) hS ?_)
      intro b3 wz4 hS hBz4
      refine aa rfl (am  rfl ?_)
      refine ai ?_
      repeat (with_reducible first | apply ag | apply ac | apply af | apply ae | apply ab)
      replace hS := hS.perm (H' := [(bu, 94, Kr .u32 (pad B32 (X * 2 ^ c) (m + 1))), (bd, 94, Kr .u32 (pad B32 D n)), (b3, 94, Kr .u32 (pad B32 (B32 ^ M * 0) M))])
        (by rw [Nat.mul_zero, cH]; exact (List.Perm.swap _ _ _).trans ((List.Perm.swap _ _ _).cons _))
      repeat (with_reducible first | apply ag | apply ac | apply af | apply ae | apply ab)
      refine aj ?_
      refine aa rfl (ah  rfl ?_)
      refine aa rfl (dC  rfl ⟨_, Tryz.underlying92⟩ ?_)
      refine aa rfl (bG  rfl rfl (IntWalk.i64_in _ (by omega)) ?_)
      refine aa rfl (am  rfl ?_)
      refine ai ?_
      repeat (with_reducible first | apply ag | apply ac | apply af | apply ae | apply ab)
      refine a5 (σ := Nat × Nat × Nat) (fun s ρ w' => s.1 ≤ M ∧ X * 2 ^ c = s.2.1 * D * B32 ^ s.1 + s.2.2 ∧ s.2.2 < D * B32 ^ s.1 ∧ ρ 8 = .int .u64 c ∧ ρ 9 = .int .i64 n ∧ ρ 10 = .slice (some ⟨bd, 0, none⟩) n n ∧ ρ 11 = .slice (some ⟨bu, 0, none⟩) (m + 1) (m + 1) ∧ ρ 12 = .slice (some ⟨b3, 0, none⟩) M M ∧ ρ 13 = .int .i64 ((s.1 : Int) - 1) ∧
          St w w' [(bu, 94, Kr .u32 (pad B32 s.2.2 (m + 1))), (bd, 94, Kr .u32 (pad B32 D n)), (b3, 94, Kr .u32 (pad B32 (B32 ^ s.1 * s.2.1) M))]) (fun s => s.1) (M, 0, X * 2 ^ c)
        ⟨Nat.le_refl _, by simp, by simp only; rw [hM]; exact hUD, vi rfl (by omega), vi rfl (by rw [hn]), by rw [hn]; rfl, by rw [hm]; rfl, rfl, vi rfl (by omega), hS⟩ ?_
      clear hS
      rintro ⟨k, Q, V⟩ ρ w6 ⟨hk, hinv, hV, h8, h9, h10, h11, h12, h13, hS⟩
      simp only at hk hinv hV h8 h9 h10 h11 h12 h13 hS
      repeat (with_reducible first | apply ag | apply ac | apply af | apply ae | apply ab)
      refine aj ?_
      refine aa rfl (ah  h13 ?_)
      refine aa rfl (df  rfl rfl ?_)
      refine ai ?_
      repeat (with_reducible first | apply ag | apply ac | apply af | apply ae | apply ab)
      by_cases hk0 : 0 < k
      · refine aD rfl (decide_eq_true (by omega)) ?_
        repeat (with_reducible first | apply ag | apply ac | apply af | apply ae | apply ab)
        have hpk : 0 < B32 ^ (k - 1) := Nat.pow_pos (by decide)
        have hkk : B32 ^ k = B32 ^ (k - 1) * B32 := by rw [← Nat.pow_succ]; congr 1; omega
        have hVs : V % B32 ^ (k - 1) + B32 ^ (k - 1) * (V / B32 ^ (k - 1)) = V := Nat.mod_add_div _ _
        have hU : V / B32 ^ (k - 1) < D * B32 := by
          refine Nat.div_lt_of_lt_mul ?_
          rw [hkk] at hV
          rw [Nat.mul_left_comm]; exact hV
        have hlo : V % B32 ^ (k - 1) < B32 ^ (k - 1) := Nat.mod_lt _ hpk
        obtain ⟨lo, hloe⟩ : ∃ lo, lo = V % B32 ^ (k - 1) := ⟨_, rfl⟩
        obtain ⟨U, hUe⟩ : ∃ U, U = V / B32 ^ (k - 1) := ⟨_, rfl⟩
        rw [← hloe, ← hUe] at hVs
        rw [← hUe] at hU
        rw [← hloe] at hlo
        have hq0 : U / D < B32 := Nat.div_lt_of_lt_mul hU
        have hQ : B32 ^ k * Q < B32 ^ M := by
          rcases Nat.lt_or_ge (B32 ^ k * Q) (B32 ^ M) with h | h
          · exact h
          · exfalso
            have h3 : D * B32 ^ M ≤ D * (B32 ^ k * Q) := Nat.mul_le_mul_left _ h
            have h4 : D * (B32 ^ k * Q) = Q * D * B32 ^ k := by ac_rfl
            rw [← hM] at hUD
            omega
        obtain ⟨e1, e2⟩ := fw (b := B32) (q := Q) (i := k) (e := U / D) (n := M) (by decide) hq0 hk0 hk hQ
        rw [← hVs] at hS
        repeat (with_reducible first | apply ag | apply ac | apply af | apply ae | apply ab)
        refine aj ?_
        refine aa rfl (ah  h12 ?_)
        refine aa rfl (ah  h13 ?_)
        refine aa rfl (ah  h11 ?_)
        refine aa rfl (ah  h13 ?_)
        refine aa rfl (ah  h13 ?_)
        refine aa rfl (ah  h9 ?_)
        refine aa rfl (aK  rfl rfl (IntWalk.i64_in _ (by omega)) ?_)
        refine aa rfl (aK  rfl rfl (IntWalk.i64_in _ (by omega)) ?_)
        refine aa rfl (s_subx (lo := k - 1) (hi := k - 1 + n + 1) (o' := k - 1) (n' := n + 1) (c' := m + 1 - (k - 1))  rfl rfl rfl (by omega) (by omega) (by omega) (by omega) (by omega) (by omega) (by omega) rfl bD ?_)
        refine aa rfl (ah  h10 ?_)
        refine ak rfl (av Tryz.call118 rfl (step_ok w w6 [(b3, 94, Kr .u32 (pad B32 (B32 ^ k * Q) M))] bu bd (k - 1) (m + 1 - (k - 1)) n (m + 1) lo U D hS hlo (by omega) hD hD2 hU (by omega) (by omega)) ?_)
        rintro r w7 ⟨rfl, hS⟩
        have hq1 : U / D ≤ 4294967295 := by omega
        refine aa rfl (a7 (i := k - 1)  rfl rfl (by omega) (by first | omega | (simp; done) | (simp; omega)) bD ?_)
        refine ak rfl (cW (k := 2) (i := k - 1) (a := (U / D))  rfl rfl rfl aY hS rfl (by omega) (by first | omega | (simp; done) | (simp; omega)) ?_)
        intro wz5 hS
        refine ai ?_
        repeat (with_reducible first | apply ag | apply ac | apply af | apply ae | apply ab)
        rw [show ∀ (a b c d : Blk), [a, b, c].set 2 d = [a, b, d] from fun _ _ _ _ => rfl, e1] at hS
        repeat (with_reducible first | apply ag | apply ac | apply af | apply ae | apply ab)
        refine aj ?_
        refine aa rfl (ah  h13 ?_)
        refine aa rfl (bG  rfl rfl (IntWalk.i64_in _ (by omega)) ?_)
        refine aa rfl (am  rfl ?_)
        refine ai ?_
        repeat (with_reducible first | apply ag | apply ac | apply af | apply ae | apply ab)
        refine ⟨(k - 1, B32 * Q + U / D, lo + B32 ^ (k - 1) * (U % D)), _, rfl, ⟨by simp only; omega, ?_, ?_, h8, h9, h10, h11, h12, vi rfl (by simp only; omega), hS⟩, by simp only; omega⟩
        · simp only
          have g1 := Nat.div_add_mod U D
          have g2 : B32 ^ (k - 1) * U = B32 ^ (k - 1) * (D * (U / D)) + B32 ^ (k - 1) * (U % D) := by rw [← Nat.mul_add, g1]
          have g3 : (B32 * Q + U / D) * D * B32 ^ (k - 1) = Q * D * B32 ^ k + B32 ^ (k - 1) * (D * (U / D)) := by
            rw [hkk, Nat.add_mul, Nat.add_mul]; congr 1 <;> ac_rfl
          rw [g3, hinv, ← hVs, g2]; omega
        · simp only
          have g1 : U % D + 1 ≤ D := Nat.mod_lt _ hD0
          have g2 : B32 ^ (k - 1) * (U % D + 1) ≤ B32 ^ (k - 1) * D := Nat.mul_le_mul_left _ g1
          rw [Nat.mul_comm D, Nat.mul_add] at *
          omega
      · refine aN rfl (decide_eq_false (by omega)) ?_
        repeat (with_reducible first | apply ag | apply ac | apply af | apply ae | apply ab)
        refine aU ?_
        repeat (with_reducible first | apply aA | apply az | refine ay rfl ?_)
        repeat (with_reducible first | apply ag | apply ac | apply af | apply ae | apply ab)
        obtain rfl : k = 0 := by omega
        rw [Nat.pow_zero, Nat.mul_one] at hinv hV
        rw [Nat.pow_zero, Nat.one_mul] at hS
        rw [hDe] at hinv hV
        obtain ⟨f1, f2, f3⟩ := divmod_unique hpc hinv hV
        rw [← hDe] at hinv hV
        have hQM : Q < B32 ^ M := by
          rcases Nat.lt_or_ge Q (B32 ^ M) with h | h
          · exact h
          · exfalso
            have h3 : D * B32 ^ M ≤ D * Q := Nat.mul_le_mul_left _ h
            rw [Nat.mul_comm D Q] at h3
            rw [← hM] at hUD
            omega
        repeat (with_reducible first | apply ag | apply ac | apply af | apply ae | apply ab)
        refine bm [(0, .pure), (2, .pure), (3, .pure), (4, .pure), (5, .pure), (1, .grow), (6, .grow), (7, .pure), (8, .pure)] (by kernel_rfl) (by kernel_rfl) hS ?_
        intro wz6 hS hBz6
        refine al rfl rfl (ah  h12 ?_)
        refine al rfl rfl (ah  h11 ?_)
        refine al rfl rfl (ah  h9 ?_)
        refine al rfl rfl (s_suboh (hi := n)  rfl rfl rfl (by omega) bD ?_)
        refine al rfl rfl (ah  h8 ?_)
        have hslq := hS.slk (k := 2) rfl (n := M) (cap := M) (by simp) (Nat.le_refl _) (by omega)
        rw [List.take_of_length_le (by simp)] at hslq
        refine aS rfl rfl (av Tryz.call90 rfl (gv _ _ _ hslq (eb (by decide) _ _)) ?_)
        rintro q w8 ⟨hq, rfl⟩
        refine ⟨(Below.refl _ _), ?_⟩
        have hslu := hS.slk (k := 0) rfl (n := n) (cap := m + 1) (by simp; omega) (by omega) (by omega)
        rw [pad_take _ _ (by omega)] at hslu
        refine aS rfl rfl (av Tryz.call119 rfl (unshift_ok _ V c n _ hslu hc (by omega) (by omega)) ?_)
        rintro s w9 ⟨hs, hB9⟩
        refine ⟨hB9, ?_⟩
        refine al rfl rfl (am  rfl ?_)
        refine al rfl rfl (am  rfl ?_)
        refine bC ?_
        repeat (with_reducible first | apply ag | apply ac | apply af | apply ae | apply ab)
        refine aE ?_
        repeat (with_reducible first | apply ap | apply ao)
        refine dw rfl rfl rfl ?_
        rw [bQ hQM, ← f1] at hq
        rw [f3] at hs
        exact ⟨⟨_, _, rfl, hq.below hB9, hs⟩, hS.below.trans (hB9.mono hS.below.size)⟩
end Go.Proofs.YtmghobajmhdbfaaGreatDoor
namespace Go.Proofs.YtmghobajmhdbfaaGreatDoor
open Go Go.RowKit Go.Sx
theorem cp {m n : Nat} (h : m ≤ n) : (aI m).length ≤ (aI n).length := cj (by decide) h
theorem limb_nil_iff {n : Nat} : (aI n).length = 0 ↔ n = 0 := by
  rw [List.length_eq_zero_iff]; exact digs_eq_nil (by decide)
theorem Divide_ok (a b : ByteArray) (w : World) (ha : a.size ≤ 4398046511104) (hb : b.size ≤ 4398046511104) (h0 : val b ≠ 0) :
    Ret Tryz.prog 91 #[.string a, .string b] w fun r w' => r = .tuple #[.string (aT (val a / val b)), .string (aT (val a % val b)), .bool true] ∧ Below w.heap.size w w' := by
  have hla := cd a
  have hlb := cd b
  have hne : (aI (val b)).length ≠ 0 := fun h => h0 (limb_nil_iff.1 h)
  have hS := St.init w
  refine enter Tryz.func91 rfl Tryz.ntmps91 rfl ?_
  repeat (with_reducible first | apply ag | apply ac | apply af | apply ae | apply ab)
  refine aj ?_
  refine aa rfl (am  rfl ?_)
  refine aa rfl (am  rfl ?_)
  refine aa rfl (am  rfl ?_)
  refine ai ?_
  repeat (with_reducible first | apply ag | apply ac | apply af | apply ae | apply ab)
  refine aj ?_
  refine aa rfl (ah  rfl ?_)
  refine ak rfl (av Tryz.call62 rfl (dN _ _ (by omega)) ?_)
  rintro vy w1 ⟨hy, hB1⟩
  replace hS := hS.grow hB1
  refine aa rfl (am  rfl ?_)
  refine ai ?_
  repeat (with_reducible first | apply ag | apply ac | apply af | apply ae | apply ab)
  refine aj ?_
  refine aa rfl (ah  rfl ?_)
  refine aa rfl (aG  rfl hy ⟨_, Tryz.underlying92⟩ ?_)
  refine aa rfl (c6  rfl rfl ?_)
  refine ai ?_
  repeat (with_reducible first | apply ag | apply ac | apply af | apply ae | apply ab)
  refine aN rfl (decide_eq_false (by omega)) ?_
  repeat (with_reducible first | apply ag | apply ac | apply af | apply ae | apply ab)
  refine aj ?_
  refine aa rfl (ah  rfl ?_)
  refine ak rfl (av Tryz.call62 rfl (dN _ _ (by omega)) ?_)
  rintro vx w2 ⟨hx, hB2⟩
  replace hS := hS.grow hB2
  refine aa rfl (ah  rfl ?_)
  refine ak rfl (av Tryz.call106 rfl (divide_ok _ _ _ _ _ hx (hy.below hB2) (by omega) (by omega) (by omega)) ?_)
  rintro r w3 ⟨⟨q, s, rfl, hq, hs⟩, hB3⟩
  replace hS := hS.grow hB3
  refine aa rfl (ah  rfl ?_)
  refine aa rfl (bL  rfl rfl ?_)
  refine aa rfl (bL  rfl rfl ?_)
  refine aa rfl (am  rfl ?_)
  refine aa rfl (am  rfl ?_)
  refine ai ?_
  repeat (with_reducible first | apply ag | apply ac | apply af | apply ae | apply ab)
  have hlq := cp (Nat.div_le_self (val a) (val b))
  have hls := cp (Nat.mod_le (val a) (val b))
  repeat (with_reducible first | apply ag | apply ac | apply af | apply ae | apply ab)
  refine aj ?_
  refine aa rfl (ah  rfl ?_)
  refine ak rfl (av Tryz.call63 rfl (fM _ _ _ hq (fV _) (by omega)) ?_)
  rintro r w4 ⟨rfl, hB4⟩
  replace hS := hS.grow hB4
  refine aa rfl (ah  rfl ?_)
  refine ak rfl (av Tryz.call63 rfl (fM _ _ _ (hs.below hB4) (fV _) (by omega)) ?_)
  rintro r w5 ⟨rfl, hB5⟩
  replace hS := hS.grow hB5
  refine aa rfl (am  rfl ?_)
  refine aa rfl (am  rfl ?_)
  refine aa rfl (am  rfl ?_)
  refine ai ?_
  repeat (with_reducible first | apply ag | apply ac | apply af | apply ae | apply ab)
  refine aE ?_
  repeat (with_reducible first | apply ap | apply ao)
  refine r_three rfl rfl rfl rfl ?_
  refine ⟨?_, hS.below⟩
  rw [dA, dA]
  rfl
theorem GCD_ok (a b : ByteArray) (w : World) (ha : a.size ≤ 4398046511104) (hb : b.size ≤ 4398046511104) :
    Ret Tryz.prog 87 #[.string a, .string b] w fun r w' => r = .string (aT (Nat.gcd (val a) (val b))) ∧ Below w.heap.size w w' := by
  have hla := cd a
  have hlb := cd b
  have hS := St.init w
  refine enter Tryz.func87 rfl Tryz.ntmps87 rfl ?_
  repeat (with_reducible first | apply ag | apply ac | apply af | apply ae | apply ab)
  refine aj ?_
  refine aa rfl (am  rfl ?_)
  refine ai ?_
  repeat (with_reducible first | apply ag | apply ac | apply af | apply ae | apply ab)
  refine aj ?_
  refine aa rfl (ah  rfl ?_)
  refine ak rfl (av Tryz.call62 rfl (dN _ _ (by omega)) ?_)
  rintro vx w1 ⟨hx, hB1⟩
  replace hS := hS.grow hB1
  refine aa rfl (ah  rfl ?_)
  refine ak rfl (av Tryz.call62 rfl (dN _ _ (by omega)) ?_)
  rintro vy w2 ⟨hy, hB2⟩
  replace hS := hS.grow hB2
  refine aa rfl (am  rfl ?_)
  refine aa rfl (am  rfl ?_)
  refine ai ?_
  repeat (with_reducible first | apply ag | apply ac | apply af | apply ae | apply ab)
  refine a5 (σ := Nat × Nat) (fun s ρ w' => Nat.gcd s.1 s.2 = Nat.gcd (val a) (val b) ∧ (aI s.1).length ≤ 4398046511104 ∧ (aI s.2).length ≤ 4398046511104 ∧ (∃ vx vy, ρ 5 = vx ∧ ρ 6 = vy ∧ Sl (uk .u32) 1 w' vx (aI s.1) ∧ Sl (uk .u32) 1 w' vy (aI s.2)) ∧ St w w' []) (fun s => s.2) (val a, val b)
    ⟨rfl, by simp only; omega, by simp only; omega, ⟨_, _, rfl, rfl, hx.below hB2, hy⟩, hS⟩ ?_
  clear hS hx hy
  rintro ⟨X, Y⟩ ρ w3 ⟨hg, hX, hY, ⟨vx, vy, h5, h6, hx, hy⟩, hS⟩
  simp only at hg hX hY hx hy
  repeat (with_reducible first | apply ag | apply ac | apply af | apply ae | apply ab)
  refine aj ?_
  refine aa rfl (ah  h6 ?_)
  refine aa rfl (aG  rfl hy ⟨_, Tryz.underlying92⟩ ?_)
  refine aa rfl (cf  rfl rfl ?_)
  refine ai ?_
  repeat (with_reducible first | apply ag | apply ac | apply af | apply ae | apply ab)
  have hyn : (aI Y).length = 0 ↔ Y = 0 := limb_nil_iff
  by_cases hY0 : Y = 0
  · refine aN rfl (decide_eq_false (by omega)) ?_
    repeat (with_reducible first | apply ag | apply ac | apply af | apply ae | apply ab)
    refine aU ?_
    repeat (with_reducible first | apply aA | apply az | refine ay rfl ?_)
    repeat (with_reducible first | apply ag | apply ac | apply af | apply ae | apply ab)
    refine aj ?_
    refine aa rfl (ah  h5 ?_)
    refine ak rfl (av Tryz.call63 rfl (fM _ _ _ hx (fV _) (by omega)) ?_)
    rintro r w4 ⟨rfl, hB4⟩
    refine aa rfl (am  rfl ?_)
    refine ai ?_
    repeat (with_reducible first | apply ag | apply ac | apply af | apply ae | apply ab)
    refine aE ?_
    repeat (with_reducible first | apply ap | apply ao)
    refine aR rfl rfl ?_
    rw [dA]
    rw [hY0, Nat.gcd_zero_right] at hg
    rw [hg]
    exact ⟨rfl, hS.below.trans (hB4.mono hS.below.size)⟩
  · refine aD rfl (decide_eq_true (by omega)) ?_
    repeat (with_reducible first | apply ag | apply ac | apply af | apply ae | apply ab)
    have hlt : X % Y < Y := Nat.mod_lt _ (by omega)
    have hls := cp (Nat.le_of_lt hlt)
    repeat (with_reducible first | apply ag | apply ac | apply af | apply ae | apply ab)
    refine aj ?_
    refine aa rfl (ah  h5 ?_)
    refine aa rfl (ah  h6 ?_)
    refine ak rfl (av Tryz.call106 rfl (divide_ok _ _ _ _ _ hx hy (by omega) (by omega) (by omega)) ?_)
    rintro r w4 ⟨⟨q, s, rfl, hq, hs⟩, hB4⟩
    refine aa rfl (ah  rfl ?_)
    refine aa rfl (bL  rfl rfl ?_)
    refine aa rfl (bL  rfl rfl ?_)
    refine aa rfl (am  rfl ?_)
    refine aa rfl (am  rfl ?_)
    refine ai ?_
    repeat (with_reducible first | apply ag | apply ac | apply af | apply ae | apply ab)
    refine aj ?_
    refine aa rfl (ah  h6 ?_)
    refine aa rfl (ah  rfl ?_)
    refine aa rfl (am  rfl ?_)
    refine aa rfl (am  rfl ?_)
    refine ai ?_
    repeat (with_reducible first | apply ag | apply ac | apply af | apply ae | apply ab)
    refine ⟨(Y, X % Y), _, rfl, ⟨?_, hY, by simp only; omega, ⟨vy, s, rfl, rfl, hy.below hB4, hs⟩, hS.grow hB4⟩, hlt⟩
    simp only
    rw [← hg, Nat.gcd_comm Y, ← Nat.gcd_rec, Nat.gcd_comm]
end Go.Proofs.YtmghobajmhdbfaaGreatDoor
namespace Go.Proofs.YtmghobajmhdbfaaGreatDoor
open Go Go.RowKit Go.Sx
/-- The numbers' lengths that the walks take. -/
abbrev MX : Nat := 1099511627776
theorem N_gcd (m n : Nat) (w : World) (hm : (aT m).size ≤ 4398046511104) (hn : (aT n).size ≤ 4398046511104) :
    Ret Tryz.prog 87 #[.string (aT m), .string (aT n)] w fun r w' => r = .string (aT (Nat.gcd m n)) ∧ Below w.heap.size w w' := by
  have h := GCD_ok (aT m) (aT n) w hm hn
  rwa [br, br] at h
theorem N_div (m n : Nat) (w : World) (hm : (aT m).size ≤ 4398046511104) (hn : (aT n).size ≤ 4398046511104) (h0 : n ≠ 0) :
    Ret Tryz.prog 91 #[.string (aT m), .string (aT n)] w fun r w' => r = .tuple #[.string (aT (m / n)), .string (aT (m % n)), .bool true] ∧ Below w.heap.size w w' := by
  have h := Divide_ok (aT m) (aT n) w hm hn (by rwa [br])
  rwa [br, br] at h
theorem jf (m n : Nat) (w : World) (hm : (aT m).size ≤ 4398046511104) (hn : (aT n).size ≤ 4398046511104) :
    Ret Tryz.prog 34 #[.string (aT m), .string (aT n)] w fun r w' => r = .string (aT (m * n)) ∧ Below w.heap.size w w' := by
  have h := Multiply_ok (aT m) (aT n) w hm hn
  rwa [br, br] at h
theorem N_add (m n : Nat) (w : World) (hm : (aT m).size ≤ 4398046511104) (hn : (aT n).size ≤ 4398046511104) :
    Ret Tryz.prog 65 #[.string (aT m), .string (aT n)] w fun r w' => r = .string (aT (m + n)) ∧ Below w.heap.size w w' := by
  have h := Add_ok (aT m) (aT n) w hm hn
  rwa [br, br] at h
theorem N_cmp (m n : Nat) (w : World) (hm : (aT m).size ≤ 4398046511104) (hn : (aT n).size ≤ 4398046511104) :
    Ret Tryz.prog 33 #[.string (aT m), .string (aT n)] w fun r w' => r = .int .i64 (eh m n) ∧ w' = w := by
  have h := Compare_ok (aT m) (aT n) w (by omega) (by omega)
  rwa [br, br] at h
theorem N_sub (m n : Nat) (w : World) (hm : (aT m).size ≤ 4398046511104) (hn : (aT n).size ≤ 4398046511104) (hle : n ≤ m) :
    Ret Tryz.prog 66 #[.string (aT m), .string (aT n)] w fun r w' => r = .tuple #[.string (aT (m - n)), .bool true] ∧ Below w.heap.size w w' := by
  have h := Subtract_ok (aT m) (aT n) w hm hn
  rw [br, br] at h
  exact h.mono fun _ _ g => by rwa [if_pos hle] at g
theorem N_sub_no (m n : Nat) (w : World) (hm : (aT m).size ≤ 4398046511104) (hn : (aT n).size ≤ 4398046511104) (hlt : m < n) :
    Ret Tryz.prog 66 #[.string (aT m), .string (aT n)] w fun r w' => r = .tuple #[.string ⟨#[]⟩, .bool false] ∧ Below w.heap.size w w' := by
  have h := Subtract_ok (aT m) (aT n) w hm hn
  rw [br, br] at h
  exact h.mono fun _ _ g => by rwa [if_neg (Nat.not_le_of_gt hlt)] at g
end Go.Proofs.YtmghobajmhdbfaaGreatDoor
namespace Go.Proofs.YtmghobajmhdbfaaGreatDoor
open Go Go.RowKit Go.Sx
theorem nsz (s : ByteArray) {k : Nat} (h : s.size ≤ k) : (aT (val s)).size ≤ k := Nat.le_trans (dH s) h
theorem one_eq {n : Nat} : aT n = ⟨#[1]⟩ ↔ n = 1 := by rw [← natS_one]; exact ⟨fun h => natS_inj h, fun h => by rw [h]⟩
theorem natS_one' {n : Nat} (h : n = 1) : aT n = ⟨#[1]⟩ := one_eq.2 h
theorem Valid_ok (r : RR) (w : World) (hr : Lr r ≤ MX) :
    Ret Tryz.prog 58 #[bE r] w fun v w' => v = .bool (decide (Vld r)) ∧ Below w.heap.size w w' := by
  have hM : MX = 1099511627776 := rfl
  have hn := num_size_le r
  have hd := den_size_le r
  have hV := Vld_iff r
  have hS := St.init w
  refine enter Tryz.func58 rfl Tryz.ntmps58 rfl ?_
  repeat (with_reducible first | apply ag | apply ac | apply af | apply ae | apply ab)
  refine aj ?_
  refine ak rfl (bX (new := aC r)  rfl rfl hS ?_)
  intro b1 wz2 hS hBz2
  refine aa rfl (am  rfl ?_)
  refine ai ?_
  repeat (with_reducible first | apply ag | apply ac | apply af | apply ae | apply ab)
  by_cases h1 : aT (val r.num) = r.num
  · by_cases h2 : aT (val r.den) = r.den
    · repeat (with_reducible first | apply ag | apply ac | apply af | apply ae | apply ab)
      refine bm [(0, .pure), (1, .read), (3, .pure), (4, .read), (2, .grow), (5, .pure), (6, .pure), (7, .pure), (8, .read), (10, .pure), (11, .read), (9, .grow), (12, .pure), (13, .pure)] (by kernel_rfl) (by kernel_rfl) hS ?_
      intro wz3 hS hBz3
      refine al rfl rfl (aH  rfl bM ?_)
      refine aF rfl rfl (aB (k := 0)  rfl cg hS rfl rfl rfl (.inr rfl) ?_)
      refine al rfl rfl (aH  rfl bM ?_)
      refine aF rfl rfl (aB (k := 0)  rfl cg hS rfl rfl rfl (.inr rfl) ?_)
      refine aS rfl rfl (av Tryz.call59 rfl (cB _ _ (show r.num.size ≤ _ by omega)) ?_)
      rintro _ wq4 ⟨rfl, hq4⟩
      replace hq4 := hq4.symm
      subst hq4
      refine ⟨Below.refl _ _, ?_⟩
      refine al rfl rfl (d4  rfl rfl ?_)
      refine al rfl rfl (ah  rfl ?_)
      refine al rfl (ar 9 (by kernel_rfl) rfl (decide_eq_false (by exact not_not_intro h1))) (aH  rfl bO ?_)
      refine aF rfl (ar 9 (by kernel_rfl) rfl (decide_eq_false (by exact not_not_intro h1))) (aB (k := 0)  rfl cg hS rfl rfl rfl (.inr rfl) ?_)
      refine al rfl (ar 9 (by kernel_rfl) rfl (decide_eq_false (by exact not_not_intro h1))) (aH  rfl bO ?_)
      refine aF rfl (ar 9 (by kernel_rfl) rfl (decide_eq_false (by exact not_not_intro h1))) (aB (k := 0)  rfl cg hS rfl rfl rfl (.inr rfl) ?_)
      refine aS rfl (ar 9 (by kernel_rfl) rfl (decide_eq_false (not_not_intro h1))) (av Tryz.call59 rfl (cB _ _ (show r.den.size ≤ _ by omega)) ?_)
      rintro _ wq5 ⟨rfl, hq5⟩
      replace hq5 := hq5.symm
      subst hq5
      refine ⟨Below.refl _ _, ?_⟩
      refine al rfl (ar 9 (by kernel_rfl) rfl (decide_eq_false (by exact not_not_intro h1))) (d4  rfl rfl ?_)
      refine al rfl rfl (aJ (vb rfl (decide_eq_false (by exact not_not_intro h1))) rfl ?_)
      refine bC ?_
      repeat (with_reducible first | apply ag | apply ac | apply af | apply ae | apply ab)
      refine aN rfl (decide_eq_false (not_not_intro h2)) ?_
      repeat (with_reducible first | apply ag | apply ac | apply af | apply ae | apply ab)
      refine aj ?_
      refine aa rfl (aH  rfl bM ?_)
      refine aw rfl (aB (k := 0)  rfl cg hS rfl rfl rfl (.inr rfl) ?_)
      refine aa rfl (du  rfl rfl ?_)
      refine ai ?_
      repeat (with_reducible first | apply ag | apply ac | apply af | apply ae | apply ab)
      by_cases h3 : r.num = ⟨#[]⟩
      · refine aD rfl (decide_eq_true h3) ?_
        repeat (with_reducible first | apply ag | apply ac | apply af | apply ae | apply ab)
        by_cases h4 : r.neg = false
        · repeat (with_reducible first | apply ag | apply ac | apply af | apply ae | apply ab)
          refine aj ?_
          refine aa rfl (aH  rfl cn ?_)
          refine aw rfl (aB (k := 0)  rfl dq hS rfl rfl rfl (.inr rfl) ?_)
          refine aa rfl (dX  rfl ?_)
          refine aa rfl (ah  rfl ?_)
          refine aa (ar 23 (by kernel_rfl) rfl (by show (!r.neg) = true; rw [h4]; rfl)) (aH  rfl bO ?_)
          refine aw (ar 23 (by kernel_rfl) rfl (by show (!r.neg) = true; rw [h4]; rfl)) (aB (k := 0)  rfl cg hS rfl rfl rfl (.inr rfl) ?_)
          refine aa (ar 23 (by kernel_rfl) rfl (by show (!r.neg) = true; rw [h4]; rfl)) (du  rfl rfl ?_)
          refine aa rfl (aJ (vb rfl (by show (!r.neg) = true; rw [h4]; rfl)) rfl ?_)
          refine aa rfl (am  rfl ?_)
          refine ai ?_
          repeat (with_reducible first | apply ag | apply ac | apply af | apply ae | apply ab)
          refine aE ?_
          repeat (with_reducible first | apply ap | apply ao)
          refine aR rfl rfl ?_
          refine ⟨congrArg Value.bool ?_, hS.below⟩
          rw [decide_eq_decide, hV]
          exact ⟨fun h => ⟨h1, h2, fun _ => ⟨h4, h⟩, fun h => absurd h3 h⟩, fun h => (h.2.2.1 h3).2⟩
        · repeat (with_reducible first | apply ag | apply ac | apply af | apply ae | apply ab)
          refine aj ?_
          refine aa rfl (aH  rfl cn ?_)
          refine aw rfl (aB (k := 0)  rfl dq hS rfl rfl rfl (.inr rfl) ?_)
          refine aa rfl (dX  rfl ?_)
          refine aa rfl (ah  rfl ?_)
          refine aW (au 23 (by kernel_rfl) rfl (by show (!r.neg) = false; rw [Bool.not_eq_false] at h4; rw [h4]; rfl)) ?_
          refine aW (au 23 (by kernel_rfl) rfl (by show (!r.neg) = false; rw [Bool.not_eq_false] at h4; rw [h4]; rfl)) ?_
          refine aW (au 23 (by kernel_rfl) rfl (by show (!r.neg) = false; rw [Bool.not_eq_false] at h4; rw [h4]; rfl)) ?_
          refine aa rfl (aJ (vb rfl (by show (!r.neg) = false; rw [Bool.not_eq_false] at h4; rw [h4]; rfl)) rfl ?_)
          refine aa rfl (am  rfl ?_)
          refine ai ?_
          repeat (with_reducible first | apply ag | apply ac | apply af | apply ae | apply ab)
          refine aE ?_
          repeat (with_reducible first | apply ap | apply ao)
          refine aR rfl rfl ?_
          refine ⟨congrArg Value.bool ?_, hS.below⟩
          symm; rw [decide_eq_false_iff_not, hV]
          exact fun h => h4 (h.2.2.1 h3).1
      · refine aN rfl (decide_eq_false h3) ?_
        repeat (with_reducible first | apply ag | apply ac | apply af | apply ae | apply ab)
        by_cases h4 : r.den = ⟨#[]⟩
        · repeat (with_reducible first | apply ag | apply ac | apply af | apply ae | apply ab)
          refine aj ?_
          refine aa rfl (aH  rfl bO ?_)
          refine aw rfl (aB (k := 0)  rfl cg hS rfl rfl rfl (.inr rfl) ?_)
          refine aa rfl (du  rfl rfl ?_)
          refine aa rfl (ah  rfl ?_)
          refine aW (au 31 (by kernel_rfl) rfl (decide_eq_true h4)) ?_
          refine aW (au 31 (by kernel_rfl) rfl (decide_eq_true h4)) ?_
          refine aW (au 31 (by kernel_rfl) rfl (decide_eq_true h4)) ?_
          refine aW (au 31 (by kernel_rfl) rfl (decide_eq_true h4)) ?_
          refine aW (eF 35 (by kernel_rfl) rfl) ?_
          refine aW (eF 35 (by kernel_rfl) rfl) ?_
          refine aW (eF 35 (by kernel_rfl) rfl) ?_
          refine aW (eF 35 (by kernel_rfl) rfl) ?_
          refine aW (eF 35 (by kernel_rfl) rfl) ?_
          refine aW (eF 35 (by kernel_rfl) rfl) ?_
          refine aW (au 31 (by kernel_rfl) rfl (decide_eq_true h4)) ?_
          refine aa rfl (aJ (vb rfl (decide_eq_true h4)) rfl ?_)
          refine aa rfl (am  rfl ?_)
          refine ai ?_
          repeat (with_reducible first | apply ag | apply ac | apply af | apply ae | apply ab)
          refine aE ?_
          repeat (with_reducible first | apply ap | apply ao)
          refine aR rfl rfl ?_
          refine ⟨congrArg Value.bool ?_, hS.below⟩
          symm; rw [decide_eq_true_iff, hV]
          exact ⟨h1, h2, fun h => absurd h h3, fun _ => .inl h4⟩
        · by_cases h5 : r.den = ⟨#[1]⟩
          · repeat (with_reducible first | apply ag | apply ac | apply af | apply ae | apply ab)
            refine aj ?_
            refine aa rfl (aH  rfl bO ?_)
            refine aw rfl (aB (k := 0)  rfl cg hS rfl rfl rfl (.inr rfl) ?_)
            refine aa rfl (du  rfl rfl ?_)
            refine aa rfl (ah  rfl ?_)
            refine aa (ar 31 (by kernel_rfl) rfl (decide_eq_false h4)) (aH  rfl bO ?_)
            refine aw (ar 31 (by kernel_rfl) rfl (decide_eq_false h4)) (aB (k := 0)  rfl cg hS rfl rfl rfl (.inr rfl) ?_)
            refine aa (ar 31 (by kernel_rfl) rfl (decide_eq_false h4)) (d4  rfl rfl ?_)
            refine aa (ar 31 (by kernel_rfl) rfl (decide_eq_false h4)) (ah  rfl ?_)
            refine aW (au 35 (by kernel_rfl) rfl (decide_eq_false (not_not_intro h5))) ?_
            refine aW (au 35 (by kernel_rfl) rfl (decide_eq_false (not_not_intro h5))) ?_
            refine aW (au 35 (by kernel_rfl) rfl (decide_eq_false (not_not_intro h5))) ?_
            refine aW (au 35 (by kernel_rfl) rfl (decide_eq_false (not_not_intro h5))) ?_
            refine aW (au 35 (by kernel_rfl) rfl (decide_eq_false (not_not_intro h5))) ?_
            refine aW (au 35 (by kernel_rfl) rfl (decide_eq_false (not_not_intro h5))) ?_
            refine aa (ar 31 (by kernel_rfl) rfl (decide_eq_false h4)) (aJ (vb rfl (decide_eq_false (not_not_intro h5))) rfl ?_)
            refine aa rfl (aJ (vb rfl (decide_eq_false h4)) rfl ?_)
            refine aa rfl (am  rfl ?_)
            refine ai ?_
            repeat (with_reducible first | apply ag | apply ac | apply af | apply ae | apply ab)
            refine aE ?_
            repeat (with_reducible first | apply ap | apply ao)
            refine aR rfl rfl ?_
            refine ⟨congrArg Value.bool ?_, hS.below⟩
            symm; rw [decide_eq_false_iff_not, hV]
            exact fun h => (h.2.2.2 h3).elim h4 (fun g => g.1 h5)
          · repeat (with_reducible first | apply ag | apply ac | apply af | apply ae | apply ab)
            refine aj ?_
            refine aa rfl (aH  rfl bO ?_)
            refine aw rfl (aB (k := 0)  rfl cg hS rfl rfl rfl (.inr rfl) ?_)
            refine aa rfl (du  rfl rfl ?_)
            refine aa rfl (ah  rfl ?_)
            refine aa (ar 31 (by kernel_rfl) rfl (decide_eq_false h4)) (aH  rfl bO ?_)
            refine aw (ar 31 (by kernel_rfl) rfl (decide_eq_false h4)) (aB (k := 0)  rfl cg hS rfl rfl rfl (.inr rfl) ?_)
            refine aa (ar 31 (by kernel_rfl) rfl (decide_eq_false h4)) (d4  rfl rfl ?_)
            refine aa (ar 31 (by kernel_rfl) rfl (decide_eq_false h4)) (ah  rfl ?_)
            refine aa (ar 35 (by kernel_rfl) rfl (decide_eq_true h5)) (aH  rfl bM ?_)
            refine aw (ar 35 (by kernel_rfl) rfl (decide_eq_true h5)) (aB (k := 0)  rfl cg hS rfl rfl rfl (.inr rfl) ?_)
            refine aa (ar 35 (by kernel_rfl) rfl (decide_eq_true h5)) (aH  rfl bO ?_)
            refine aw (ar 35 (by kernel_rfl) rfl (decide_eq_true h5)) (aB (k := 0)  rfl cg hS rfl rfl rfl (.inr rfl) ?_)
            refine ak (ar 35 (by kernel_rfl) rfl (decide_eq_true h5)) (av Tryz.call87 rfl (GCD_ok _ _ _ (show r.num.size ≤ _ by omega) (show r.den.size ≤ _ by omega)) ?_)
            rintro _ wc6 ⟨rfl, hBc6⟩
            replace hS := hS.grow hBc6
            refine aa (ar 35 (by kernel_rfl) rfl (decide_eq_true h5)) (du  rfl rfl ?_)
            refine aa (ar 31 (by kernel_rfl) rfl (decide_eq_false h4)) (aJ (vb rfl (decide_eq_true h5)) rfl ?_)
            refine aa rfl (aJ (vb rfl (decide_eq_false h4)) rfl ?_)
            refine aa rfl (am  rfl ?_)
            refine ai ?_
            repeat (with_reducible first | apply ag | apply ac | apply af | apply ae | apply ab)
            refine aE ?_
            repeat (with_reducible first | apply ap | apply ao)
            refine aR rfl rfl ?_
            refine ⟨congrArg Value.bool ?_, hS.below⟩
            rw [decide_eq_decide, hV, one_eq]
            exact ⟨fun h => ⟨h1, h2, fun h => absurd h h3, fun _ => .inr ⟨h5, h⟩⟩, fun h => (h.2.2.2 h3).elim (fun g => absurd g h4) (fun g => g.2)⟩
    · repeat (with_reducible first | apply ag | apply ac | apply af | apply ae | apply ab)
      refine bm [(0, .pure), (1, .read), (3, .pure), (4, .read), (2, .grow), (5, .pure), (6, .pure), (7, .pure), (8, .read), (10, .pure), (11, .read), (9, .grow), (12, .pure), (13, .pure)] (by kernel_rfl) (by kernel_rfl) hS ?_
      intro wz7 hS hBz7
      refine al rfl rfl (aH  rfl bM ?_)
      refine aF rfl rfl (aB (k := 0)  rfl cg hS rfl rfl rfl (.inr rfl) ?_)
      refine al rfl rfl (aH  rfl bM ?_)
      refine aF rfl rfl (aB (k := 0)  rfl cg hS rfl rfl rfl (.inr rfl) ?_)
      refine aS rfl rfl (av Tryz.call59 rfl (cB _ _ (show r.num.size ≤ _ by omega)) ?_)
      rintro _ wq8 ⟨rfl, hq8⟩
      replace hq8 := hq8.symm
      subst hq8
      refine ⟨Below.refl _ _, ?_⟩
      refine al rfl rfl (d4  rfl rfl ?_)
      refine al rfl rfl (ah  rfl ?_)
      refine al rfl (ar 9 (by kernel_rfl) rfl (decide_eq_false (by exact not_not_intro h1))) (aH  rfl bO ?_)
      refine aF rfl (ar 9 (by kernel_rfl) rfl (decide_eq_false (by exact not_not_intro h1))) (aB (k := 0)  rfl cg hS rfl rfl rfl (.inr rfl) ?_)
      refine al rfl (ar 9 (by kernel_rfl) rfl (decide_eq_false (by exact not_not_intro h1))) (aH  rfl bO ?_)
      refine aF rfl (ar 9 (by kernel_rfl) rfl (decide_eq_false (by exact not_not_intro h1))) (aB (k := 0)  rfl cg hS rfl rfl rfl (.inr rfl) ?_)
      refine aS rfl (ar 9 (by kernel_rfl) rfl (decide_eq_false (not_not_intro h1))) (av Tryz.call59 rfl (cB _ _ (show r.den.size ≤ _ by omega)) ?_)
      rintro _ wq9 ⟨rfl, hq9⟩
      replace hq9 := hq9.symm
      subst hq9
      refine ⟨Below.refl _ _, ?_⟩
      refine al rfl (ar 9 (by kernel_rfl) rfl (decide_eq_false (by exact not_not_intro h1))) (d4  rfl rfl ?_)
      refine al rfl rfl (aJ (vb rfl (decide_eq_false (by exact not_not_intro h1))) rfl ?_)
      refine bC ?_
      repeat (with_reducible first | apply ag | apply ac | apply af | apply ae | apply ab)
      refine aD rfl (decide_eq_true h2) ?_
      repeat (with_reducible first | apply ag | apply ac | apply af | apply ae | apply ab)
      refine aj ?_
      refine aa rfl (am  rfl ?_)
      refine ai ?_
      repeat (with_reducible first | apply ag | apply ac | apply af | apply ae | apply ab)
      refine aE ?_
      repeat (with_reducible first | apply ap | apply ao)
      refine aR rfl rfl ?_
      refine ⟨congrArg Value.bool ?_, hS.below⟩
      symm; rw [decide_eq_false_iff_not, hV]
      exact fun h => h2 h.2.1
  · repeat (with_reducible first | apply ag | apply ac | apply af | apply ae | apply ab)
    refine bm [(0, .pure), (1, .read), (3, .pure), (4, .read), (2, .grow), (5, .pure), (6, .pure), (7, .pure), (8, .read), (10, .pure), (11, .read), (9, .grow), (12, .pure), (13, .pure)] (by kernel_rfl) (by kernel_rfl) hS ?_
    intro wz10 hS hBz10
    refine al rfl rfl (aH  rfl bM ?_)
    refine aF rfl rfl (aB (k := 0)  rfl cg hS rfl rfl rfl (.inr rfl) ?_)
    refine al rfl rfl (aH  rfl bM ?_)
    refine aF rfl rfl (aB (k := 0)  rfl cg hS rfl rfl rfl (.inr rfl) ?_)
    refine aS rfl rfl (av Tryz.call59 rfl (cB _ _ (show r.num.size ≤ _ by omega)) ?_)
    rintro _ wq11 ⟨rfl, hq11⟩
    replace hq11 := hq11.symm
    subst hq11
    refine ⟨Below.refl _ _, ?_⟩
    refine al rfl rfl (d4  rfl rfl ?_)
    refine al rfl rfl (ah  rfl ?_)
    refine bW rfl (au 9 (by kernel_rfl) rfl (decide_eq_true h1)) ?_
    refine bW rfl (au 9 (by kernel_rfl) rfl (decide_eq_true h1)) ?_
    refine bW rfl (au 9 (by kernel_rfl) rfl (decide_eq_true h1)) ?_
    refine bW rfl (au 9 (by kernel_rfl) rfl (decide_eq_true h1)) ?_
    refine bW rfl (au 9 (by kernel_rfl) rfl (decide_eq_true h1)) ?_
    refine bW rfl (au 9 (by kernel_rfl) rfl (decide_eq_true h1)) ?_
    refine al rfl rfl (aJ (vb rfl (decide_eq_true h1)) rfl ?_)
    refine bC ?_
    repeat (with_reducible first | apply ag | apply ac | apply af | apply ae | apply ab)
    refine aD rfl (rfl) ?_
    repeat (with_reducible first | apply ag | apply ac | apply af | apply ae | apply ab)
    refine aj ?_
    refine aa rfl (am  rfl ?_)
    refine ai ?_
    repeat (with_reducible first | apply ag | apply ac | apply af | apply ae | apply ab)
    refine aE ?_
    repeat (with_reducible first | apply ap | apply ao)
    refine aR rfl rfl ?_
    refine ⟨congrArg Value.bool ?_, hS.below⟩
    symm; rw [decide_eq_false_iff_not, hV]
    exact fun h => h1 h.1
theorem dB (r : RR) (w : World) (hr : Lr r ≤ MX) :
    Ret Tryz.prog 31 #[bE r] w fun v w' => v = bE (fx r) ∧ Below w.heap.size w w' := by
  have hS := St.init w
  refine enter Tryz.func31 rfl Tryz.ntmps31 rfl ?_
  repeat (with_reducible first | apply ag | apply ac | apply af | apply ae | apply ab)
  refine aj ?_
  refine ak rfl (bX (new := aC r)  rfl rfl hS ?_)
  intro b1 wz2 hS hBz2
  refine ak rfl (aZ  ax hS ?_)
  intro b3 wz4 hS hBz4
  refine ai ?_
  repeat (with_reducible first | apply ag | apply ac | apply af | apply ae | apply ab)
  refine aj ?_
  refine aw rfl (aB (k := 1)  rfl ax hS rfl rfl rfl (.inl rfl) ?_)
  refine ak rfl (av Tryz.call58 rfl (Valid_ok r _ hr) ?_)
  rintro _ wc5 ⟨rfl, hBc5⟩
  replace hS := hS.grow hBc5
  refine aa rfl (dX  rfl ?_)
  refine ai ?_
  repeat (with_reducible first | apply ag | apply ac | apply af | apply ae | apply ab)
  by_cases h : Vld r
  · refine aN rfl (by rw [decide_eq_true h]; rfl) ?_
    repeat (with_reducible first | apply ag | apply ac | apply af | apply ae | apply ab)
    refine aj ?_
    refine aw rfl (aB (k := 1)  rfl ax hS rfl rfl rfl (.inl rfl) ?_)
    refine ak rfl (a8 (k := 0)  rfl rfl ax hS rfl rfl rfl (Nat.le_of_ble_eq_true rfl) rfl ?_)
    intro wz6 hS
    refine ai ?_
    repeat (with_reducible first | apply ag | apply ac | apply af | apply ae | apply ab)
    refine aE ?_
    repeat (with_reducible first | apply ap | apply ao)
    refine bN (k := 0) rfl rfl ax hS rfl rfl ?_
    rw [fx_vld h]
    exact ⟨rfl, hS.below⟩
  · refine aD rfl (by rw [decide_eq_false h]; rfl) ?_
    repeat (with_reducible first | apply ag | apply ac | apply af | apply ae | apply ab)
    refine aj ?_
    refine aa rfl (ce  rfl eJ ?_)
    refine ak rfl (a8 (k := 0)  rfl rfl ax hS rfl rfl rfl (Nat.le_of_ble_eq_true rfl) rfl ?_)
    intro wz7 hS
    refine ai ?_
    repeat (with_reducible first | apply ag | apply ac | apply af | apply ae | apply ab)
    refine aE ?_
    repeat (with_reducible first | apply ap | apply ao)
    refine bN (k := 0) rfl rfl ax hS rfl rfl ?_
    rw [fx_bad h]
    exact ⟨rfl, hS.below⟩
theorem ofQ_den (q : Rat) : (ofQ q).den = if q.den = 1 then ⟨#[]⟩ else aT q.den := rfl
theorem den_eq (q : Rat) : (if (ofQ q).den = ⟨#[]⟩ then (⟨#[1]⟩ : ByteArray) else (ofQ q).den) = aT q.den := by
  rw [ofQ_den]
  by_cases h : q.den = 1
  · simp only [h, if_true]; exact natS_one.symm
  · have h1 : aT q.den ≠ ⟨#[]⟩ := fun h0 => q.den_nz (natS_nil.1 h0)
    simp only [h, if_false, h1]
theorem gQ (q : Rat) (w : World) :
    Ret Tryz.prog 35 #[bE (ofQ q)] w fun v w' => v = .string (aT q.den) ∧ Below w.heap.size w w' := by
  have hS := St.init w
  have hq := den_eq q
  refine enter Tryz.func35 rfl Tryz.ntmps35 rfl ?_
  repeat (with_reducible first | apply ag | apply ac | apply af | apply ae | apply ab)
  refine aj ?_
  refine ak rfl (bX (new := aC (ofQ q))  rfl rfl hS ?_)
  intro b1 wz2 hS hBz2
  refine aa rfl (am  rfl ?_)
  refine ai ?_
  repeat (with_reducible first | apply ag | apply ac | apply af | apply ae | apply ab)
  refine aj ?_
  refine aa rfl (aH  rfl bO ?_)
  refine aw rfl (aB (k := 0)  rfl cg hS rfl rfl rfl (.inr rfl) ?_)
  refine aa rfl (du  rfl rfl ?_)
  refine ai ?_
  repeat (with_reducible first | apply ag | apply ac | apply af | apply ae | apply ab)
  by_cases h : (ofQ q).den = ⟨#[]⟩
  · refine aD rfl (decide_eq_true h) ?_
    repeat (with_reducible first | apply ag | apply ac | apply af | apply ae | apply ab)
    refine aj ?_
    refine aa rfl (am  rfl ?_)
    refine ai ?_
    repeat (with_reducible first | apply ag | apply ac | apply af | apply ae | apply ab)
    refine aE ?_
    repeat (with_reducible first | apply ap | apply ao)
    refine aR rfl rfl ?_
    rw [if_pos h] at hq
    exact ⟨congrArg Value.string hq, hS.below⟩
  · refine aN rfl (decide_eq_false h) ?_
    repeat (with_reducible first | apply ag | apply ac | apply af | apply ae | apply ab)
    refine aj ?_
    refine aa rfl (aH  rfl bO ?_)
    refine aw rfl (aB (k := 0)  rfl cg hS rfl rfl rfl (.inr rfl) ?_)
    refine aa rfl (am  rfl ?_)
    refine ai ?_
    repeat (with_reducible first | apply ag | apply ac | apply af | apply ae | apply ab)
    refine aE ?_
    repeat (with_reducible first | apply ap | apply ao)
    refine aR rfl rfl ?_
    rw [if_neg h] at hq
    exact ⟨congrArg Value.string hq, hS.below⟩
end Go.Proofs.YtmghobajmhdbfaaGreatDoor
namespace Go.Proofs.YtmghobajmhdbfaaGreatDoor
open Go Go.RowKit Go.Sx
theorem lenN {n m k : Nat} (h : m ≤ n) (hk : (aT n).size ≤ k) : (aT m).size ≤ k := Nat.le_trans (cF h) hk
theorem built_Rat (b : Bool) (s d : ByteArray) : Tryz.prog.built 36 [(0, .bool b), (1, .string s), (2, .string d)] = some #[.bool b, .string s, .string d] := by kernel_rfl
theorem fZ (b : Bool) (num den : ByteArray) (w : World) (hn : num.size ≤ 2 * MX) (hd : den.size ≤ 2 * MX) (h0 : val den ≠ 0) :
    Ret Tryz.prog 64 #[.bool b, .string num, .string den] w fun v w' => v = bE (ofQ (mkRat (sg b (val num)) (val den))) ∧ Below w.heap.size w w' := by
  have hM : MX = 1099511627776 := rfl
  have h1 := nsz num hn
  have h2 := nsz den hd
  have hS := St.init w
  refine enter Tryz.func64 rfl Tryz.ntmps64 rfl ?_
  repeat (with_reducible first | apply ag | apply ac | apply af | apply ae | apply ab)
  refine aj ?_
  refine ak rfl (aZ  ax hS ?_)
  intro b1 wz2 hS hBz2
  refine ai ?_
  repeat (with_reducible first | apply ag | apply ac | apply af | apply ae | apply ab)
  refine aj ?_
  refine aa rfl (ah  rfl ?_)
  refine ak rfl (av Tryz.call59 rfl (cB _ _ (show num.size ≤ _ by omega)) ?_)
  rintro _ wq3 ⟨rfl, hq3⟩
  replace hq3 := hq3.symm
  subst hq3
  refine aa rfl (ah  rfl ?_)
  refine ak rfl (av Tryz.call59 rfl (cB _ _ (show den.size ≤ _ by omega)) ?_)
  rintro _ wq4 ⟨rfl, hq4⟩
  replace hq4 := hq4.symm
  subst hq4
  refine aa rfl (am  rfl ?_)
  refine aa rfl (am  rfl ?_)
  refine ai ?_
  repeat (with_reducible first | apply ag | apply ac | apply af | apply ae | apply ab)
  obtain ⟨n, hnn⟩ : ∃ n, n = val num := ⟨_, rfl⟩
  obtain ⟨d, hdd⟩ : ∃ d, d = val den := ⟨_, rfl⟩
  rw [← hnn, ← hdd]
  rw [← hnn] at h1
  rw [← hdd] at h0 h2
  repeat (with_reducible first | apply ag | apply ac | apply af | apply ae | apply ab)
  refine aj ?_
  refine aa rfl (ah  rfl ?_)
  refine aa rfl (du  rfl rfl ?_)
  refine ai ?_
  repeat (with_reducible first | apply ag | apply ac | apply af | apply ae | apply ab)
  by_cases hz : n = 0
  · refine aD rfl (decide_eq_true (natS_nil.2 hz)) ?_
    repeat (with_reducible first | apply ag | apply ac | apply af | apply ae | apply ab)
    refine aj ?_
    refine aa rfl (ce  rfl eJ ?_)
    refine ak rfl (a8 (k := 0)  rfl rfl ax hS rfl rfl rfl (Nat.le_of_ble_eq_true rfl) rfl ?_)
    intro wz5 hS
    refine ai ?_
    repeat (with_reducible first | apply ag | apply ac | apply af | apply ae | apply ab)
    refine aE ?_
    repeat (with_reducible first | apply ap | apply ao)
    refine bN (k := 0) rfl rfl ax hS rfl rfl ?_
    refine ⟨?_, hS.below⟩
    have : mkRat (sg b 0) d = 0 := by cases b <;> simp [sg]
    rw [hz, this, cI]; rfl
  · refine aN rfl (decide_eq_false (fun h => hz (natS_nil.1 h))) ?_
    repeat (with_reducible first | apply ag | apply ac | apply af | apply ae | apply ab)
    refine aj ?_
    refine aa rfl (ah  rfl ?_)
    refine aa rfl (d4  rfl rfl ?_)
    refine ai ?_
    repeat (with_reducible first | apply ag | apply ac | apply af | apply ae | apply ab)
    refine a9 (fun ρ w' => ∃ n' d' : Nat, 0 < n' ∧ d' ≠ 0 ∧ Nat.gcd n' d' = 1 ∧ mkRat (sg b n) d = mkRat (sg b n') d' ∧ ρ 0 = .bool b ∧ ρ 1 = .string (aT n') ∧ ρ 2 = .string (aT d') ∧ ρ 6 = .pointer (some ⟨b1, 0, none⟩) ∧ St w w' [(b1, 36, aC ⟨false, ⟨#[]⟩, ⟨#[]⟩⟩)]) ?_ ?_
    · repeat (with_reducible first | apply ag | apply ac | apply af | apply ae | apply ab)
      by_cases hd1 : d = 1
      · refine aN rfl (decide_eq_false (not_not_intro (natS_one' hd1))) ?_
        repeat (with_reducible first | apply ag | apply ac | apply af | apply ae | apply ab)
        exact ⟨_, rfl, n, d, by omega, h0, by rw [hd1]; exact Nat.gcd_one_right _, rfl, rfl, rfl, rfl, rfl, hS⟩
      · refine aD rfl (decide_eq_true (fun h => hd1 (one_eq.1 h))) ?_
        repeat (with_reducible first | apply ag | apply ac | apply af | apply ae | apply ab)
        refine aj ?_
        refine aa rfl (ah  rfl ?_)
        refine aa rfl (ah  rfl ?_)
        refine ak rfl (av Tryz.call87 rfl (N_gcd _ _ _ (show (aT n).size ≤ _ by omega) (show (aT d).size ≤ _ by omega)) ?_)
        rintro _ wc6 ⟨rfl, hBc6⟩
        replace hS := hS.grow hBc6
        refine aa rfl (am  rfl ?_)
        refine ai ?_
        repeat (with_reducible first | apply ag | apply ac | apply af | apply ae | apply ab)
        refine aj ?_
        refine aa rfl (ah  rfl ?_)
        refine aa rfl (d4  rfl rfl ?_)
        refine ai ?_
        repeat (with_reducible first | apply ag | apply ac | apply af | apply ae | apply ab)
        have hgp : 0 < Nat.gcd n d := Nat.gcd_pos_of_pos_right _ (by omega)
        by_cases hg : Nat.gcd n d = 1
        · refine aN rfl (decide_eq_false (not_not_intro (natS_one' hg))) ?_
          repeat (with_reducible first | apply ag | apply ac | apply af | apply ae | apply ab)
          exact ⟨_, rfl, n, d, by omega, h0, hg, rfl, rfl, rfl, rfl, rfl, hS⟩
        · refine aD rfl (decide_eq_true (fun h => hg (one_eq.1 h))) ?_
          repeat (with_reducible first | apply ag | apply ac | apply af | apply ae | apply ab)
          have hgn : Nat.gcd n d ≤ n := Nat.gcd_le_left _ (by omega)
          have hgs := lenN hgn h1
          have hnp : 0 < n / Nat.gcd n d := Nat.div_pos hgn hgp
          have hdp : 0 < d / Nat.gcd n d := Nat.div_pos (Nat.gcd_le_right _ (by omega)) hgp
          repeat (with_reducible first | apply ag | apply ac | apply af | apply ae | apply ab)
          refine aj ?_
          refine aa rfl (ah  rfl ?_)
          refine aa rfl (ah  rfl ?_)
          refine ak rfl (av Tryz.call91 rfl (N_div n (Nat.gcd n d) _ (show (aT n).size ≤ _ by omega) (show (aT (Nat.gcd n d)).size ≤ _ by omega) (by omega)) ?_)
          rintro _ wc7 ⟨rfl, hBc7⟩
          replace hS := hS.grow hBc7
          refine aa rfl (ah  rfl ?_)
          refine aa rfl (bL  rfl rfl ?_)
          refine aa rfl (bL  rfl rfl ?_)
          refine aa rfl (bL  rfl rfl ?_)
          refine aa rfl (am  rfl ?_)
          refine ai ?_
          repeat (with_reducible first | apply ag | apply ac | apply af | apply ae | apply ab)
          refine aj ?_
          refine aa rfl (ah  rfl ?_)
          refine aa rfl (ah  rfl ?_)
          refine ak rfl (av Tryz.call91 rfl (N_div d (Nat.gcd n d) _ (show (aT d).size ≤ _ by omega) (show (aT (Nat.gcd n d)).size ≤ _ by omega) (by omega)) ?_)
          rintro _ wc8 ⟨rfl, hBc8⟩
          replace hS := hS.grow hBc8
          refine aa rfl (ah  rfl ?_)
          refine aa rfl (bL  rfl rfl ?_)
          refine aa rfl (bL  rfl rfl ?_)
          refine aa rfl (bL  rfl rfl ?_)
          refine aa rfl (am  rfl ?_)
          refine ai ?_
          repeat (with_reducible first | apply ag | apply ac | apply af | apply ae | apply ab)
          exact ⟨_, rfl, n / Nat.gcd n d, d / Nat.gcd n d, hnp, by omega, (by rw [Nat.gcd_div (Nat.gcd_dvd_left _ _) (Nat.gcd_dvd_right _ _), Nat.div_self hgp]), mkRat_red h0 rfl, rfl, rfl, rfl, rfl, hS⟩
    clear hS
    rintro ρ w' ⟨n', d', hn', hd', hc, he, g0, g1, g2, g6, hS⟩
    rw [he, iN hn' hd' hc]
    repeat (with_reducible first | apply ag | apply ac | apply af | apply ae | apply ab)
    refine aj ?_
    refine aa rfl (ah  g2 ?_)
    refine aa rfl (du  rfl rfl ?_)
    refine ai ?_
    repeat (with_reducible first | apply ag | apply ac | apply af | apply ae | apply ab)
    refine a9 (fun ρ w' => ρ 0 = .bool b ∧ ρ 1 = .string (aT n') ∧ ρ 2 = .string (if d' = 1 then ⟨#[]⟩ else aT d') ∧ ρ 6 = .pointer (some ⟨b1, 0, none⟩) ∧ St w w' [(b1, 36, aC ⟨false, ⟨#[]⟩, ⟨#[]⟩⟩)]) ?_ ?_
    · repeat (with_reducible first | apply ag | apply ac | apply af | apply ae | apply ab)
      by_cases hd1 : d' = 1
      · refine aD rfl (decide_eq_true (natS_one' hd1)) ?_
        repeat (with_reducible first | apply ag | apply ac | apply af | apply ae | apply ab)
        refine aj ?_
        refine aa rfl (am  rfl ?_)
        refine ai ?_
        repeat (with_reducible first | apply ag | apply ac | apply af | apply ae | apply ab)
        exact ⟨_, rfl, g0, g1, congrArg Value.string (by rw [if_pos hd1]), g6, hS⟩
      · refine aN rfl (decide_eq_false (fun h => hd1 (one_eq.1 h))) ?_
        repeat (with_reducible first | apply ag | apply ac | apply af | apply ae | apply ab)
        exact ⟨_, rfl, g0, g1, g2.trans (congrArg Value.string (by rw [if_neg hd1])), g6, hS⟩
    clear hS g0 g1 g2 g6
    rintro ρ w' ⟨g0, g1, g2, g6, hS⟩
    repeat (with_reducible first | apply ag | apply ac | apply af | apply ae | apply ab)
    refine aj ?_
    refine aa rfl (ah  g0 ?_)
    refine aa rfl (ah  g1 ?_)
    refine aa rfl (ah  g2 ?_)
    refine aa rfl (ce  rfl (built_Rat _ _ _) ?_)
    refine ak rfl (a8 (k := 0)  g6 rfl ax hS rfl rfl rfl (Nat.le_of_ble_eq_true rfl) rfl ?_)
    intro wz9 hS
    refine ai ?_
    repeat (with_reducible first | apply ag | apply ac | apply af | apply ae | apply ab)
    refine aE ?_
    repeat (with_reducible first | apply ap | apply ao)
    refine bN (k := 0) rfl g6 ax hS rfl rfl ?_
    exact ⟨rfl, hS.below⟩
end Go.Proofs.YtmghobajmhdbfaaGreatDoor
namespace Go.Proofs.YtmghobajmhdbfaaGreatDoor
open Go Go.RowKit Go.Sx
theorem cmp_law {p q : Rat} (h : dT p = dT q) : (if decide (p.num < 0) = true then -eh (p.num.natAbs * q.den) (q.num.natAbs * p.den) else eh (p.num.natAbs * q.den) (q.num.natAbs * p.den)) = f9 p q := by
  have hp := iY p
  have hq := iY q
  have l1 := Rat.lt_iff p q
  have l2 := Rat.lt_iff q p
  unfold dT at h
  rw [← hp, ← hq] at l1 l2
  have e1 : ((p.num.natAbs * q.den : Nat) : Int) = (p.num.natAbs : Int) * q.den := by push_cast; rfl
  have e2 : ((q.num.natAbs * p.den : Nat) : Int) = (q.num.natAbs : Int) * p.den := by push_cast; rfl
  by_cases h1 : p.num < 0
  · have h2 : q.num < 0 := by
      rw [if_neg (by omega), if_pos h1] at h
      by_cases g : q.num < 0
      · exact g
      · exfalso; split at h <;> (try rw [if_neg g] at h) <;> omega
    rw [if_pos (by simpa using h1)]
    simp only [decide_eq_true h1, decide_eq_true h2, sg, if_true, Int.neg_mul, ← e1, ← e2] at l1 l2
    unfold eh f9
    split
    · rw [if_neg (by rw [l1]; omega), if_pos (by rw [l2]; omega)]; rfl
    · split
      · rw [if_pos (by rw [l1]; omega)]
      · rw [if_neg (by rw [l1]; omega), if_neg (by rw [l2]; omega)]; rfl
  · have h2 : ¬ q.num < 0 := by
      intro g
      rw [if_neg (show ¬ q.num = 0 by omega), if_pos g] at h
      split at h <;> (try rw [if_neg h1] at h) <;> omega
    rw [if_neg (by simpa using h1)]
    simp only [decide_eq_false h1, decide_eq_false h2, sg, ← e1, ← e2, Bool.false_eq_true, if_false] at l1 l2
    unfold eh f9
    split
    · rw [if_pos (by rw [l1]; omega)]
    · split
      · rw [if_neg (by rw [l1]; omega), if_pos (by rw [l2]; omega)]
      · rw [if_neg (by rw [l1]; omega), if_neg (by rw [l2]; omega)]
theorem cmp_sgn {p q : Rat} (h : dT p ≠ dT q) : f9 p q = if dT p < dT q then -1 else 1 := by
  have a1 := sgnQ_neg (q := p)
  have a2 := sgnQ_zero (q := p)
  have a3 := sgnQ_pos (q := p)
  have b1 := sgnQ_neg (q := q)
  have b2 := sgnQ_zero (q := q)
  have b3 := sgnQ_pos (q := q)
  rcases sgnQ_range p with e | e | e <;> rcases sgnQ_range q with f | f | f <;> rw [e, f] at h ⊢ <;> rw [e] at a1 a2 a3 <;> rw [f] at b1 b2 b3 <;> simp at h a1 a2 a3 b1 b2 b3 ⊢ <;> first | (refine cmpQ_lt ?_; grind) | (refine cmpQ_gt ?_; grind)
theorem signOf_ok (q : Rat) (w : World) :
    Ret Tryz.prog 32 #[bE (ofQ q)] w fun v w' => v = .int .i64 (dT q) ∧ Below w.heap.size w w' := by
  have hS := St.init w
  refine enter Tryz.func32 rfl Tryz.ntmps32 rfl ?_
  repeat (with_reducible first | apply ag | apply ac | apply af | apply ae | apply ab)
  refine aj ?_
  refine ak rfl (bX (new := aC (ofQ q))  rfl rfl hS ?_)
  intro b1 wz2 hS hBz2
  refine aa rfl (am  rfl ?_)
  refine ai ?_
  repeat (with_reducible first | apply ag | apply ac | apply af | apply ae | apply ab)
  refine aj ?_
  refine aa rfl (aH  rfl bM ?_)
  refine aw rfl (aB (k := 0)  rfl cg hS rfl rfl rfl (.inr rfl) ?_)
  refine aa rfl (du  rfl rfl ?_)
  refine aa rfl (am  rfl ?_)
  refine ai ?_
  repeat (with_reducible first | apply ag | apply ac | apply af | apply ae | apply ab)
  by_cases h : q = 0
  · refine aD rfl (decide_eq_true (ofQ_num_nil.2 h)) ?_
    repeat (with_reducible first | apply ag | apply ac | apply af | apply ae | apply ab)
    refine aj ?_
    refine aa rfl (am  rfl ?_)
    refine ai ?_
    repeat (with_reducible first | apply ag | apply ac | apply af | apply ae | apply ab)
    refine aE ?_
    repeat (with_reducible first | apply ap | apply ao)
    refine aR rfl rfl ?_
    exact ⟨vi rfl (sgnQ_zero.2 h).symm, hS.below⟩
  · refine aN rfl (decide_eq_false (fun g => h (ofQ_num_nil.1 g))) ?_
    repeat (with_reducible first | apply ag | apply ac | apply af | apply ae | apply ab)
    refine aj ?_
    refine aa rfl (aH  rfl cn ?_)
    refine aw rfl (aB (k := 0)  rfl dq hS rfl rfl rfl (.inr rfl) ?_)
    refine aa rfl (am  rfl ?_)
    refine ai ?_
    repeat (with_reducible first | apply ag | apply ac | apply af | apply ae | apply ab)
    have hn : q.num ≠ 0 := fun g => h (Rat.num_eq_zero.1 g)
    by_cases h2 : q.num < 0
    · refine aD rfl (decide_eq_true h2) ?_
      repeat (with_reducible first | apply ag | apply ac | apply af | apply ae | apply ab)
      refine aj ?_
      refine aa rfl (am  rfl ?_)
      refine ai ?_
      repeat (with_reducible first | apply ag | apply ac | apply af | apply ae | apply ab)
      refine aE ?_
      repeat (with_reducible first | apply ap | apply ao)
      refine aR rfl rfl ?_
      exact ⟨vi rfl (by unfold dT; rw [if_neg hn, if_pos h2]), hS.below⟩
    · refine aN rfl (decide_eq_false h2) ?_
      repeat (with_reducible first | apply ag | apply ac | apply af | apply ae | apply ab)
      refine aj ?_
      refine aa rfl (am  rfl ?_)
      refine ai ?_
      repeat (with_reducible first | apply ag | apply ac | apply af | apply ae | apply ab)
      refine aE ?_
      repeat (with_reducible first | apply ap | apply ao)
      refine aR rfl rfl ?_
      exact ⟨vi rfl (by unfold dT; rw [if_neg hn, if_neg h2]), hS.below⟩
theorem eS (r : RR) (w : World) (hr : Lr r ≤ MX) :
    Ret Tryz.prog 12 #[bE r] w fun v w' => v = .int .i64 (dT (toQ r)) ∧ Below w.heap.size w w' := by
  have hS := St.init w
  refine enter Tryz.func12 rfl Tryz.ntmps12 rfl ?_
  repeat (with_reducible first | apply ag | apply ac | apply af | apply ae | apply ab)
  refine aj ?_
  refine ak rfl (bX (new := aC r)  rfl rfl hS ?_)
  intro b1 wz2 hS hBz2
  refine aa rfl (am  rfl ?_)
  refine ai ?_
  repeat (with_reducible first | apply ag | apply ac | apply af | apply ae | apply ab)
  refine aj ?_
  refine aw rfl (aB (k := 0)  rfl ax hS rfl rfl rfl (.inl rfl) ?_)
  refine ak rfl (av Tryz.call31 rfl (dB r _ hr) ?_)
  rintro _ wc3 ⟨rfl, hBc3⟩
  replace hS := hS.grow hBc3
  refine ak rfl (av Tryz.call32 rfl (signOf_ok (toQ r) _) ?_)
  rintro _ wc4 ⟨rfl, hBc4⟩
  replace hS := hS.grow hBc4
  refine aa rfl (am  rfl ?_)
  refine ai ?_
  repeat (with_reducible first | apply ag | apply ac | apply af | apply ae | apply ab)
  refine aE ?_
  repeat (with_reducible first | apply ap | apply ao)
  refine aR rfl rfl ?_
  exact ⟨rfl, hS.below⟩
theorem ofQ_neg_eq (q : Rat) : (⟨!decide (q.num < 0) && decide ((ofQ q).num ≠ ⟨#[]⟩), (ofQ q).num, (ofQ q).den⟩ : RR) = ofQ (-q) := by
  have h1 : (ofQ (-q)).num = (ofQ q).num := by show aT (-q).num.natAbs = aT q.num.natAbs; rw [Rat.neg_num, Int.natAbs_neg]
  have h2 : (ofQ (-q)).den = (ofQ q).den := by show (if (-q).den = 1 then _ else aT (-q).den) = _; rw [Rat.neg_den]; rfl
  have h3 : (ofQ (-q)).neg = decide ((-q).num < 0) := rfl
  have h4 : (!decide (q.num < 0) && decide ((ofQ q).num ≠ ⟨#[]⟩)) = decide ((-q).num < 0) := by
    have : (ofQ q).num = ⟨#[]⟩ ↔ q.num = 0 := by rw [ofQ_num_nil, Rat.num_eq_zero]
    rw [Rat.neg_num, Bool.eq_iff_iff]
    simp only [Bool.and_eq_true, Bool.not_eq_true', decide_eq_false_iff_not, decide_eq_true_eq, ne_eq, this]
    omega
  rw [h4, ← h1, ← h2, ← h3]
theorem negate_ok (q : Rat) (w : World) :
    Ret Tryz.prog 57 #[bE (ofQ q)] w fun v w' => v = bE (ofQ (-q)) ∧ Below w.heap.size w w' := by
  have hS := St.init w
  have he := ofQ_neg_eq q
  refine enter Tryz.func57 rfl Tryz.ntmps57 rfl ?_
  repeat (with_reducible first | apply ag | apply ac | apply af | apply ae | apply ab)
  refine aj ?_
  refine ak rfl (bX (new := aC (ofQ q))  rfl rfl hS ?_)
  intro b1 wz2 hS hBz2
  refine ak rfl (aZ  ax hS ?_)
  intro b3 wz4 hS hBz4
  refine ai ?_
  repeat (with_reducible first | apply ag | apply ac | apply af | apply ae | apply ab)
  by_cases h : q.num < 0
  · repeat (with_reducible first | apply ag | apply ac | apply af | apply ae | apply ab)
    refine aj ?_
    refine aa rfl (aH  rfl cn ?_)
    refine aw rfl (aB (k := 1)  rfl dq hS rfl rfl rfl (.inr rfl) ?_)
    refine aa rfl (dX  rfl ?_)
    refine aa rfl (ah  rfl ?_)
    refine aW (au 6 (by kernel_rfl) rfl (by show (!decide (q.num < 0)) = false; rw [decide_eq_true h]; rfl)) ?_
    refine aW (au 6 (by kernel_rfl) rfl (by show (!decide (q.num < 0)) = false; rw [decide_eq_true h]; rfl)) ?_
    refine aW (au 6 (by kernel_rfl) rfl (by show (!decide (q.num < 0)) = false; rw [decide_eq_true h]; rfl)) ?_
    refine aa rfl (aJ (vb rfl (by show (!decide (q.num < 0)) = false; rw [decide_eq_true h]; rfl)) rfl ?_)
    refine aa rfl (aH  rfl cn ?_)
    refine ak rfl (ir (k := 1)  rfl rfl dq hS rfl (Nat.le_of_ble_eq_true rfl) rfl ?_)
    intro wz5 hS
    refine ai ?_
    repeat (with_reducible first | apply ag | apply ac | apply af | apply ae | apply ab)
    refine aj ?_
    refine aw rfl (aB (k := 1)  rfl ax hS rfl rfl rfl (.inl rfl) ?_)
    refine ak rfl (a8 (k := 0)  rfl rfl ax hS rfl rfl rfl (Nat.le_of_ble_eq_true rfl) rfl ?_)
    intro wz6 hS
    refine ai ?_
    repeat (with_reducible first | apply ag | apply ac | apply af | apply ae | apply ab)
    refine aE ?_
    repeat (with_reducible first | apply ap | apply ao)
    refine bN (k := 0) rfl rfl ax hS rfl rfl ?_
    rw [← he, decide_eq_true h]
    exact ⟨rfl, hS.below⟩
  · repeat (with_reducible first | apply ag | apply ac | apply af | apply ae | apply ab)
    refine aj ?_
    refine aa rfl (aH  rfl cn ?_)
    refine aw rfl (aB (k := 1)  rfl dq hS rfl rfl rfl (.inr rfl) ?_)
    refine aa rfl (dX  rfl ?_)
    refine aa rfl (ah  rfl ?_)
    refine aa (ar 6 (by kernel_rfl) rfl (by show (!decide (q.num < 0)) = true; rw [decide_eq_false h]; rfl)) (aH  rfl bM ?_)
    refine aw (ar 6 (by kernel_rfl) rfl (by show (!decide (q.num < 0)) = true; rw [decide_eq_false h]; rfl)) (aB (k := 1)  rfl cg hS rfl rfl rfl (.inr rfl) ?_)
    refine aa (ar 6 (by kernel_rfl) rfl (by show (!decide (q.num < 0)) = true; rw [decide_eq_false h]; rfl)) (d4  rfl rfl ?_)
    refine aa rfl (aJ (vb rfl (by show (!decide (q.num < 0)) = true; rw [decide_eq_false h]; rfl)) rfl ?_)
    refine aa rfl (aH  rfl cn ?_)
    refine ak rfl (ir (k := 1)  rfl rfl dq hS rfl (Nat.le_of_ble_eq_true rfl) rfl ?_)
    intro wz7 hS
    refine ai ?_
    repeat (with_reducible first | apply ag | apply ac | apply af | apply ae | apply ab)
    refine aj ?_
    refine aw rfl (aB (k := 1)  rfl ax hS rfl rfl rfl (.inl rfl) ?_)
    refine ak rfl (a8 (k := 0)  rfl rfl ax hS rfl rfl rfl (Nat.le_of_ble_eq_true rfl) rfl ?_)
    intro wz8 hS
    refine ai ?_
    repeat (with_reducible first | apply ag | apply ac | apply af | apply ae | apply ab)
    refine aE ?_
    repeat (with_reducible first | apply ap | apply ao)
    refine bN (k := 0) rfl rfl ax hS rfl rfl ?_
    rw [← he, decide_eq_false h]
    exact ⟨rfl, hS.below⟩
end Go.Proofs.YtmghobajmhdbfaaGreatDoor
namespace Go.Proofs.YtmghobajmhdbfaaGreatDoor
open Go Go.RowKit Go.Sx
theorem QCompare_ok (r s : RR) (w : World) (hr : Lr r + Lr s ≤ MX) :
    Ret Tryz.prog 9 #[bE r, bE s] w fun v w' => v = .int .i64 (f9 (toQ r) (toQ s)) ∧ Below w.heap.size w w' := by
  have hM : MX = 1099511627776 := rfl
  have hL1 := fG r
  have hL2 := fG s
  have hS := St.init w
  refine enter Tryz.func9 rfl Tryz.ntmps9 rfl ?_
  repeat (with_reducible first | apply ag | apply ac | apply af | apply ae | apply ab)
  refine aj ?_
  refine ak rfl (bX (new := aC r)  rfl rfl hS ?_)
  intro b1 wz2 hS hBz2
  refine ak rfl (bX (new := aC s)  rfl rfl hS ?_)
  intro b3 wz4 hS hBz4
  refine aa rfl (am  rfl ?_)
  refine ai ?_
  repeat (with_reducible first | apply ag | apply ac | apply af | apply ae | apply ab)
  refine bm [(0, .read), (2, .read), (1, .grow), (3, .grow), (4, .free), (5, .free)] (by kernel_rfl) (by kernel_rfl) hS ?_
  intro wz5 hS hBz5
  refine aF rfl rfl (aB (k := 1)  rfl ax hS rfl rfl rfl (.inl rfl) ?_)
  refine aF rfl rfl (aB (k := 0)  rfl ax hS rfl rfl rfl (.inl rfl) ?_)
  refine aS rfl rfl (av Tryz.call31 rfl (dB r _ (by omega)) ?_)
  rintro _ wc6 ⟨rfl, hBc6⟩
  replace hS := hS.grow hBc6
  refine ⟨hBc6, ?_⟩
  refine aS rfl rfl (av Tryz.call31 rfl (dB s _ (by omega)) ?_)
  rintro _ wc7 ⟨rfl, hBc7⟩
  replace hS := hS.grow hBc7
  refine ⟨hBc7, ?_⟩
  refine bJ rfl rfl (a8 (k := 1)  rfl rfl ax hS rfl rfl rfl (Nat.le_of_ble_eq_true rfl) rfl ?_)
  intro wz8 hS
  refine bJ rfl rfl (a8 (k := 0)  rfl rfl ax hS rfl rfl rfl (Nat.le_of_ble_eq_true rfl) rfl ?_)
  intro wz9 hS
  refine bC ?_
  repeat (with_reducible first | apply ag | apply ac | apply af | apply ae | apply ab)
  replace hS : St w _ [(b3, 36, aC (ofQ (toQ s))), (b1, 36, aC (ofQ (toQ r)))] := hS
  obtain ⟨p, hp⟩ : ∃ p, p = toQ r := ⟨_, rfl⟩
  obtain ⟨q, hq⟩ : ∃ q, q = toQ s := ⟨_, rfl⟩
  rw [← hp] at hS hL1 ⊢
  rw [← hq] at hS hL2 ⊢
  have hn1 := iq p
  have hn2 := iq q
  have hd1 := gF p
  have hd2 := gF q
  have hm1 := bT p.num.natAbs q.den
  have hm2 := bT q.num.natAbs p.den
  repeat (with_reducible first | apply ag | apply ac | apply af | apply ae | apply ab)
  refine bm [(0, .read), (2, .read), (1, .grow), (3, .grow), (4, .pure), (5, .pure)] (by kernel_rfl) (by kernel_rfl) hS ?_
  intro wz10 hS hBz10
  refine aF rfl rfl (aB (k := 1)  rfl ax hS rfl rfl rfl (.inl rfl) ?_)
  refine aF rfl rfl (aB (k := 0)  rfl ax hS rfl rfl rfl (.inl rfl) ?_)
  refine aS rfl rfl (av Tryz.call32 rfl (signOf_ok p _) ?_)
  rintro _ wc11 ⟨rfl, hBc11⟩
  replace hS := hS.grow hBc11
  refine ⟨hBc11, ?_⟩
  refine aS rfl rfl (av Tryz.call32 rfl (signOf_ok q _) ?_)
  rintro _ wc12 ⟨rfl, hBc12⟩
  replace hS := hS.grow hBc12
  refine ⟨hBc12, ?_⟩
  refine al rfl rfl (am  rfl ?_)
  refine al rfl rfl (am  rfl ?_)
  refine bC ?_
  repeat (with_reducible first | apply ag | apply ac | apply af | apply ae | apply ab)
  refine aj ?_
  refine aa rfl (ah  rfl ?_)
  refine aa rfl (ah  rfl ?_)
  refine aa rfl (e9  rfl rfl ?_)
  refine ai ?_
  repeat (with_reducible first | apply ag | apply ac | apply af | apply ae | apply ab)
  by_cases h : dT p = dT q
  · refine aN rfl (decide_eq_false (not_not_intro h)) ?_
    repeat (with_reducible first | apply ag | apply ac | apply af | apply ae | apply ab)
    refine bm [(0, .pure), (1, .read), (2, .read), (5, .pure), (6, .read), (7, .read), (3, .grow), (4, .grow), (8, .grow), (9, .grow), (10, .grow), (11, .pure)] (by kernel_rfl) (by kernel_rfl) hS ?_
    intro wz13 hS hBz13
    refine al rfl rfl (aH  rfl bM ?_)
    refine aF rfl rfl (aB (k := 1)  rfl cg hS rfl rfl rfl (.inr rfl) ?_)
    refine aF rfl rfl (aB (k := 0)  rfl ax hS rfl rfl rfl (.inl rfl) ?_)
    refine al rfl rfl (aH  rfl bM ?_)
    refine aF rfl rfl (aB (k := 0)  rfl cg hS rfl rfl rfl (.inr rfl) ?_)
    refine aF rfl rfl (aB (k := 1)  rfl ax hS rfl rfl rfl (.inl rfl) ?_)
    refine aS rfl rfl (av Tryz.call35 rfl (gQ q _) ?_)
    rintro _ wc14 ⟨rfl, hBc14⟩
    replace hS := hS.grow hBc14
    refine ⟨hBc14, ?_⟩
    refine aS rfl rfl (av Tryz.call34 rfl (jf p.num.natAbs q.den _ (by omega) (by omega)) ?_)
    rintro _ wc15 ⟨rfl, hBc15⟩
    replace hS := hS.grow hBc15
    refine ⟨hBc15, ?_⟩
    refine aS rfl rfl (av Tryz.call35 rfl (gQ p _) ?_)
    rintro _ wc16 ⟨rfl, hBc16⟩
    replace hS := hS.grow hBc16
    refine ⟨hBc16, ?_⟩
    refine aS rfl rfl (av Tryz.call34 rfl (jf q.num.natAbs p.den _ (by omega) (by omega)) ?_)
    rintro _ wc17 ⟨rfl, hBc17⟩
    replace hS := hS.grow hBc17
    refine ⟨hBc17, ?_⟩
    refine aS rfl rfl (av Tryz.call33 rfl (N_cmp _ _ _ (by omega) (by omega)) ?_)
    rintro _ wq18 ⟨rfl, hq18⟩
    replace hq18 := hq18.symm
    subst hq18
    refine ⟨Below.refl _ _, ?_⟩
    refine al rfl rfl (am  rfl ?_)
    refine bC ?_
    repeat (with_reducible first | apply ag | apply ac | apply af | apply ae | apply ab)
    refine aj ?_
    refine aa rfl (aH  rfl cn ?_)
    refine aw rfl (aB (k := 1)  rfl dq hS rfl rfl rfl (.inr rfl) ?_)
    refine ai ?_
    repeat (with_reducible first | apply ag | apply ac | apply af | apply ae | apply ab)
    have hcl := cmp_law h
    by_cases hneg : p.num < 0
    · refine aD rfl (decide_eq_true hneg) ?_
      repeat (with_reducible first | apply ag | apply ac | apply af | apply ae | apply ab)
      refine aj ?_
      refine aa rfl (ah  rfl ?_)
      refine aa rfl (s_neg  rfl (r := (-eh (p.num.natAbs * q.den) (q.num.natAbs * p.den))) (by unfold eh; split <;> (try split) <;> rfl) ?_)
      refine aa rfl (am  rfl ?_)
      refine ai ?_
      repeat (with_reducible first | apply ag | apply ac | apply af | apply ae | apply ab)
      refine aE ?_
      repeat (with_reducible first | apply ap | apply ao)
      refine aR rfl rfl ?_
      rw [if_pos (by simpa using hneg)] at hcl
      exact ⟨vi rfl hcl, hS.below⟩
    · refine aN rfl (decide_eq_false hneg) ?_
      repeat (with_reducible first | apply ag | apply ac | apply af | apply ae | apply ab)
      refine aj ?_
      refine aa rfl (ah  rfl ?_)
      refine aa rfl (am  rfl ?_)
      refine ai ?_
      repeat (with_reducible first | apply ag | apply ac | apply af | apply ae | apply ab)
      refine aE ?_
      repeat (with_reducible first | apply ap | apply ao)
      refine aR rfl rfl ?_
      rw [if_neg (by simpa using hneg)] at hcl
      exact ⟨vi rfl hcl, hS.below⟩
  · refine aD rfl (decide_eq_true h) ?_
    repeat (with_reducible first | apply ag | apply ac | apply af | apply ae | apply ab)
    refine aj ?_
    refine aa rfl (ah  rfl ?_)
    refine aa rfl (ah  rfl ?_)
    refine aa rfl (aV  rfl rfl ?_)
    refine ai ?_
    repeat (with_reducible first | apply ag | apply ac | apply af | apply ae | apply ab)
    have hcs := cmp_sgn h
    by_cases hlt : dT p < dT q
    · refine aD rfl (decide_eq_true hlt) ?_
      repeat (with_reducible first | apply ag | apply ac | apply af | apply ae | apply ab)
      refine aj ?_
      refine aa rfl (am  rfl ?_)
      refine ai ?_
      repeat (with_reducible first | apply ag | apply ac | apply af | apply ae | apply ab)
      refine aE ?_
      repeat (with_reducible first | apply ap | apply ao)
      refine aR rfl rfl ?_
      rw [if_pos hlt] at hcs
      exact ⟨vi rfl hcs.symm, hS.below⟩
    · refine aN rfl (decide_eq_false hlt) ?_
      repeat (with_reducible first | apply ag | apply ac | apply af | apply ae | apply ab)
      refine aj ?_
      refine aa rfl (am  rfl ?_)
      refine ai ?_
      repeat (with_reducible first | apply ag | apply ac | apply af | apply ae | apply ab)
      refine aE ?_
      repeat (with_reducible first | apply ap | apply ao)
      refine aR rfl rfl ?_
      rw [if_neg hlt] at hcs
      exact ⟨vi rfl hcs.symm, hS.below⟩
set_option maxHeartbeats 1000000 in
theorem add_ok (p q : Rat) (w : World) (hL : L p + L q ≤ MX) :
    Ret Tryz.prog 36 #[bE (ofQ p), bE (ofQ q)] w fun v w' => v = bE (ofQ (p + q)) ∧ Below w.heap.size w w' := by
  have hM : MX = 1099511627776 := rfl
  have hn1 := iq p
  have hn2 := iq q
  have hd1 := gF p
  have hd2 := gF q
  have hm1 := bT p.num.natAbs q.den
  have hm2 := bT q.num.natAbs p.den
  have hm3 := bT p.den q.den
  have hS := St.init w
  refine enter Tryz.func36 rfl Tryz.ntmps36 rfl ?_
  repeat (with_reducible first | apply ag | apply ac | apply af | apply ae | apply ab)
  refine aj ?_
  refine ak rfl (bX (new := aC (ofQ p))  rfl rfl hS ?_)
  intro b1 wz2 hS hBz2
  refine ak rfl (bX (new := aC (ofQ q))  rfl rfl hS ?_)
  intro b3 wz4 hS hBz4
  refine ak rfl (aZ  ax hS ?_)
  intro b5 wz6 hS hBz6
  refine ai ?_
  repeat (with_reducible first | apply ag | apply ac | apply af | apply ae | apply ab)
  refine bm [(0, .pure), (1, .read), (2, .pure), (3, .read), (4, .pure), (5, .pure), (6, .pure)] (by kernel_rfl) (by kernel_rfl) hS ?_
  intro wz7 hS hBz7
  refine al rfl rfl (aH  rfl bM ?_)
  refine aF rfl rfl (aB (k := 2)  rfl cg hS rfl rfl rfl (.inr rfl) ?_)
  refine al rfl rfl (aH  rfl bM ?_)
  refine aF rfl rfl (aB (k := 1)  rfl cg hS rfl rfl rfl (.inr rfl) ?_)
  refine al rfl rfl (am  rfl ?_)
  refine al rfl rfl (am  rfl ?_)
  refine al rfl rfl (am  rfl ?_)
  refine bC ?_
  repeat (with_reducible first | apply ag | apply ac | apply af | apply ae | apply ab)
  refine aj ?_
  refine aa rfl (aH  rfl bO ?_)
  refine aw rfl (aB (k := 2)  rfl cg hS rfl rfl rfl (.inr rfl) ?_)
  refine aa rfl (aH  rfl bO ?_)
  refine aw rfl (aB (k := 1)  rfl cg hS rfl rfl rfl (.inr rfl) ?_)
  refine aa rfl (d4  rfl rfl ?_)
  refine ai ?_
  repeat (with_reducible first | apply ag | apply ac | apply af | apply ae | apply ab)
  refine a9 (fun ρ w' => ∃ X Y D : Nat, D ≠ 0 ∧ p = mkRat (sg (decide (p.num < 0)) X) D ∧ q = mkRat (sg (decide (q.num < 0)) Y) D ∧ (aT X).size ≤ MX ∧ (aT Y).size ≤ MX ∧ (aT D).size ≤ MX ∧
    ρ 2 = .pointer (some ⟨b1, 0, none⟩) ∧ ρ 3 = .pointer (some ⟨b3, 0, none⟩) ∧ ρ 4 = .pointer (some ⟨b5, 0, none⟩) ∧ ρ 5 = .string (aT X) ∧ ρ 6 = .string (aT Y) ∧ ρ 7 = .string (aT D) ∧
    St w w' [(b5, 36, aC ⟨false, ⟨#[]⟩, ⟨#[]⟩⟩), (b3, 36, aC (ofQ q)), (b1, 36, aC (ofQ p))]) ?_ ?_
  · repeat (with_reducible first | apply ag | apply ac | apply af | apply ae | apply ab)
    by_cases hden : p.den = q.den
    · refine aN rfl (decide_eq_false (not_not_intro (ofQ_den_inj.2 hden))) ?_
      repeat (with_reducible first | apply ag | apply ac | apply af | apply ae | apply ab)
      refine aj ?_
      refine aw rfl (aB (k := 2)  rfl ax hS rfl rfl rfl (.inl rfl) ?_)
      refine ak rfl (av Tryz.call35 rfl (gQ p _) ?_)
      rintro _ wc8 ⟨rfl, hBc8⟩
      replace hS := hS.grow hBc8
      refine aa rfl (am  rfl ?_)
      refine ai ?_
      repeat (with_reducible first | apply ag | apply ac | apply af | apply ae | apply ab)
      exact ⟨_, rfl, p.num.natAbs, q.num.natAbs, p.den, p.den_nz, (mkRat_sg p).symm, by rw [hden]; exact (mkRat_sg q).symm, by omega, by omega, by omega, rfl, rfl, rfl, rfl, rfl, rfl, hS⟩
    · refine aD rfl (decide_eq_true (fun g => hden (ofQ_den_inj.1 g))) ?_
      repeat (with_reducible first | apply ag | apply ac | apply af | apply ae | apply ab)
      refine bm [(0, .pure), (1, .read), (4, .pure), (5, .read), (2, .grow), (3, .grow), (6, .grow), (7, .grow), (8, .pure), (9, .pure)] (by kernel_rfl) (by kernel_rfl) hS ?_
      intro wz9 hS hBz9
      refine al rfl rfl (ah  rfl ?_)
      refine aF rfl rfl (aB (k := 1)  rfl ax hS rfl rfl rfl (.inl rfl) ?_)
      refine al rfl rfl (ah  rfl ?_)
      refine aF rfl rfl (aB (k := 2)  rfl ax hS rfl rfl rfl (.inl rfl) ?_)
      refine aS rfl rfl (av Tryz.call35 rfl (gQ q _) ?_)
      rintro _ wc10 ⟨rfl, hBc10⟩
      replace hS := hS.grow hBc10
      refine ⟨hBc10, ?_⟩
      refine aS rfl rfl (av Tryz.call34 rfl (jf p.num.natAbs q.den _ (by omega) (by omega)) ?_)
      rintro _ wc11 ⟨rfl, hBc11⟩
      replace hS := hS.grow hBc11
      refine ⟨hBc11, ?_⟩
      refine aS rfl rfl (av Tryz.call35 rfl (gQ p _) ?_)
      rintro _ wc12 ⟨rfl, hBc12⟩
      replace hS := hS.grow hBc12
      refine ⟨hBc12, ?_⟩
      refine aS rfl rfl (av Tryz.call34 rfl (jf q.num.natAbs p.den _ (by omega) (by omega)) ?_)
      rintro _ wc13 ⟨rfl, hBc13⟩
      replace hS := hS.grow hBc13
      refine ⟨hBc13, ?_⟩
      refine al rfl rfl (am  rfl ?_)
      refine al rfl rfl (am  rfl ?_)
      refine bC ?_
      repeat (with_reducible first | apply ag | apply ac | apply af | apply ae | apply ab)
      refine bm [(0, .read), (2, .read), (1, .grow), (3, .grow), (4, .grow), (5, .pure)] (by kernel_rfl) (by kernel_rfl) hS ?_
      intro wz14 hS hBz14
      refine aF rfl rfl (aB (k := 2)  rfl ax hS rfl rfl rfl (.inl rfl) ?_)
      refine aF rfl rfl (aB (k := 1)  rfl ax hS rfl rfl rfl (.inl rfl) ?_)
      refine aS rfl rfl (av Tryz.call35 rfl (gQ p _) ?_)
      rintro _ wc15 ⟨rfl, hBc15⟩
      replace hS := hS.grow hBc15
      refine ⟨hBc15, ?_⟩
      refine aS rfl rfl (av Tryz.call35 rfl (gQ q _) ?_)
      rintro _ wc16 ⟨rfl, hBc16⟩
      replace hS := hS.grow hBc16
      refine ⟨hBc16, ?_⟩
      refine aS rfl rfl (av Tryz.call34 rfl (jf p.den q.den _ (by omega) (by omega)) ?_)
      rintro _ wc17 ⟨rfl, hBc17⟩
      replace hS := hS.grow hBc17
      refine ⟨hBc17, ?_⟩
      refine al rfl rfl (am  rfl ?_)
      refine bC ?_
      repeat (with_reducible first | apply ag | apply ac | apply af | apply ae | apply ab)
      exact ⟨_, rfl, p.num.natAbs * q.den, q.num.natAbs * p.den, p.den * q.den, Nat.mul_ne_zero p.den_nz q.den_nz, (eP p q.den_nz).symm, by rw [Nat.mul_comm p.den]; exact (eP q p.den_nz).symm, by omega, by omega, by omega, rfl, rfl, rfl, rfl, rfl, rfl, hS⟩
  clear hS hm1 hm2 hm3
  rintro ρ w' ⟨X, Y, D, hD, hp, hq, sX, sY, sD, g2, g3, g4, g5, g6, g7, hS⟩
  have hsum := natS_size_add X Y
  have hXY := mkRat_add_same (sg (decide (p.num < 0)) X) (sg (decide (q.num < 0)) Y) hD
  rw [← hp, ← hq] at hXY
  clear hp hq
  rw [hXY]
  have hD2 : val (aT D) ≠ 0 := by rw [br]; exact hD
  repeat (with_reducible first | apply ag | apply ac | apply af | apply ae | apply ab)
  refine aj ?_
  refine aa rfl (aH  g2 cn ?_)
  refine aw rfl (aB (k := 2)  rfl dq hS rfl rfl rfl (.inr rfl) ?_)
  refine aa rfl (aH  g3 cn ?_)
  refine aw rfl (aB (k := 1)  rfl dq hS rfl rfl rfl (.inr rfl) ?_)
  refine aa rfl (s_eqb  rfl rfl Tryz.underlying4 ?_)
  refine ai ?_
  repeat (with_reducible first | apply ag | apply ac | apply af | apply ae | apply ab)
  by_cases hneg : decide (p.num < 0) = decide (q.num < 0)
  · have hb : (decide (p.num < 0) == decide (q.num < 0)) = true := by rw [hneg]; exact beq_self_eq_true _
    refine aD rfl (hb) ?_
    repeat (with_reducible first | apply ag | apply ac | apply af | apply ae | apply ab)
    have hred := fun w => fZ (decide (p.num < 0)) (aT (X + Y)) (aT D) w (by omega) (by omega) hD2
    rw [br, br] at hred
    repeat (with_reducible first | apply ag | apply ac | apply af | apply ae | apply ab)
    refine bm [(0, .pure), (1, .read), (2, .pure), (3, .pure), (5, .pure), (4, .grow), (6, .grow), (7, .free)] (by kernel_rfl) (by kernel_rfl) hS ?_
    intro wz18 hS hBz18
    refine al rfl rfl (aH  g2 cn ?_)
    refine aF rfl rfl (aB (k := 2)  rfl dq hS rfl rfl rfl (.inr rfl) ?_)
    refine al rfl rfl (ah  g5 ?_)
    refine al rfl rfl (ah  g6 ?_)
    refine al rfl rfl (ah  g7 ?_)
    refine aS rfl rfl (av Tryz.call65 rfl (N_add X Y _ (by omega) (by omega)) ?_)
    rintro _ wc19 ⟨rfl, hBc19⟩
    replace hS := hS.grow hBc19
    refine ⟨hBc19, ?_⟩
    refine aS rfl rfl (av Tryz.call64 rfl (hred _) ?_)
    rintro _ wc20 ⟨rfl, hBc20⟩
    replace hS := hS.grow hBc20
    refine ⟨hBc20, ?_⟩
    refine bJ rfl rfl (a8 (k := 0)  g4 rfl ax hS rfl rfl rfl (Nat.le_of_ble_eq_true rfl) rfl ?_)
    intro wz21 hS
    refine bC ?_
    repeat (with_reducible first | apply ag | apply ac | apply af | apply ae | apply ab)
    refine aE ?_
    repeat (with_reducible first | apply ap | apply ao)
    refine bN (k := 0) rfl g4 ax hS rfl rfl ?_
    rw [← hneg, sg_add]
    exact ⟨rfl, hS.below⟩
  · have hb : (decide (p.num < 0) == decide (q.num < 0)) = false := by rw [beq_eq_false_iff_ne]; exact hneg
    refine aN rfl (hb) ?_
    repeat (with_reducible first | apply ag | apply ac | apply af | apply ae | apply ab)
    by_cases hle : Y ≤ X
    · have hs1 := cF (Nat.sub_le X Y)
      have hred := fun w => fZ (decide (p.num < 0)) (aT (X - Y)) (aT D) w (by omega) (by omega) hD2
      rw [br, br] at hred
      repeat (with_reducible first | apply ag | apply ac | apply af | apply ae | apply ab)
      refine aj ?_
      refine aa rfl (ah  g5 ?_)
      refine aa rfl (ah  g6 ?_)
      refine ak rfl (av Tryz.call66 rfl (N_sub X Y _ (by omega) (by omega) hle) ?_)
      rintro _ wc22 ⟨rfl, hBc22⟩
      replace hS := hS.grow hBc22
      refine aa rfl (ah  rfl ?_)
      refine aa rfl (bL  rfl rfl ?_)
      refine aa rfl (bL  rfl rfl ?_)
      refine aa rfl (am  rfl ?_)
      refine aa rfl (am  rfl ?_)
      refine ai ?_
      repeat (with_reducible first | apply ag | apply ac | apply af | apply ae | apply ab)
      refine aj ?_
      refine aa rfl (ah  rfl ?_)
      refine ai ?_
      repeat (with_reducible first | apply ag | apply ac | apply af | apply ae | apply ab)
      refine aD rfl (rfl) ?_
      repeat (with_reducible first | apply ag | apply ac | apply af | apply ae | apply ab)
      refine aj ?_
      refine aa rfl (aH  g2 cn ?_)
      refine aw rfl (aB (k := 2)  rfl dq hS rfl rfl rfl (.inr rfl) ?_)
      refine aa rfl (ah  rfl ?_)
      refine aa rfl (ah  g7 ?_)
      refine ak rfl (av Tryz.call64 rfl (hred _) ?_)
      rintro _ wc23 ⟨rfl, hBc23⟩
      replace hS := hS.grow hBc23
      refine ak rfl (a8 (k := 0)  g4 rfl ax hS rfl rfl rfl (Nat.le_of_ble_eq_true rfl) rfl ?_)
      intro wz24 hS
      refine ai ?_
      repeat (with_reducible first | apply ag | apply ac | apply af | apply ae | apply ab)
      refine aE ?_
      repeat (with_reducible first | apply ap | apply ao)
      refine bN (k := 0) rfl g4 ax hS rfl rfl ?_
      rw [sg_sub hneg hle]
      exact ⟨rfl, hS.below⟩
    · have hs1 := cF (Nat.sub_le Y X)
      have hred := fun w => fZ (decide (q.num < 0)) (aT (Y - X)) (aT D) w (by omega) (by omega) hD2
      rw [br, br] at hred
      repeat (with_reducible first | apply ag | apply ac | apply af | apply ae | apply ab)
      refine aj ?_
      refine aa rfl (ah  g5 ?_)
      refine aa rfl (ah  g6 ?_)
      refine ak rfl (av Tryz.call66 rfl (N_sub_no X Y _ (by omega) (by omega) (by omega)) ?_)
      rintro _ wc25 ⟨rfl, hBc25⟩
      replace hS := hS.grow hBc25
      refine aa rfl (ah  rfl ?_)
      refine aa rfl (bL  rfl rfl ?_)
      refine aa rfl (bL  rfl rfl ?_)
      refine aa rfl (am  rfl ?_)
      refine aa rfl (am  rfl ?_)
      refine ai ?_
      repeat (with_reducible first | apply ag | apply ac | apply af | apply ae | apply ab)
      refine aj ?_
      refine aa rfl (ah  rfl ?_)
      refine ai ?_
      repeat (with_reducible first | apply ag | apply ac | apply af | apply ae | apply ab)
      refine aN rfl (rfl) ?_
      repeat (with_reducible first | apply ag | apply ac | apply af | apply ae | apply ab)
      refine aj ?_
      refine aa rfl (ah  g6 ?_)
      refine aa rfl (ah  g5 ?_)
      refine ak rfl (av Tryz.call66 rfl (N_sub Y X _ (by omega) (by omega) (by omega)) ?_)
      rintro _ wc26 ⟨rfl, hBc26⟩
      replace hS := hS.grow hBc26
      refine aa rfl (ah  rfl ?_)
      refine aa rfl (bL  rfl rfl ?_)
      refine aa rfl (bL  rfl rfl ?_)
      refine aa rfl (am  rfl ?_)
      refine aa rfl (am  rfl ?_)
      refine ai ?_
      repeat (with_reducible first | apply ag | apply ac | apply af | apply ae | apply ab)
      refine aj ?_
      refine aa rfl (aH  g3 cn ?_)
      refine aw rfl (aB (k := 1)  rfl dq hS rfl rfl rfl (.inr rfl) ?_)
      refine aa rfl (ah  rfl ?_)
      refine aa rfl (ah  g7 ?_)
      refine ak rfl (av Tryz.call64 rfl (hred _) ?_)
      rintro _ wc27 ⟨rfl, hBc27⟩
      replace hS := hS.grow hBc27
      refine ak rfl (a8 (k := 0)  g4 rfl ax hS rfl rfl rfl (Nat.le_of_ble_eq_true rfl) rfl ?_)
      intro wz28 hS
      refine ai ?_
      repeat (with_reducible first | apply ag | apply ac | apply af | apply ae | apply ab)
      refine aE ?_
      repeat (with_reducible first | apply ap | apply ao)
      refine bN (k := 0) rfl g4 ax hS rfl rfl ?_
      rw [sg_sub' hneg (by omega)]
      exact ⟨rfl, hS.below⟩
theorem iu (r s : RR) (w : World) (hr : Lr r + Lr s ≤ MX) :
    Ret Tryz.prog 14 #[bE r, bE s] w fun v w' => v = bE (ofQ (toQ r + toQ s)) ∧ Below w.heap.size w w' := by
  have hL1 := fG r
  have hL2 := fG s
  have hS := St.init w
  refine enter Tryz.func14 rfl Tryz.ntmps14 rfl ?_
  repeat (with_reducible first | apply ag | apply ac | apply af | apply ae | apply ab)
  refine aj ?_
  refine ak rfl (bX (new := aC r)  rfl rfl hS ?_)
  intro b1 wz2 hS hBz2
  refine ak rfl (bX (new := aC s)  rfl rfl hS ?_)
  intro b3 wz4 hS hBz4
  refine ak rfl (aZ  ax hS ?_)
  intro b5 wz6 hS hBz6
  refine ai ?_
  repeat (with_reducible first | apply ag | apply ac | apply af | apply ae | apply ab)
  refine bm [(0, .read), (2, .read), (1, .grow), (3, .grow), (4, .grow), (5, .free)] (by kernel_rfl) (by kernel_rfl) hS ?_
  intro wz7 hS hBz7
  refine aF rfl rfl (aB (k := 2)  rfl ax hS rfl rfl rfl (.inl rfl) ?_)
  refine aF rfl rfl (aB (k := 1)  rfl ax hS rfl rfl rfl (.inl rfl) ?_)
  refine aS rfl rfl (av Tryz.call31 rfl (dB r _ (by omega)) ?_)
  rintro _ wc8 ⟨rfl, hBc8⟩
  replace hS := hS.grow hBc8
  refine ⟨hBc8, ?_⟩
  refine aS rfl rfl (av Tryz.call31 rfl (dB s _ (by omega)) ?_)
  rintro _ wc9 ⟨rfl, hBc9⟩
  replace hS := hS.grow hBc9
  refine ⟨hBc9, ?_⟩
  refine aS rfl rfl (av Tryz.call36 rfl (add_ok (toQ r) (toQ s) _ (by omega)) ?_)
  rintro _ wc10 ⟨rfl, hBc10⟩
  replace hS := hS.grow hBc10
  refine ⟨hBc10, ?_⟩
  refine bJ rfl rfl (a8 (k := 0)  rfl rfl ax hS rfl rfl rfl (Nat.le_of_ble_eq_true rfl) rfl ?_)
  intro wz11 hS
  refine bC ?_
  repeat (with_reducible first | apply ag | apply ac | apply af | apply ae | apply ab)
  refine aE ?_
  repeat (with_reducible first | apply ap | apply ao)
  refine bN (k := 0) rfl rfl ax hS rfl rfl ?_
  exact ⟨rfl, hS.below⟩
theorem cK (r s : RR) (w : World) (hr : Lr r + Lr s ≤ MX) :
    Ret Tryz.prog 29 #[bE r, bE s] w fun v w' => v = bE (ofQ (toQ r - toQ s)) ∧ Below w.heap.size w w' := by
  have hL1 := fG r
  have hL2 := fG s
  have hL3 := js (toQ s)
  have hS := St.init w
  refine enter Tryz.func29 rfl Tryz.ntmps29 rfl ?_
  repeat (with_reducible first | apply ag | apply ac | apply af | apply ae | apply ab)
  refine aj ?_
  refine ak rfl (bX (new := aC r)  rfl rfl hS ?_)
  intro b1 wz2 hS hBz2
  refine ak rfl (bX (new := aC s)  rfl rfl hS ?_)
  intro b3 wz4 hS hBz4
  refine ak rfl (aZ  ax hS ?_)
  intro b5 wz6 hS hBz6
  refine ai ?_
  repeat (with_reducible first | apply ag | apply ac | apply af | apply ae | apply ab)
  refine bm [(0, .read), (2, .read), (1, .grow), (3, .grow), (4, .grow), (5, .grow), (6, .free)] (by kernel_rfl) (by kernel_rfl) hS ?_
  intro wz7 hS hBz7
  refine aF rfl rfl (aB (k := 2)  rfl ax hS rfl rfl rfl (.inl rfl) ?_)
  refine aF rfl rfl (aB (k := 1)  rfl ax hS rfl rfl rfl (.inl rfl) ?_)
  refine aS rfl rfl (av Tryz.call31 rfl (dB r _ (by omega)) ?_)
  rintro _ wc8 ⟨rfl, hBc8⟩
  replace hS := hS.grow hBc8
  refine ⟨hBc8, ?_⟩
  refine aS rfl rfl (av Tryz.call31 rfl (dB s _ (by omega)) ?_)
  rintro _ wc9 ⟨rfl, hBc9⟩
  replace hS := hS.grow hBc9
  refine ⟨hBc9, ?_⟩
  refine aS rfl rfl (av Tryz.call57 rfl (negate_ok (toQ s) _) ?_)
  rintro _ wc10 ⟨rfl, hBc10⟩
  replace hS := hS.grow hBc10
  refine ⟨hBc10, ?_⟩
  refine aS rfl rfl (av Tryz.call36 rfl (add_ok (toQ r) (-toQ s) _ (by omega)) ?_)
  rintro _ wc11 ⟨rfl, hBc11⟩
  replace hS := hS.grow hBc11
  refine ⟨hBc11, ?_⟩
  refine bJ rfl rfl (a8 (k := 0)  rfl rfl ax hS rfl rfl rfl (Nat.le_of_ble_eq_true rfl) rfl ?_)
  intro wz12 hS
  refine bC ?_
  repeat (with_reducible first | apply ag | apply ac | apply af | apply ae | apply ab)
  refine aE ?_
  repeat (with_reducible first | apply ap | apply ao)
  refine bN (k := 0) rfl rfl ax hS rfl rfl ?_
  rw [Rat.sub_eq_add_neg]
  exact ⟨rfl, hS.below⟩
def dK (p q : Rat) : Rat := if p ≤ q then p else q
def d8 (p q : Rat) : Rat := if q ≤ p then p else q
theorem fX (r s : RR) (w : World) (hr : Lr r + Lr s ≤ MX) :
    Ret Tryz.prog 47 #[bE r, bE s] w fun v w' => v = bE (ofQ (dK (toQ r) (toQ s))) ∧ Below w.heap.size w w' := by
  have hS := St.init w
  refine enter Tryz.func47 rfl Tryz.ntmps47 rfl ?_
  repeat (with_reducible first | apply ag | apply ac | apply af | apply ae | apply ab)
  refine aj ?_
  refine ak rfl (bX (new := aC r)  rfl rfl hS ?_)
  intro b1 wz2 hS hBz2
  refine ak rfl (bX (new := aC s)  rfl rfl hS ?_)
  intro b3 wz4 hS hBz4
  refine ak rfl (aZ  ax hS ?_)
  intro b5 wz6 hS hBz6
  refine ai ?_
  repeat (with_reducible first | apply ag | apply ac | apply af | apply ae | apply ab)
  refine aj ?_
  refine aw rfl (aB (k := 2)  rfl ax hS rfl rfl rfl (.inl rfl) ?_)
  refine aw rfl (aB (k := 1)  rfl ax hS rfl rfl rfl (.inl rfl) ?_)
  refine ak rfl (av Tryz.call9 rfl (QCompare_ok r s _ hr) ?_)
  rintro _ wc7 ⟨rfl, hBc7⟩
  replace hS := hS.grow hBc7
  refine aa rfl (ju  rfl rfl ?_)
  refine ai ?_
  repeat (with_reducible first | apply ag | apply ac | apply af | apply ae | apply ab)
  by_cases h : toQ r ≤ toQ s
  · refine aD rfl (decide_eq_true (cmpQ_le.2 h)) ?_
    repeat (with_reducible first | apply ag | apply ac | apply af | apply ae | apply ab)
    refine aj ?_
    refine aw rfl (aB (k := 2)  rfl ax hS rfl rfl rfl (.inl rfl) ?_)
    refine ak rfl (av Tryz.call31 rfl (dB r _ (by omega)) ?_)
    rintro _ wc8 ⟨rfl, hBc8⟩
    replace hS := hS.grow hBc8
    refine ak rfl (a8 (k := 0)  rfl rfl ax hS rfl rfl rfl (Nat.le_of_ble_eq_true rfl) rfl ?_)
    intro wz9 hS
    refine ai ?_
    repeat (with_reducible first | apply ag | apply ac | apply af | apply ae | apply ab)
    refine aE ?_
    repeat (with_reducible first | apply ap | apply ao)
    refine bN (k := 0) rfl rfl ax hS rfl rfl ?_
    exact ⟨by unfold dK; rw [if_pos h]; rfl, hS.below⟩
  · refine aN rfl (decide_eq_false (fun g => h (cmpQ_le.1 g))) ?_
    repeat (with_reducible first | apply ag | apply ac | apply af | apply ae | apply ab)
    refine aj ?_
    refine aw rfl (aB (k := 1)  rfl ax hS rfl rfl rfl (.inl rfl) ?_)
    refine ak rfl (av Tryz.call31 rfl (dB s _ (by omega)) ?_)
    rintro _ wc10 ⟨rfl, hBc10⟩
    replace hS := hS.grow hBc10
    refine ak rfl (a8 (k := 0)  rfl rfl ax hS rfl rfl rfl (Nat.le_of_ble_eq_true rfl) rfl ?_)
    intro wz11 hS
    refine ai ?_
    repeat (with_reducible first | apply ag | apply ac | apply af | apply ae | apply ab)
    refine aE ?_
    repeat (with_reducible first | apply ap | apply ao)
    refine bN (k := 0) rfl rfl ax hS rfl rfl ?_
    exact ⟨by unfold dK; rw [if_neg h]; rfl, hS.below⟩
theorem QMax_ok (r s : RR) (w : World) (hr : Lr r + Lr s ≤ MX) :
    Ret Tryz.prog 67 #[bE r, bE s] w fun v w' => v = bE (ofQ (d8 (toQ r) (toQ s))) ∧ Below w.heap.size w w' := by
  have hS := St.init w
  refine enter Tryz.func67 rfl Tryz.ntmps67 rfl ?_
  repeat (with_reducible first | apply ag | apply ac | apply af | apply ae | apply ab)
  refine aj ?_
  refine ak rfl (bX (new := aC r)  rfl rfl hS ?_)
  intro b1 wz2 hS hBz2
  refine ak rfl (bX (new := aC s)  rfl rfl hS ?_)
  intro b3 wz4 hS hBz4
  refine ak rfl (aZ  ax hS ?_)
  intro b5 wz6 hS hBz6
  refine ai ?_
  repeat (with_reducible first | apply ag | apply ac | apply af | apply ae | apply ab)
  refine aj ?_
  refine aw rfl (aB (k := 2)  rfl ax hS rfl rfl rfl (.inl rfl) ?_)
  refine aw rfl (aB (k := 1)  rfl ax hS rfl rfl rfl (.inl rfl) ?_)
  refine ak rfl (av Tryz.call9 rfl (QCompare_ok r s _ hr) ?_)
  rintro _ wc7 ⟨rfl, hBc7⟩
  replace hS := hS.grow hBc7
  refine aa rfl (df  rfl rfl ?_)
  refine ai ?_
  repeat (with_reducible first | apply ag | apply ac | apply af | apply ae | apply ab)
  by_cases h : toQ s ≤ toQ r
  · refine aD rfl (decide_eq_true (cmpQ_ge.2 h)) ?_
    repeat (with_reducible first | apply ag | apply ac | apply af | apply ae | apply ab)
    refine aj ?_
    refine aw rfl (aB (k := 2)  rfl ax hS rfl rfl rfl (.inl rfl) ?_)
    refine ak rfl (av Tryz.call31 rfl (dB r _ (by omega)) ?_)
    rintro _ wc8 ⟨rfl, hBc8⟩
    replace hS := hS.grow hBc8
    refine ak rfl (a8 (k := 0)  rfl rfl ax hS rfl rfl rfl (Nat.le_of_ble_eq_true rfl) rfl ?_)
    intro wz9 hS
    refine ai ?_
    repeat (with_reducible first | apply ag | apply ac | apply af | apply ae | apply ab)
    refine aE ?_
    repeat (with_reducible first | apply ap | apply ao)
    refine bN (k := 0) rfl rfl ax hS rfl rfl ?_
    exact ⟨by unfold d8; rw [if_pos h]; rfl, hS.below⟩
  · refine aN rfl (decide_eq_false (fun g => h (cmpQ_ge.1 g))) ?_
    repeat (with_reducible first | apply ag | apply ac | apply af | apply ae | apply ab)
    refine aj ?_
    refine aw rfl (aB (k := 1)  rfl ax hS rfl rfl rfl (.inl rfl) ?_)
    refine ak rfl (av Tryz.call31 rfl (dB s _ (by omega)) ?_)
    rintro _ wc10 ⟨rfl, hBc10⟩
    replace hS := hS.grow hBc10
    refine ak rfl (a8 (k := 0)  rfl rfl ax hS rfl rfl rfl (Nat.le_of_ble_eq_true rfl) rfl ?_)
    intro wz11 hS
    refine ai ?_
    repeat (with_reducible first | apply ag | apply ac | apply af | apply ae | apply ab)
    refine aE ?_
    repeat (with_reducible first | apply ap | apply ao)
    refine bN (k := 0) rfl rfl ax hS rfl rfl ?_
    exact ⟨by unfold d8; rw [if_neg h]; rfl, hS.below⟩
end Go.Proofs.YtmghobajmhdbfaaGreatDoor
namespace Go.Proofs.YtmghobajmhdbfaaGreatDoor
open Go Go.RowKit Go.Sx
theorem mkRat_int (n : Int) : mkRat (sg (decide (n < 0)) n.natAbs) 1 = (n : Rat) := by
  have h : sg (decide (n < 0)) n.natAbs = n := by
    unfold sg
    by_cases h : n < 0 <;> simp [h] <;> omega
  rw [h]
  have := Rat.mkRat_self (n : Rat)
  rwa [Rat.num_intCast, Rat.den_intCast] at this
theorem natS_u64 {n : Nat} (h : n < 18446744073709551616) : (aT n).size ≤ 8 := dF h
theorem magnitude_ok (n : Int) (w : World) (h1 : -9223372036854775808 ≤ n) (h2 : n ≤ 9223372036854775807) :
    Ret Tryz.prog 68 #[.int .i64 n] w fun v w' => v = .string (aT n.natAbs) ∧ Below w.heap.size w w' := by
  have hS := St.init w
  refine enter Tryz.func68 rfl Tryz.ntmps68 rfl ?_
  repeat (with_reducible first | apply ag | apply ac | apply af | apply ae | apply ab)
  refine aj ?_
  refine aa rfl (am  rfl ?_)
  refine ai ?_
  repeat (with_reducible first | apply ag | apply ac | apply af | apply ae | apply ab)
  refine aj ?_
  refine aa rfl (ah  rfl ?_)
  refine aa rfl (aV  rfl rfl ?_)
  refine ai ?_
  repeat (with_reducible first | apply ag | apply ac | apply af | apply ae | apply ab)
  by_cases h : n < 0
  · refine aD rfl (decide_eq_true h) ?_
    repeat (with_reducible first | apply ag | apply ac | apply af | apply ae | apply ab)
    refine aj ?_
    refine aa rfl (ah  rfl ?_)
    refine aa rfl (aL  rfl Tryz.underlying95 ⟨_, Tryz.underlying2⟩ (r := ((n + 18446744073709551616 : Int))) (by rw [e7]; omega) ?_)
    refine aa rfl (s_neg  rfl (r := ((n.natAbs : Nat) : Int)) (by rw [e7]; omega) ?_)
    refine ak rfl (av Tryz.call95 rfl (FromUint_ok n.natAbs _ (by omega)) ?_)
    rintro _ wc1 ⟨rfl, hBc1⟩
    replace hS := hS.grow hBc1
    refine aa rfl (am  rfl ?_)
    refine ai ?_
    repeat (with_reducible first | apply ag | apply ac | apply af | apply ae | apply ab)
    refine aE ?_
    repeat (with_reducible first | apply ap | apply ao)
    refine aR rfl rfl ?_
    exact ⟨rfl, hS.below⟩
  · refine aN rfl (decide_eq_false h) ?_
    repeat (with_reducible first | apply ag | apply ac | apply af | apply ae | apply ab)
    refine aj ?_
    refine aa rfl (ah  rfl ?_)
    refine aa rfl (aL  rfl Tryz.underlying95 ⟨_, Tryz.underlying2⟩ (r := ((n.natAbs : Nat) : Int)) (by rw [e7]; omega) ?_)
    refine ak rfl (av Tryz.call95 rfl (FromUint_ok n.natAbs _ (by omega)) ?_)
    rintro _ wc2 ⟨rfl, hBc2⟩
    replace hS := hS.grow hBc2
    refine aa rfl (am  rfl ?_)
    refine ai ?_
    repeat (with_reducible first | apply ag | apply ac | apply af | apply ae | apply ab)
    refine aE ?_
    repeat (with_reducible first | apply ap | apply ao)
    refine aR rfl rfl ?_
    exact ⟨rfl, hS.below⟩
theorem QInt_ok (n : Int) (w : World) (h1 : -9223372036854775808 ≤ n) (h2 : n ≤ 9223372036854775807) :
    Ret Tryz.prog 38 #[.int .i64 n] w fun v w' => v = bE (ofQ (n : Rat)) ∧ Below w.heap.size w w' := by
  have hM : MX = 1099511627776 := rfl
  have hs := natS_u64 (n := n.natAbs) (by omega)
  have hred := fun w => fZ (decide (n < 0)) (aT n.natAbs) ⟨#[1]⟩ w (by omega) (by show 1 ≤ _; omega) (by rw [val_le_one]; decide)
  rw [br, val_le_one, mkRat_int] at hred
  have hS := St.init w
  refine enter Tryz.func38 rfl Tryz.ntmps38 rfl ?_
  repeat (with_reducible first | apply ag | apply ac | apply af | apply ae | apply ab)
  refine aj ?_
  refine ak rfl (aZ  ax hS ?_)
  intro b1 wz2 hS hBz2
  refine ai ?_
  repeat (with_reducible first | apply ag | apply ac | apply af | apply ae | apply ab)
  refine aj ?_
  refine aa rfl (ah  rfl ?_)
  refine aa rfl (aV  rfl rfl ?_)
  refine aa rfl (ah  rfl ?_)
  refine ak rfl (av Tryz.call68 rfl (magnitude_ok n _ h1 h2) ?_)
  rintro _ wc3 ⟨rfl, hBc3⟩
  replace hS := hS.grow hBc3
  refine ak rfl (av Tryz.call64 rfl (hred _) ?_)
  rintro _ wc4 ⟨rfl, hBc4⟩
  replace hS := hS.grow hBc4
  refine ak rfl (a8 (k := 0)  rfl rfl ax hS rfl rfl rfl (Nat.le_of_ble_eq_true rfl) rfl ?_)
  intro wz5 hS
  refine ai ?_
  repeat (with_reducible first | apply ag | apply ac | apply af | apply ae | apply ab)
  refine aE ?_
  repeat (with_reducible first | apply ap | apply ao)
  refine bN (k := 0) rfl rfl ax hS rfl rfl ?_
  exact ⟨rfl, hS.below⟩
theorem cR {α : Type} (l : List α) (i : Nat) (d : α) (h : i < l.length) : l.take (i + 1) = l.take i ++ [l.getD i d] := by
  rw [List.take_succ_eq_append_getElem h, List.getD_eq_getElem?_getD, List.getElem?_eq_getElem h]; rfl
def zRR : RR := ⟨false, ⟨#[]⟩, ⟨#[]⟩⟩
theorem cb {α : Type} (l : List α) (i : Nat) (d : α) (h : i < l.length) : l.getD i d ∈ l := by
  rw [List.getD_eq_getElem?_getD, List.getElem?_eq_getElem h]; exact List.getElem_mem h
end Go.Proofs.YtmghobajmhdbfaaGreatDoor
namespace Go.Proofs.YtmghobajmhdbfaaGreatDoor
open Go Go.RowKit Go.Sx
theorem cC (s : ByteArray) (w : World) (hs : s.size ≤ 9223372036854775807) :
    Ret Tryz.prog 99 #[.string s] w fun v w' => v = .string (aT (val s)) ∧ w' = w := by
  refine enter Tryz.func99 rfl Tryz.ntmps99 rfl ?_
  repeat (with_reducible first | apply ag | apply ac | apply af | apply ae | apply ab)
  refine aj ?_
  refine aa rfl (am  rfl ?_)
  refine ai ?_
  repeat (with_reducible first | apply ag | apply ac | apply af | apply ae | apply ab)
  refine aj ?_
  refine aa rfl (am  rfl ?_)
  refine ai ?_
  repeat (with_reducible first | apply ag | apply ac | apply af | apply ae | apply ab)
  refine a5 (σ := Nat) (fun k ρ w' => k ≤ s.size ∧ (∀ i (_ : i < k) (h : i < s.size), s[i] = 0) ∧ ρ 0 = .string s ∧ ρ 3 = .int .i64 k ∧ w' = w) (fun k => s.size - k) 0
    ⟨by omega, fun i h => by omega, rfl, rfl, rfl⟩ ?_
  rintro k ρ w' ⟨hk, hz, h0, h3, rfl⟩
  by_cases hlt : k < s.size
  · repeat (with_reducible first | apply ag | apply ac | apply af | apply ae | apply ab)
    refine aj ?_
    refine aa rfl (ah  h3 ?_)
    refine aa rfl (ah  h0 ?_)
    refine aa rfl (dt  rfl Tryz.underlying9 ?_)
    refine aa rfl (aV  rfl rfl ?_)
    refine aa rfl (ah  rfl ?_)
    refine aa (ar 8 (by kernel_rfl) rfl (decide_eq_true (by omega))) (ah  h0 ?_)
    refine aa (ar 8 (by kernel_rfl) rfl (decide_eq_true (by omega))) (ah  h3 ?_)
    refine aa (ar 8 (by kernel_rfl) rfl (decide_eq_true (by omega))) (gD (i := k)  rfl rfl (by omega) (by omega) Tryz.underlying9 ?_)
    refine aa (ar 8 (by kernel_rfl) rfl (decide_eq_true (by omega))) (c6  rfl rfl ?_)
    refine aa rfl (aJ (vb rfl (decide_eq_true (by omega))) rfl ?_)
    refine ai ?_
    repeat (with_reducible first | apply ag | apply ac | apply af | apply ae | apply ab)
    by_cases h : s[k] = 0
    · refine aD rfl (decide_eq_true (by rw [h]; rfl)) ?_
      repeat (with_reducible first | apply ag | apply ac | apply af | apply ae | apply ab)
      refine aj ?_
      refine aa rfl (ah  h3 ?_)
      refine aa rfl (aK  rfl rfl (IntWalk.i64_in _ (by omega)) ?_)
      refine aa rfl (am  rfl ?_)
      refine ai ?_
      repeat (with_reducible first | apply ag | apply ac | apply af | apply ae | apply ab)
      refine ⟨k + 1, _, rfl, ⟨by omega, fun i hi hi' => ?_, h0, vi rfl (by omega), rfl⟩, by omega⟩
      rcases Nat.lt_or_ge i k with h2 | h2
      · exact hz i h2 hi'
      · obtain rfl : i = k := by omega
        exact h
    · refine aN rfl (decide_eq_false (fun g => h (UInt8.toNat_inj.1 (by simp at g; exact g)))) ?_
      repeat (with_reducible first | apply ag | apply ac | apply af | apply ae | apply ab)
      refine aU ?_
      repeat (with_reducible first | apply aA | apply az | refine ay rfl ?_)
      repeat (with_reducible first | apply ag | apply ac | apply af | apply ae | apply ab)
      refine aj ?_
      refine aa rfl (ah  h0 ?_)
      refine aa rfl (ah  h3 ?_)
      refine aa rfl (s_slcsl (lo := k)  rfl rfl rfl (by omega) Tryz.underlying9 ?_)
      refine aa rfl (am  rfl ?_)
      refine ai ?_
      repeat (with_reducible first | apply ag | apply ac | apply af | apply ae | apply ab)
      refine aE ?_
      repeat (with_reducible first | apply ap | apply ao)
      refine aR rfl rfl ?_
      exact ⟨congrArg Value.string (gr s k hk hz (.inr ⟨hlt, h⟩)), rfl⟩
  · repeat (with_reducible first | apply ag | apply ac | apply af | apply ae | apply ab)
    refine aj ?_
    refine aa rfl (ah  h3 ?_)
    refine aa rfl (ah  h0 ?_)
    refine aa rfl (dt  rfl Tryz.underlying9 ?_)
    refine aa rfl (aV  rfl rfl ?_)
    refine aa rfl (ah  rfl ?_)
    refine aW (au 8 (by kernel_rfl) rfl (decide_eq_false (by omega))) ?_
    refine aW (au 8 (by kernel_rfl) rfl (decide_eq_false (by omega))) ?_
    refine aW (au 8 (by kernel_rfl) rfl (decide_eq_false (by omega))) ?_
    refine aW (au 8 (by kernel_rfl) rfl (decide_eq_false (by omega))) ?_
    refine aa rfl (aJ (vb rfl (decide_eq_false (by omega))) rfl ?_)
    refine ai ?_
    repeat (with_reducible first | apply ag | apply ac | apply af | apply ae | apply ab)
    refine aN rfl (rfl) ?_
    repeat (with_reducible first | apply ag | apply ac | apply af | apply ae | apply ab)
    refine aU ?_
    repeat (with_reducible first | apply aA | apply az | refine ay rfl ?_)
    repeat (with_reducible first | apply ag | apply ac | apply af | apply ae | apply ab)
    refine aj ?_
    refine aa rfl (ah  h0 ?_)
    refine aa rfl (ah  h3 ?_)
    refine aa rfl (s_slcsl (lo := k)  rfl rfl rfl (by omega) Tryz.underlying9 ?_)
    refine aa rfl (am  rfl ?_)
    refine ai ?_
    repeat (with_reducible first | apply ag | apply ac | apply af | apply ae | apply ab)
    refine aE ?_
    repeat (with_reducible first | apply ap | apply ao)
    refine aR rfl rfl ?_
    exact ⟨congrArg Value.string (gr s k hk hz (.inl (by omega))), rfl⟩
/-- A number's limbs, by the length of its string. -/
theorem limb_len_natS (V : Nat) : (aI V).length = ((aT V).size + 3) / 4 := by
  obtain ⟨k, hk⟩ : ∃ k, k = (aT V).size := ⟨_, rfl⟩
  rw [← hk]
  rcases Nat.eq_zero_or_pos V with h0 | h0
  · subst h0
    rw [es, cA] at hk
    unfold aI
    rw [cA, hk]; rfl
  · have h1 : V < 256 ^ k := by rw [hk]; exact dI V
    have h2 : 256 ^ (k - 1) ≤ V := by
      refine pow_le_of_digs_length (by decide) ?_
      rw [← es, ← hk]
      have : 1 ≤ k := by rw [hk]; exact natS_size_pos h0
      omega
    have h3 : (aI V).length ≤ (k + 3) / 4 := by
      refine fv (Nat.lt_of_lt_of_le h1 ?_)
      rw [show B32 = 256 ^ 4 from rfl, ← Nat.pow_mul]
      exact Nat.pow_le_pow_right (by decide) (by omega)
    have h4 : (k + 3) / 4 ≤ (aI V).length := by
      rcases Nat.lt_or_ge (aI V).length ((k + 3) / 4) with h | h
      · exfalso
        have h5 := ba V
        have h6 : B32 ^ (aI V).length ≤ 256 ^ (k - 1) := by
          rw [show B32 = 256 ^ 4 from rfl, ← Nat.pow_mul]
          exact Nat.pow_le_pow_right (by decide) (by omega)
        omega
      · exact h
    omega
theorem pad_limb (V : Nat) : pad B32 V (aI V).length = aI V := by
  have h := digs_of_take (b := B32) (by decide) (pad B32 V (aI V).length) (aI V).length (eb (by decide) _ _) (by simp) (fun i h1 h2 => by simp at h2; omega) ?_
  · rw [bQ (ba V), List.take_of_length_le (by simp)] at h
    exact h
  · rcases Nat.eq_zero_or_pos (aI V).length with h0 | h0
    · exact .inl h0
    · right
      rw [cx _ _ (by omega)]
      have hV : 0 < V := by
        rcases Nat.eq_zero_or_pos V with g | g
        · rw [g] at h0; unfold aI at h0; rw [cA] at h0; exact absurd h0 (by simp)
        · exact g
      have := (iw hV).2
      omega
theorem fH (s : ByteArray) (w : World) (hs : s.size ≤ 70368744177664) :
    Ret Tryz.prog 78 #[.string s] w fun r w' => Sl (uk .u32) 1 w' r (aI (val s)) ∧ Below w.heap.size w w' := by
  have hS := St.init w
  have hsz := dH s
  refine enter Tryz.func78 rfl Tryz.ntmps78 rfl ?_
  repeat (with_reducible first | apply ag | apply ac | apply af | apply ae | apply ab)
  refine aj ?_
  refine aa rfl (am  rfl ?_)
  refine ai ?_
  repeat (with_reducible first | apply ag | apply ac | apply af | apply ae | apply ab)
  refine aj ?_
  refine aa rfl (ah  rfl ?_)
  refine ak rfl (av Tryz.call99 rfl (cC _ _ (by omega)) ?_)
  rintro _ wq1 ⟨rfl, hq1⟩
  replace hq1 := hq1.symm
  subst hq1
  refine aa rfl (am  rfl ?_)
  refine ai ?_
  repeat (with_reducible first | apply ag | apply ac | apply af | apply ae | apply ab)
  obtain ⟨V, hV⟩ : ∃ V, V = val s := ⟨_, rfl⟩
  rw [← hV]
  rw [← hV] at hsz
  obtain ⟨S, hSe⟩ : ∃ S, S = aT V := ⟨_, rfl⟩
  have hvS : val S = V := by rw [hSe, br]
  have hlen := limb_len_natS V
  rw [← hSe] at hlen hsz
  rw [← hSe]
  repeat (with_reducible first | apply ag | apply ac | apply af | apply ae | apply ab)
  refine aj ?_
  refine aa rfl (ah  rfl ?_)
  refine aa rfl (dt  rfl Tryz.underlying9 ?_)
  refine aa rfl (aK  rfl rfl (IntWalk.i64_in _ (by omega)) ?_)
  refine aa rfl (gA  rfl rfl (by omega) (r := (((S.size + 3) / 4 : Nat) : Int)) (by exact IntWalk.i64_quo _ _ (by omega)) ?_)
  refine ak rfl (c4 (n := (S.size + 3) / 4)  rfl rfl bz (by omega) (by omega) (by omega) (by omega) hS ?_)
  intro b2 wz3 hS hBz3
  refine aa rfl (am  rfl ?_)
  refine ai ?_
  repeat (with_reducible first | apply ag | apply ac | apply af | apply ae | apply ab)
  refine aj ?_
  refine aa rfl (am  rfl ?_)
  refine ai ?_
  repeat (with_reducible first | apply ag | apply ac | apply af | apply ae | apply ab)
  obtain ⟨n, hn⟩ : ∃ n, n = (S.size + 3) / 4 := ⟨_, rfl⟩
  rw [← hn, ← cH B32 n, show 0 = V % 256 ^ 0 by rw [Nat.pow_zero, Nat.mod_one]] at hS
  refine a5 (σ := Nat) (fun i ρ w' => i ≤ S.size ∧ ρ 0 = .string S ∧ ρ 3 = .slice (some ⟨b2, 0, none⟩) n n ∧ ρ 4 = .int .i64 i ∧ St w w' [(b2, 94, Kr .u32 (pad B32 (V % 256 ^ i) n))]) (fun i => S.size - i) 0
    ⟨Nat.zero_le _, rfl, by rw [hn]; rfl, rfl, hS⟩ ?_
  clear hS
  rintro i ρ w2 ⟨hi, h0, h3, h4, hS⟩
  repeat (with_reducible first | apply ag | apply ac | apply af | apply ae | apply ab)
  refine aj ?_
  refine aa rfl (ah  h4 ?_)
  refine aa rfl (ah  h0 ?_)
  refine aa rfl (dt  rfl Tryz.underlying9 ?_)
  refine aa rfl (aV  rfl rfl ?_)
  refine ai ?_
  repeat (with_reducible first | apply ag | apply ac | apply af | apply ae | apply ab)
  by_cases hlt : i < S.size
  · refine aD rfl (decide_eq_true (by omega)) ?_
    repeat (with_reducible first | apply ag | apply ac | apply af | apply ae | apply ab)
    have hb := sbytes_rget S i hlt
    rw [hvS] at hb
    have hl := dS (b := B32) (by decide) (V % 256 ^ i) (i / 4)
    have hd := dS (b := 256) (by decide) V i
    have hg : (pad B32 (V % 256 ^ i) n).getD (i / 4) 0 = dgt B32 (V % 256 ^ i) (i / 4) := cx _ _ (by omega)
    have hp : 2 ^ (8 * (i % 4)) ≤ 2 ^ 24 := Nat.pow_le_pow_right (by decide) (by omega)
    have hq : dgt 256 V i * 2 ^ (8 * (i % 4)) < 4294967296 := Nat.lt_of_le_of_lt (Nat.mul_le_mul (Nat.le_of_lt_succ hd) hp) (by decide)
    repeat (with_reducible first | apply ag | apply ac | apply af | apply ae | apply ab)
    refine bm [(0, .pure), (1, .pure), (2, .pure), (3, .pure), (4, .pure), (5, .pure), (6, .pure), (7, .read), (8, .pure), (9, .pure), (10, .pure), (11, .pure), (12, .pure), (13, .pure), (14, .pure), (15, .pure), (16, .pure), (17, .pure), (18, .pure), (19, .pure), (20, .pure), (21, .pure), (22, .pure), (23, .free)] (by kernel_rfl) (by kernel_rfl) hS ?_
    intro wz4 hS hBz4
    refine al rfl rfl (ah  h3 ?_)
    refine al rfl rfl (ah  h4 ?_)
    refine al rfl rfl (gA  rfl rfl (by omega) (r := ((i / 4 : Nat) : Int)) (by exact IntWalk.i64_quo _ _ (by omega)) ?_)
    refine al rfl rfl (ah  h3 ?_)
    refine al rfl rfl (ah  h4 ?_)
    refine al rfl rfl (gA  rfl rfl (by omega) (r := ((i / 4 : Nat) : Int)) (by exact IntWalk.i64_quo _ _ (by omega)) ?_)
    refine al rfl rfl (a7 (i := i / 4)  rfl rfl (by omega) (by first | omega | (simp; done) | (simp; omega)) bz ?_)
    refine aF rfl rfl (ct (k := 0) (i := i / 4)  rfl aY hS rfl (by omega) (by first | omega | (simp; done) | (simp; omega)) ?_)
    refine al rfl rfl (ah  h0 ?_)
    refine al rfl rfl (ah  h0 ?_)
    refine al rfl rfl (dt  rfl Tryz.underlying9 ?_)
    refine al rfl rfl (bG  rfl rfl (IntWalk.i64_in _ (by omega)) ?_)
    refine al rfl rfl (ah  h4 ?_)
    refine al rfl rfl (bG  rfl rfl (IntWalk.i64_in _ (by omega)) ?_)
    refine al rfl rfl (gD (i := S.size - 1 - i)  rfl rfl (by omega) (by omega) Tryz.underlying9 ?_)
    refine al rfl rfl (aL  rfl Tryz.underlying94 ⟨_, Tryz.underlying5⟩ (r := ((dgt 256 V i : Nat) : Int)) (by rw [hb]; exact IntWalk.u32_in _ (by omega)) ?_)
    refine al rfl rfl (ah  h4 ?_)
    refine al rfl rfl (iM  rfl rfl (by omega) (r := ((i % 4 : Nat) : Int)) (by rfl) ?_)
    refine al rfl rfl (f5  rfl rfl (r := ((8 * (i % 4) : Nat) : Int)) (by exact eG _ (by omega)) ?_)
    refine al rfl rfl (aL  rfl Tryz.underlying85 ⟨_, Tryz.underlying3⟩ (r := ((8 * (i % 4) : Nat) : Int)) (by exact IntWalk.u64_in _ (by omega)) ?_)
    refine al rfl rfl (ef  rfl rfl (by omega) (ee _ _ _ (show _ ≤ 32 by omega) (de _ ⟨rfl, by omega, by omega⟩)) ?_)
    refine al rfl rfl (gN  rfl rfl (dR rfl _ _ (by rw [hg]; exact hl) hq) ?_)
    refine al rfl rfl (a7 (i := i / 4)  rfl rfl (by omega) (by first | omega | (simp; done) | (simp; omega)) bz ?_)
    refine bJ rfl rfl (cW (k := 0) (i := i / 4) (a := _)  rfl rfl rfl aY hS rfl (by omega) (by first | omega | (simp; done) | (simp; omega)) ?_)
    intro wz5 hS
    refine bC ?_
    repeat (with_reducible first | apply ag | apply ac | apply af | apply ae | apply ab)
    rw [hg, pad_byte] at hS
    repeat (with_reducible first | apply ag | apply ac | apply af | apply ae | apply ab)
    refine aj ?_
    refine aa rfl (ah  h4 ?_)
    refine aa rfl (aK  rfl rfl (IntWalk.i64_in _ (by omega)) ?_)
    refine aa rfl (am  rfl ?_)
    refine ai ?_
    repeat (with_reducible first | apply ag | apply ac | apply af | apply ae | apply ab)
    exact ⟨i + 1, _, rfl, ⟨hlt, h0, h3, vi rfl (by omega), hS⟩, by omega⟩
  · refine aN rfl (decide_eq_false (by omega)) ?_
    repeat (with_reducible first | apply ag | apply ac | apply af | apply ae | apply ab)
    refine aU ?_
    repeat (with_reducible first | apply aA | apply az | refine ay rfl ?_)
    repeat (with_reducible first | apply ag | apply ac | apply af | apply ae | apply ab)
    obtain rfl : i = S.size := by omega
    have hval : V < 256 ^ S.size := by rw [← hvS]; exact iX S
    rw [Nat.mod_eq_of_lt hval, show n = (aI V).length by omega, pad_limb] at hS
    have hsl := hS.slk (k := 0) rfl (n := n) (cap := n) (by omega) (Nat.le_refl _) (by omega)
    rw [List.take_of_length_le (by omega)] at hsl
    repeat (with_reducible first | apply ag | apply ac | apply af | apply ae | apply ab)
    refine aj ?_
    refine aa rfl (ah  h3 ?_)
    refine aa rfl (am  rfl ?_)
    refine ai ?_
    repeat (with_reducible first | apply ag | apply ac | apply af | apply ae | apply ab)
    refine aE ?_
    repeat (with_reducible first | apply ap | apply ao)
    refine aR rfl rfl ?_
    exact ⟨hsl, hS.below⟩
theorem eo (v : Value) (L : List Nat) (w : World) (hv : Sl (uk .u32) 1 w v L) (hL : ∀ d ∈ L, d < B32) :
    Ret Tryz.prog 101 #[v] w fun r w' => Sl (uk .u32) 1 w' r (aI (bj B32 L)) ∧ w' = w := by
  have hmax := hv.maxLen
  refine enter Tryz.func101 rfl Tryz.ntmps101 rfl ?_
  repeat (with_reducible first | apply ag | apply ac | apply af | apply ae | apply ab)
  refine aj ?_
  refine aa rfl (am  rfl ?_)
  refine ai ?_
  repeat (with_reducible first | apply ag | apply ac | apply af | apply ae | apply ab)
  refine aj ?_
  refine aa rfl (ah  rfl ?_)
  refine aa rfl (aG  rfl hv ⟨_, Tryz.underlying91⟩ ?_)
  refine aa rfl (am  rfl ?_)
  refine ai ?_
  repeat (with_reducible first | apply ag | apply ac | apply af | apply ae | apply ab)
  refine a5 (σ := Nat) (fun n ρ w' => n ≤ L.length ∧ (∀ i, n ≤ i → i < L.length → L.getD i 0 = 0) ∧ ρ 0 = v ∧ ρ 3 = .int .i64 n ∧ w' = w) (fun n => n) L.length
    ⟨Nat.le_refl _, fun i h1 h2 => by omega, rfl, rfl, rfl⟩ ?_
  rintro n ρ w' ⟨hn, hz, h0, h3, rfl⟩
  have hdone : (n = 0 ∨ L.getD (n - 1) 0 ≠ 0) → L.take n = aI (bj B32 L) := fun h => digs_of_take (b := B32) (by decide) L n hL hn hz h
  by_cases hpos : 0 < n
  · by_cases hl : L.getD (n - 1) 0 = 0
    · repeat (with_reducible first | apply ag | apply ac | apply af | apply ae | apply ab)
      refine aj ?_
      refine aa rfl (ah  h3 ?_)
      refine aa rfl (cf  rfl rfl ?_)
      refine aa rfl (ah  rfl ?_)
      refine aa (ar 8 (by kernel_rfl) rfl (decide_eq_true (by omega))) (ah  h0 ?_)
      refine aa (ar 8 (by kernel_rfl) rfl (decide_eq_true (by omega))) (ah  h3 ?_)
      refine aa (ar 8 (by kernel_rfl) rfl (decide_eq_true (by omega))) (bG  rfl rfl (IntWalk.i64_in _ (by omega)) ?_)
      refine aa (ar 8 (by kernel_rfl) rfl (decide_eq_true (by omega))) (aX (i := n - 1)  rfl rfl hv (by omega) (by first | omega | (simp; done) | (simp; omega)) bz ?_)
      refine aw (ar 8 (by kernel_rfl) rfl (decide_eq_true (by omega))) (a6 (i := n - 1) 0  rfl aY hv (by first | omega | (simp; done) | (simp; omega)) rfl rfl (.inr rfl) ?_)
      refine aa (ar 8 (by kernel_rfl) rfl (decide_eq_true (by omega))) (c6  rfl rfl ?_)
      refine aa rfl (aJ (vb rfl (decide_eq_true (by omega))) rfl ?_)
      refine ai ?_
      repeat (with_reducible first | apply ag | apply ac | apply af | apply ae | apply ab)
      refine aD rfl (decide_eq_true (by omega)) ?_
      repeat (with_reducible first | apply ag | apply ac | apply af | apply ae | apply ab)
      refine aj ?_
      refine aa rfl (ah  h3 ?_)
      refine aa rfl (bG  rfl rfl (IntWalk.i64_in _ (by omega)) ?_)
      refine aa rfl (am  rfl ?_)
      refine ai ?_
      repeat (with_reducible first | apply ag | apply ac | apply af | apply ae | apply ab)
      refine ⟨n - 1, _, rfl, ⟨by omega, fun i h1 h2 => ?_, h0, vi rfl (by omega), rfl⟩, by omega⟩
      rcases Nat.lt_or_ge i n with h4 | h4
      · rw [show i = n - 1 by omega]; exact hl
      · exact hz i h4 h2
    · repeat (with_reducible first | apply ag | apply ac | apply af | apply ae | apply ab)
      refine aj ?_
      refine aa rfl (ah  h3 ?_)
      refine aa rfl (cf  rfl rfl ?_)
      refine aa rfl (ah  rfl ?_)
      refine aa (ar 8 (by kernel_rfl) rfl (decide_eq_true (by omega))) (ah  h0 ?_)
      refine aa (ar 8 (by kernel_rfl) rfl (decide_eq_true (by omega))) (ah  h3 ?_)
      refine aa (ar 8 (by kernel_rfl) rfl (decide_eq_true (by omega))) (bG  rfl rfl (IntWalk.i64_in _ (by omega)) ?_)
      refine aa (ar 8 (by kernel_rfl) rfl (decide_eq_true (by omega))) (aX (i := n - 1)  rfl rfl hv (by omega) (by first | omega | (simp; done) | (simp; omega)) bz ?_)
      refine aw (ar 8 (by kernel_rfl) rfl (decide_eq_true (by omega))) (a6 (i := n - 1) 0  rfl aY hv (by first | omega | (simp; done) | (simp; omega)) rfl rfl (.inr rfl) ?_)
      refine aa (ar 8 (by kernel_rfl) rfl (decide_eq_true (by omega))) (c6  rfl rfl ?_)
      refine aa rfl (aJ (vb rfl (decide_eq_true (by omega))) rfl ?_)
      refine ai ?_
      repeat (with_reducible first | apply ag | apply ac | apply af | apply ae | apply ab)
      refine aN rfl (decide_eq_false (by omega)) ?_
      repeat (with_reducible first | apply ag | apply ac | apply af | apply ae | apply ab)
      refine aU ?_
      repeat (with_reducible first | apply aA | apply az | refine ay rfl ?_)
      repeat (with_reducible first | apply ag | apply ac | apply af | apply ae | apply ab)
      refine aj ?_
      refine aa rfl (ah  h0 ?_)
      refine aa rfl (ah  h3 ?_)
      refine aa rfl (iD (hi := n)  rfl rfl hv rfl hn bz ?_)
      refine aa rfl (am  rfl ?_)
      refine ai ?_
      repeat (with_reducible first | apply ag | apply ac | apply af | apply ae | apply ab)
      refine aE ?_
      repeat (with_reducible first | apply ap | apply ao)
      refine aR rfl rfl ?_
      refine ⟨?_, rfl⟩
      rw [← hdone (.inr hl)]
      exact hv.sub (fz _) (by decide) (Nat.zero_le n) hn
  · repeat (with_reducible first | apply ag | apply ac | apply af | apply ae | apply ab)
    refine aj ?_
    refine aa rfl (ah  h3 ?_)
    refine aa rfl (cf  rfl rfl ?_)
    refine aa rfl (ah  rfl ?_)
    refine aW (au 8 (by kernel_rfl) rfl (decide_eq_false (by omega))) ?_
    refine aW (au 8 (by kernel_rfl) rfl (decide_eq_false (by omega))) ?_
    refine aW (au 8 (by kernel_rfl) rfl (decide_eq_false (by omega))) ?_
    refine aW (au 8 (by kernel_rfl) rfl (decide_eq_false (by omega))) ?_
    refine aW (au 8 (by kernel_rfl) rfl (decide_eq_false (by omega))) ?_
    refine aW (au 8 (by kernel_rfl) rfl (decide_eq_false (by omega))) ?_
    refine aa rfl (aJ (vb rfl (decide_eq_false (by omega))) rfl ?_)
    refine ai ?_
    repeat (with_reducible first | apply ag | apply ac | apply af | apply ae | apply ab)
    refine aN rfl (rfl) ?_
    repeat (with_reducible first | apply ag | apply ac | apply af | apply ae | apply ab)
    refine aU ?_
    repeat (with_reducible first | apply aA | apply az | refine ay rfl ?_)
    repeat (with_reducible first | apply ag | apply ac | apply af | apply ae | apply ab)
    refine aj ?_
    refine aa rfl (ah  h0 ?_)
    refine aa rfl (ah  h3 ?_)
    refine aa rfl (iD (hi := n)  rfl rfl hv rfl hn bz ?_)
    refine aa rfl (am  rfl ?_)
    refine ai ?_
    repeat (with_reducible first | apply ag | apply ac | apply af | apply ae | apply ab)
    refine aE ?_
    repeat (with_reducible first | apply ap | apply ao)
    refine aR rfl rfl ?_
    refine ⟨?_, rfl⟩
    rw [← hdone (.inl (by omega))]
    exact hv.sub (fz _) (by decide) (Nat.zero_le n) hn
theorem four_bytes (V k q x : Nat) (hk : 0 < k) (hx : x = dgt B32 V (k - 1)) :
    (pad 256 (V / B32 ^ (k - 1)) (q + 4)).reverse = (pad 256 (V / B32 ^ k) q).reverse ++ [x / 16777216 % 256, x / 65536 % 256, x / 256 % 256, x % 256] := by
  have h := di B32 V (k - 1)
  rw [show k - 1 + 1 = k by omega, ← hx] at h
  have hlt : x < B32 := by rw [hx]; exact dS (by decide) _ _
  rw [h]
  generalize V / B32 ^ k = U
  have hB : B32 = 4294967296 := rfl
  rw [show q + 4 = q + 1 + 1 + 1 + 1 from rfl, gk, gk, gk, gk]
  simp only [List.reverse_cons, List.append_assoc, List.cons_append, List.nil_append]
  rw [hB] at hlt ⊢
  have e1 : (4294967296 * U + x) / 256 / 256 / 256 / 256 = U := by omega
  have e2 : (4294967296 * U + x) / 256 / 256 / 256 % 256 = x / 16777216 % 256 := by omega
  have e3 : (4294967296 * U + x) / 256 / 256 % 256 = x / 65536 % 256 := by omega
  have e4 : (4294967296 * U + x) / 256 % 256 = x / 256 % 256 := by omega
  have e5 : (4294967296 * U + x) % 256 = x % 256 := by omega
  rw [e1, e2, e3, e4, e5]
theorem rtext_ok (v : Value) (L : List Nat) (w : World) (hv : Sl (uk .u32) 1 w v L) (hL : ∀ d ∈ L, d < B32) (hs : L.length ≤ 17592186044416) :
    Ret Tryz.prog 104 #[v] w fun r w' => r = .string (aT (bj B32 L)) ∧ Below w.heap.size w w' := by
  have hS := St.init w
  obtain ⟨V, hV⟩ : ∃ V, V = bj B32 L := ⟨_, rfl⟩
  refine enter Tryz.func104 rfl Tryz.ntmps104 rfl ?_
  repeat (with_reducible first | apply ag | apply ac | apply af | apply ae | apply ab)
  refine aj ?_
  refine aa rfl (am  rfl ?_)
  refine ai ?_
  repeat (with_reducible first | apply ag | apply ac | apply af | apply ae | apply ab)
  refine aj ?_
  refine aa rfl (ah  rfl ?_)
  refine ak rfl (av Tryz.call101 rfl (eo v L _ hv hL) ?_)
  rintro _ wq1 ⟨hl, hq1⟩
  replace hq1 := hq1.symm
  subst hq1
  refine aa rfl (am  rfl ?_)
  refine ai ?_
  repeat (with_reducible first | apply ag | apply ac | apply af | apply ae | apply ab)
  rename_i vl
  rw [← hV] at hl ⊢
  obtain ⟨m, hm⟩ : ∃ m, m = (aI V).length := ⟨_, rfl⟩
  have hVm : V < B32 ^ m := by rw [hm]; exact ba V
  have hmL : m ≤ L.length := by
    rw [hm]; refine fv ?_
    rw [hV]; exact eZ L hL
  repeat (with_reducible first | apply ag | apply ac | apply af | apply ae | apply ab)
  refine aj ?_
  refine aa rfl (ah  rfl ?_)
  refine aa rfl (aG  rfl hl ⟨_, Tryz.underlying91⟩ ?_)
  refine aa rfl (f5  rfl rfl (IntWalk.i64_in _ (by omega)) ?_)
  refine ak rfl (s_make0l (enc := uk .u8) (n := 4 * m)  rfl rfl iO (by omega) (by omega) (by omega) (by omega) hS ?_)
  intro va2 La2 wa2 hG hS hBa2
  refine aa rfl (am  rfl ?_)
  refine ai ?_
  repeat (with_reducible first | apply ag | apply ac | apply af | apply ae | apply ab)
  refine aj ?_
  refine aa rfl (ah  rfl ?_)
  refine aa rfl (aG  rfl (hl.below hS.below) ⟨_, Tryz.underlying91⟩ ?_)
  refine aa rfl (bG  rfl rfl (IntWalk.i64_in _ (by omega)) ?_)
  refine aa rfl (am  rfl ?_)
  refine ai ?_
  repeat (with_reducible first | apply ag | apply ac | apply af | apply ae | apply ab)
  refine a5 (σ := Nat) (fun k ρ w' => k ≤ m ∧ ρ 0 = vl ∧ ρ 4 = .int .i64 ((k : Int) - 1) ∧ ∃ vb Lb, ρ 3 = vb ∧ Gl (uk .u8) 5 1 vb ((pad 256 (V / B32 ^ k) (4 * (m - k))).reverse) Lb ∧ St w w' ([] ++ Lb)) (fun k => k) m
    ⟨Nat.le_refl _, rfl, vi rfl (by omega), ⟨_, _, rfl, by rw [Nat.sub_self]; exact hG, hS⟩⟩ ?_
  clear hS
  rintro k ρ w3 ⟨hk, h0, h4, vb, Lb, h3, hG, hS⟩
  repeat (with_reducible first | apply ag | apply ac | apply af | apply ae | apply ab)
  refine aj ?_
  refine aa rfl (ah  h4 ?_)
  refine aa rfl (df  rfl rfl ?_)
  refine ai ?_
  repeat (with_reducible first | apply ag | apply ac | apply af | apply ae | apply ab)
  have hlenG : ((pad 256 (V / B32 ^ k) (4 * (m - k))).reverse).length = 4 * (m - k) := by simp
  by_cases hk0 : 0 < k
  · refine aD rfl (decide_eq_true (by omega)) ?_
    repeat (with_reducible first | apply ag | apply ac | apply af | apply ae | apply ab)
    refine aj ?_
    refine aa rfl (ah  h0 ?_)
    refine aa rfl (ah  h4 ?_)
    refine aa rfl (aX (i := k - 1)  rfl rfl (hl.below hS.below) (by omega) (by first | omega | (simp; done) | (simp; omega)) bz ?_)
    refine aw rfl (a6 (i := k - 1) 0  rfl aY (hl.below hS.below) (by first | omega | (simp; done) | (simp; omega)) rfl rfl (.inr rfl) ?_)
    refine aa rfl (am  rfl ?_)
    refine ai ?_
    repeat (with_reducible first | apply ag | apply ac | apply af | apply ae | apply ab)
    have hx := bh V (k - 1)
    have hxl := bA V (k - 1)
    rw [hx]
    obtain ⟨x, hxe⟩ : ∃ x, x = dgt B32 V (k - 1) := ⟨_, rfl⟩
    rw [← hxe] at hxl ⊢
    have h4b := four_bytes V k (4 * (m - k)) x hk0 hxe
    repeat (with_reducible first | apply ag | apply ac | apply af | apply ae | apply ab)
    refine aj ?_
    refine aa rfl (ah  h3 ?_)
    refine aa rfl (ah  rfl ?_)
    refine aa rfl (dk  rfl rfl (by omega) (r := ((x / 16777216 : Nat) : Int)) (by exact dp (k := .u32) x 24 (by decide)) ?_)
    refine aa rfl (aL  rfl Tryz.underlying5 ⟨_, Tryz.underlying94⟩ (fP _) ?_)
    refine aa rfl (ah  rfl ?_)
    refine aa rfl (dk  rfl rfl (by omega) (r := ((x / 65536 : Nat) : Int)) (by exact dp (k := .u32) x 16 (by decide)) ?_)
    refine aa rfl (aL  rfl Tryz.underlying5 ⟨_, Tryz.underlying94⟩ (fP _) ?_)
    refine aa rfl (ah  rfl ?_)
    refine aa rfl (dk  rfl rfl (by omega) (r := ((x / 256 : Nat) : Int)) (by exact dp (k := .u32) x 8 (by decide)) ?_)
    refine aa rfl (aL  rfl Tryz.underlying5 ⟨_, Tryz.underlying94⟩ (fP _) ?_)
    refine aa rfl (ah  rfl ?_)
    refine aa rfl (aL  rfl Tryz.underlying5 ⟨_, Tryz.underlying94⟩ (fP _) ?_)
    refine ak rfl (dJ (vs := [_, _, _, _])  rfl iO rfl (by decide) (by decide) (by decide) (by simp [Value.cells]) rfl hS ?_)
    intro b3 wz4 hS hBz4
    refine ak rfl (eH [x / 16777216 % 256, x / 65536 % 256, x / 256 % 256, x % 256]  rfl rfl iO (by decide) hG hS rfl rfl (fz _) (iZ _ [x / 16777216 % 256, x / 65536 % 256, x / 256 % 256, x % 256]) (by first | omega | (simp only [List.length_cons, List.length_nil]; omega)) (by first | omega | (simp only [List.length_cons, List.length_nil]; omega)) ?_)
    intro va5 La5 wa5 hG hS hga5
    refine aa rfl (am  rfl ?_)
    refine ai ?_
    repeat (with_reducible first | apply ag | apply ac | apply af | apply ae | apply ab)
    rw [← h4b, show 4 * (m - k) + 4 = 4 * (m - (k - 1)) by omega] at hG
    repeat (with_reducible first | apply ag | apply ac | apply af | apply ae | apply ab)
    refine aj ?_
    refine aa rfl (ah  h4 ?_)
    refine aa rfl (bG  rfl rfl (IntWalk.i64_in _ (by omega)) ?_)
    refine aa rfl (am  rfl ?_)
    refine ai ?_
    repeat (with_reducible first | apply ag | apply ac | apply af | apply ae | apply ab)
    exact ⟨k - 1, _, rfl, ⟨by omega, h0, vi rfl (by omega), ⟨_, _, rfl, hG, hS⟩⟩, by omega⟩
  · refine aN rfl (decide_eq_false (by omega)) ?_
    repeat (with_reducible first | apply ag | apply ac | apply af | apply ae | apply ab)
    refine aU ?_
    repeat (with_reducible first | apply aA | apply az | refine ay rfl ?_)
    repeat (with_reducible first | apply ag | apply ac | apply af | apply ae | apply ab)
    obtain rfl : k = 0 := by omega
    rw [Nat.pow_zero, Nat.div_one, Nat.sub_zero] at hG
    have hVlt : V < 256 ^ (4 * m) := by rw [Nat.pow_mul]; exact hVm
    have hsz : (gX (pad 256 V (4 * m)).reverse).size ≤ 9223372036854775807 := by rw [bstr_size]; simp; omega
    repeat (with_reducible first | apply ag | apply ac | apply af | apply ae | apply ab)
    refine aj ?_
    refine aa rfl (ah  h3 ?_)
    refine aw rfl (s_b2sg  rfl ⟨Tryz.underlying114, Tryz.underlying5, Tryz.underlying9⟩ hG hS ?_)
    refine ak rfl (av Tryz.call99 rfl (cC _ _ hsz) ?_)
    rintro _ wq6 ⟨rfl, hq6⟩
    replace hq6 := hq6.symm
    subst hq6
    refine aa rfl (am  rfl ?_)
    refine ai ?_
    repeat (with_reducible first | apply ag | apply ac | apply af | apply ae | apply ab)
    refine aE ?_
    repeat (with_reducible first | apply ap | apply ao)
    refine aR rfl rfl ?_
    rw [val_rpad, Nat.mod_eq_of_lt hVlt]
    exact ⟨rfl, hS.below⟩
end Go.Proofs.YtmghobajmhdbfaaGreatDoor
