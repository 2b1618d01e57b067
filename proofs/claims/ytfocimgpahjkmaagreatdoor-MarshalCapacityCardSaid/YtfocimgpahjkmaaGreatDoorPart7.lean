/-
  Part 7 of the texts that the laws' proofs share: the framework and the walks.
-/
import Derived.Test.YtfocimgpahjkmaaGreatDoorPart6
namespace Go.Proofs.YtfocimgpahjkmaaGreatDoor
open Go Go.RowKit Go.Sx

theorem capF_eq (X : List It) (owed : List RR) (set : Nat → Bool) (j : Nat) : capF X owed set j = payF X j + sumIf owed.length (fun c => set c && outs X j c) (owF owed) := rfl
theorem capF_none (X : List It) (owed : List RR) (j : Nat) : capF X owed (fun _ => false) j = payF X j := by
  rw [capF_eq, sumIf_congr (q := fun _ => false) (g := owF owed) (fun i _ => ⟨Bool.false_and _, rfl⟩), sumIf_none, Rat.add_zero]
theorem capF_congr (X : List It) (owed : List RR) {s t : Nat → Bool} (h : ∀ c, c < owed.length → s c = t c) (j : Nat) : capF X owed s j = capF X owed t j := by
  rw [capF_eq, capF_eq, sumIf_congr (q := fun c => t c && outs X j c) (g := owF owed) (fun i hi => ⟨by rw [h i hi], rfl⟩)]
theorem capF_step (X : List It) (owed : List RR) {s t : Nat → Bool} {c : Nat} (hc : c < owed.length) (hs : s c = false) (ht : t c = true) (h : ∀ i, i < owed.length → i ≠ c → s i = t i) (j : Nat) : capF X owed s j + dlt X owed c j = capF X owed t j := by
  rw [capF_eq, capF_eq]
  unfold dlt
  by_cases ho : outs X j c = true
  · rw [if_pos ho, sumIf_add (p := fun c => s c && outs X j c) (q := fun c => t c && outs X j c) hc (by simp [hs]) (by simp [ht, ho]) (fun i hi hne => by simp [h i hi hne])]
    grind
  · rw [if_neg ho, Rat.add_zero]
    refine congrArg (payF X j + ·) (sumIf_congr fun i hi => ⟨?_, rfl⟩)
    by_cases e : i = c
    · subst e; simp [ho]
    · rw [h i hi e]
def totT (X : List It) (owed : List RR) (J c : Nat) : RR := if c < J then ofQ (preQ X owed (c + 1) - preQ X owed c) else zRR
theorem preQ_succ (X : List It) (owed : List RR) (c : Nat) : preQ X owed (c + 1) = mins (capF X owed fun i => decide (i < c + 1)) (2 ^ X.length) := by
  unfold preQ capQ
  rw [if_neg (Nat.succ_ne_zero _)]

set_option maxHeartbeats 1000000 in
theorem totals_ok (sP sO sM : Value) (X : List It) (owed : List RR) (R : List Nat) (K : Nat) (w : World) (hP : Sl encR 3 w sP (procsR X)) (hO : Sl encR 3 w sO (owedR owed)) (hMr : Sl (uk .u64) 1 w sM R) (hR : Masks X owed.length X.length 0 R)
    (hXB : ItB K X) (hoB : RB K owed) (hK : 80 * K + 90 ≤ MX) (hX8 : X.length ≤ 8) (ho24 : owed.length ≤ 24)
    (hT : At w ⟨1, 0, none⟩ (Kr .u8 tzTab)) :
    Ret Tryz.prog 30 #[.agg #[sP, sO, sM]] w fun v w' => ∃ b, v = .slice (some ⟨b, 0, none⟩) owed.length owed.length ∧ St w w' [(b, 39, (tab owed.length fun c => ofQ (preQ X owed (c + 1) - preQ X owed c)).flatMap encR)] := by
  have hM : MX = 1099511627776 := rfl
  have hol := owed_len owed
  obtain ⟨N, hN⟩ : ∃ N, N = 2 ^ X.length := ⟨_, rfl⟩
  have hN256 : N ≤ 256 := by rw [hN]; exact Nat.pow_le_pow_right (n := 2) (by decide) hX8
  have hN1 : 1 ≤ N := by rw [hN]; exact Nat.one_le_two_pow
  obtain ⟨m, hm⟩ : ∃ m, m = owed.length := ⟨_, rfl⟩
  have hzero : (List.replicate m zRR) = tab m (totT X owed 0) := by
    rw [tab_rep]; exact tab_congr fun i _ => by unfold totT; rw [if_neg (Nat.not_lt_zero _)]
  have hS := St.init w
  refine enter Tryz.func30 rfl Tryz.ntmps30 rfl ?_
  repeat (with_reducible first | refine c_seq ?_ | refine c_block ?_ | refine c_skip ?_ | refine x_then ?_ | refine x_block ?_)
  refine c_reg ?_
  refine l_heavy rfl (s_box (new := [sP, sO, sM])  rfl rfl hS ?_)
  intro b1 wz1 hS hBz1
  refine l_pure rfl (s_asg  rfl ?_)
  refine l_nil ?_
  repeat (with_reducible first | refine c_seq ?_ | refine c_block ?_ | refine c_skip ?_ | refine x_then ?_ | refine x_block ?_)
  refine c_reg ?_
  refine l_pure rfl (s_fld  rfl fo_68_1 ?_)
  refine l_read rfl (s_ldo (k := 0)  rfl vi_24 hS rfl rfl rfl (.inr rfl) ?_)
  refine l_pure rfl (s_lenr  rfl (hO.below hS.below) ⟨_, Tryz.underlying24⟩ ?_)
  refine l_heavy rfl (s_makeE (enc := encR) (n := m) zRR  rfl rfl si_24 rfl (by omega) (by omega) (by omega) (by omega) hS ?_)
  intro bo wz2 hS hBz2
  refine l_pure rfl (s_asg  rfl ?_)
  refine l_nil ?_
  repeat (with_reducible first | refine c_seq ?_ | refine c_block ?_ | refine c_skip ?_ | refine x_then ?_ | refine x_block ?_)
  rw [hol, ← hm]
  rw [hzero] at hS
  repeat (with_reducible first | refine c_seq ?_ | refine c_block ?_ | refine c_skip ?_ | refine x_then ?_ | refine x_block ?_)
  refine c_reg ?_
  refine l_read rfl (s_ldo (k := 1)  rfl vi_68 hS rfl rfl rfl (.inl rfl) ?_)
  refine l_heavy rfl (s_call Tryz.call41 rfl (cuts_ok sP sO sM X K _ (hP.below hS.below) hXB (by omega) hX8 (hT.below hS.below)) ?_)
  rintro r w3 ⟨bc, rfl, hS3⟩
  rw [← hN] at hS3 ⊢
  replace hS := hS.join hS3
  refine l_pure rfl (s_asg  rfl ?_)
  refine l_nil ?_
  repeat (with_reducible first | refine c_seq ?_ | refine c_block ?_ | refine c_skip ?_ | refine x_then ?_ | refine x_block ?_)
  refine c_reg ?_
  refine l_pure rfl (s_build  rfl bz_39 ?_)
  refine l_heavy rfl (s_alloc  vi_39 hS ?_)
  intro b5 wz3 hS hBz3
  refine l_heavy rfl (s_sta (k := 0)  rfl rfl vi_39 hS rfl rfl rfl (Nat.le_of_ble_eq_true rfl) rfl ?_)
  intro wz4 hS
  refine l_nil ?_
  repeat (with_reducible first | refine c_seq ?_ | refine c_block ?_ | refine c_skip ?_ | refine x_then ?_ | refine x_block ?_)
  replace hS : St w _ [(b5, 39, encR zRR), (bc, 39, (tab N fun j => ofQ (payF X j)).flatMap encR), (bo, 39, (tab m (totT X owed 0)).flatMap encR), (b1, 68, [sP, sO, sM])] := hS
  replace hS := hS.perm (List.Perm.swap _ _ _)
  have hz : encR zRR = encR (ofQ (preQ X owed 0)) := by unfold preQ; rw [if_pos rfl, ofQ_zero]; rfl
  have hc0 : (tab N fun j => ofQ (payF X j)) = tab N fun j => ofQ (capF X owed (fun i => decide (i < 0)) j) := tab_congr fun j _ => by
    rw [capF_congr X owed (t := fun _ => false) (fun c _ => by simp), capF_none]
  rw [hz, hc0] at hS
  repeat (with_reducible first | refine c_seq ?_ | refine c_block ?_ | refine c_skip ?_ | refine x_then ?_ | refine x_block ?_)
  refine c_reg ?_
  refine l_pure rfl (s_move  rfl ?_)
  refine l_pure rfl (s_leno  rfl ⟨_, Tryz.underlying24⟩ ?_)
  refine l_pure rfl (s_move  rfl ?_)
  refine l_nil ?_
  repeat (with_reducible first | refine c_seq ?_ | refine c_block ?_ | refine c_skip ?_ | refine x_then ?_ | refine x_block ?_)
  refine c_loop (σ := Nat) (fun c ρ w' => c ≤ m ∧ ρ 1 = .pointer (some ⟨b1, 0, none⟩) ∧ ρ 3 = .slice (some ⟨bo, 0, none⟩) m m ∧ ρ 4 = .slice (some ⟨bc, 0, none⟩) N N ∧ ρ 5 = .pointer (some ⟨b5, 0, none⟩) ∧ ρ 16 = .int .i64 m ∧ ρ 17 = .int .i64 c ∧
      St w w' [(bc, 39, (tab N fun j => ofQ (capF X owed (fun i => decide (i < c)) j)).flatMap encR), (b5, 39, encR (ofQ (preQ X owed c))), (bo, 39, (tab m (totT X owed c)).flatMap encR), (b1, 68, [sP, sO, sM])]) (fun c => m - c) 0
    ⟨Nat.zero_le _, rfl, rfl, rfl, rfl, rfl, rfl, hS⟩ ?_
  clear hS
  rintro c ρ w4 ⟨hc, h1, h3, h4, h5, h16, h17, hS⟩
  have htl := tab_len m (totT X owed c)
  repeat (with_reducible first | refine c_seq ?_ | refine c_block ?_ | refine c_skip ?_ | refine x_then ?_ | refine x_block ?_)
  refine c_reg ?_
  refine l_pure rfl (s_lss  h17 h16 ?_)
  refine l_nil ?_
  repeat (with_reducible first | refine c_seq ?_ | refine c_block ?_ | refine c_skip ?_ | refine x_then ?_ | refine x_block ?_)
  by_cases hlt : c < m
  · refine c_yes rfl (decide_eq_true (by omega)) ?_
    repeat (with_reducible first | refine c_seq ?_ | refine c_block ?_ | refine c_skip ?_ | refine x_then ?_ | refine x_block ?_)
    have hcl : c < owed.length := by omega
    repeat (with_reducible first | refine c_seq ?_ | refine c_block ?_ | refine c_skip ?_ | refine x_then ?_ | refine x_block ?_)
    refine c_reg ?_
    refine l_pure rfl (s_move  h17 ?_)
    refine l_pure rfl (s_asg  rfl ?_)
    refine l_nil ?_
    repeat (with_reducible first | refine c_seq ?_ | refine c_block ?_ | refine c_skip ?_ | refine x_then ?_ | refine x_block ?_)
    refine c_reg ?_
    refine l_read rfl (s_ldo (k := 3)  h1 vi_68 hS rfl rfl rfl (.inl rfl) ?_)
    refine l_pure rfl (s_move  h4 ?_)
    refine l_pure rfl (s_move  rfl ?_)
    refine l_heavy rfl (s_call Tryz.call42 rfl (nadd_ok sP sO sM bc N c (40 * K + 45) K (capF X owed (fun i => decide (i < c))) X owed R w _ _ hS (fun _ _ h => hO.below h.below) (fun _ _ h => hMr.below h.below) hN256 hX8 hcl hR (fun j _ => L_capF hXB hoB hX8 ho24 _ j) hoB (by omega)) ?_)
    rintro r w5 ⟨rfl, hS⟩
    rw [tab_congr (g := fun j => ofQ (capF X owed (fun i => decide (i < c + 1)) j)) fun j _ => by
      rw [capF_step X owed (t := fun i => decide (i < c + 1)) hcl (by simp) (by simp) (fun i _ hne => decide_eq_decide.2 (by omega))]] at hS
    refine l_nil ?_
    repeat (with_reducible first | refine c_seq ?_ | refine c_block ?_ | refine c_skip ?_ | refine x_then ?_ | refine x_block ?_)
    refine c_reg ?_
    refine l_pure rfl (s_move  h4 ?_)
    have hsl : Sl encR 3 _ (.slice (some ⟨bc, 0, none⟩) N N) _ := hS.sle (k := 0) (enc := encR) (n := N) (cap := N) rfl encR_len (by rw [tab_len]; exact Nat.le_refl _) (Nat.le_refl _) (by omega)
    rw [List.take_of_length_le (by rw [tab_len]; exact Nat.le_refl _)] at hsl
    refine l_heavy rfl (s_call Tryz.call43 rfl (least_ok _ (capF X owed (fun i => decide (i < c + 1))) N (40 * K + 45) _ hsl (by omega) (fun j _ => L_capF hXB hoB hX8 ho24 _ j) (by omega)) ?_)
    rintro r w6 ⟨rfl, hB6⟩
    rw [hN, ← preQ_succ, ← hN]
    replace hS := hS.grow hB6
    refine l_heavy rfl (s_alloc  vi_39 hS ?_)
    intro b7 wz5 hS hBz5
    refine l_heavy rfl (s_sta (k := 0)  rfl rfl vi_39 hS rfl rfl rfl (Nat.le_of_ble_eq_true rfl) rfl ?_)
    intro wz6 hS
    refine l_nil ?_
    repeat (with_reducible first | refine c_seq ?_ | refine c_block ?_ | refine c_skip ?_ | refine x_then ?_ | refine x_block ?_)
    have hL1 := L_preQ hXB hoB hX8 ho24 (c + 1)
    have hL2 := L_preQ hXB hoB hX8 ho24 c
    repeat (with_reducible first | refine c_seq ?_ | refine c_block ?_ | refine c_skip ?_ | refine x_then ?_ | refine x_block ?_)
    refine c_reg ?_
    refine l_pure rfl (s_move  h3 ?_)
    refine l_pure rfl (s_move  rfl ?_)
    refine l_read rfl (s_ldo (k := 0)  rfl vi_39 hS rfl rfl rfl (.inl rfl) ?_)
    refine l_read rfl (s_ldo (k := 2)  h5 vi_39 hS rfl rfl rfl (.inl rfl) ?_)
    refine l_heavy rfl (s_call Tryz.call35 rfl (QSubtract_ok (ofQ (preQ X owed (c + 1))) (ofQ (preQ X owed c)) _ (by rw [Lr_ofQ, Lr_ofQ]; omega)) ?_)
    rintro r w7 ⟨rfl, hB7⟩
    rw [toQ_ofQ, toQ_ofQ]
    replace hS := hS.grow hB7
    refine l_pure rfl (s_ixo (i := c)  rfl rfl (by omega) (by first | omega | (simp; done) | (simp; omega)) si_24 ?_)
    refine l_heavy rfl (s_stE (k := 3) (i := c) (enc := encR) (ofQ (preQ X owed (c + 1) - preQ X owed c)) (fun _ => rfl)  rfl rfl vi_39 hS rfl (by omega) (by first | omega | (simp; done) | (simp; omega)) rfl rfl ?_)
    intro wz7 hS
    refine l_nil ?_
    repeat (with_reducible first | refine c_seq ?_ | refine c_block ?_ | refine c_skip ?_ | refine x_then ?_ | refine x_block ?_)
    refine c_reg ?_
    refine l_read rfl (s_ldo (k := 0)  rfl vi_39 hS rfl rfl rfl (.inl rfl) ?_)
    refine l_heavy rfl (s_sta (k := 2)  h5 rfl vi_39 hS rfl rfl rfl (Nat.le_of_ble_eq_true rfl) rfl ?_)
    intro wz8 hS
    refine l_nil ?_
    repeat (with_reducible first | refine c_seq ?_ | refine c_block ?_ | refine c_skip ?_ | refine x_then ?_ | refine x_block ?_)
    have hset : (tab m (totT X owed c)).set c (ofQ (preQ X owed (c + 1) - preQ X owed c)) = tab m (totT X owed (c + 1)) := by
      rw [tab_set]
      refine tab_congr fun i hi => ?_
      unfold totT
      by_cases e : i = c
      · subst e; rw [if_pos rfl, if_pos (by omega)]
      · rw [if_neg e]
        by_cases e2 : i < c
        · rw [if_pos e2, if_pos (by omega)]
        · rw [if_neg e2, if_neg (by omega)]
    replace hS : St w _ [(b7, 39, encR (ofQ (preQ X owed (c + 1)))), (bc, 39, (tab N fun j => ofQ (capF X owed (fun i => decide (i < c + 1)) j)).flatMap encR), (b5, 39, encR (ofQ (preQ X owed (c + 1)))), (bo, 39, ((tab m (totT X owed c)).set c (ofQ (preQ X owed (c + 1) - preQ X owed c))).flatMap encR), (b1, 68, [sP, sO, sM])] := hS
    rw [hset] at hS
    repeat (with_reducible first | refine c_seq ?_ | refine c_block ?_ | refine c_skip ?_ | refine x_then ?_ | refine x_block ?_)
    refine c_reg ?_
    refine l_pure rfl (s_add  h17 rfl (IntWalk.i64_in _ (by omega)) ?_)
    refine l_pure rfl (s_move  rfl ?_)
    refine l_nil ?_
    repeat (with_reducible first | refine c_seq ?_ | refine c_block ?_ | refine c_skip ?_ | refine x_then ?_ | refine x_block ?_)
    exact ⟨c + 1, _, rfl, ⟨hlt, h1, h3, h4, h5, h16, vi rfl (by omega), hS.drop (List.sublist_cons_self _ _)⟩, by omega⟩
  · refine c_no rfl (decide_eq_false (by omega)) ?_
    repeat (with_reducible first | refine c_seq ?_ | refine c_block ?_ | refine c_skip ?_ | refine x_then ?_ | refine x_block ?_)
    refine c_exit ?_
    repeat (with_reducible first | refine x_then_exit ?_ | refine x_block_exit ?_ | refine x_block_pass rfl ?_)
    repeat (with_reducible first | refine c_seq ?_ | refine c_block ?_ | refine c_skip ?_ | refine x_then ?_ | refine x_block ?_)
    obtain rfl : c = m := by omega
    repeat (with_reducible first | refine c_seq ?_ | refine c_block ?_ | refine c_skip ?_ | refine x_then ?_ | refine x_block ?_)
    refine c_reg ?_
    refine l_pure rfl (s_move  h3 ?_)
    refine l_pure rfl (s_asg  rfl ?_)
    refine l_nil ?_
    repeat (with_reducible first | refine c_seq ?_ | refine c_block ?_ | refine c_skip ?_ | refine x_then ?_ | refine x_block ?_)
    refine c_ret ?_
    repeat (with_reducible first | refine x_then_ret ?_ | refine x_block_ret ?_)
    refine r_one rfl rfl ?_
    subst hm
    refine ⟨bo, rfl, (hS.drop (H' := [_]) (.cons _ (.cons _ (.cons_cons _ (.cons _ .slnil))))).cast ?_⟩
    rw [tab_congr (f := totT X owed owed.length) (g := fun c => ofQ (preQ X owed (c + 1) - preQ X owed c)) fun i hi => by unfold totT; rw [if_pos hi]]
end Go.Proofs.YtfocimgpahjkmaaGreatDoor
namespace Go.Sx
open Go Go.RowKit
section
variable {P : Program} {N : Nat} {ρ : Nat → Value} {w w0 : World} {H : List Blk}
  {d : Option Tmp} {ty : TypeId} {pos : String} {aft : Array Edge} {g : Option (Nat × Bool)} {x y : Operand} {t e : TypeId} {v vs : Value} {K2 : Value → World → Prop}
theorem s_stG {α : Type} {enc : α → List Value} {size : Nat} {X : List α} {L : List Blk} {i : Nat} {zz : List Value} {agg : Bool} (u : α) (hu : ∀ x, (enc x).length = size) (hx : ev N ρ x = .pointer (some ((sbase vs).add (i * size)))) (hy : ev N ρ y = v) (ht : vinfo P t = some (size, agg, zz)) (hG : Gl enc e size vs X L) (hS : St w0 w (H ++ L))
    (hi : i < X.length) (hv : v.cells.toList = enc u) (h1 : (enc u).all (·.oneCell') = true)
    (h : ∀ w', (∃ L', Gl enc e size vs (X.set i u) L' ∧ St w0 w' (H ++ L')) → K2 undef w') : Hup1 P N ρ w ⟨d, .store t x y, ty, pos, aft, g⟩ K2 := by
  obtain ⟨hX, ⟨rfl, h0, _⟩ | ⟨b, cap, spare, rfl, rfl, h2, h3, h4⟩⟩ := hG
  · omega
  have hx' : ev N ρ x = .pointer (some ⟨b, i * size, none⟩) := by
    rw [hx]
    show Value.pointer (some ((⟨b, 0, none⟩ : Addr).add (i * size))) = _
    rw [add_lit, Nat.zero_add]
  have hk : (H ++ [(b, e, X.flatMap enc ++ spare)])[H.length]? = some (b, e, X.flatMap enc ++ spare) := by simp
  have hfit : i * size + size ≤ (X.flatMap enc).length := by
    rw [hX]
    have : (i + 1) * size ≤ X.length * size := Nat.mul_le_mul_right _ hi
    rw [Nat.add_mul] at this; omega
  refine s_sta hx' hy ht hS hk hv (hu u) (by rw [List.length_append]; omega) h1 (fun w' hS' => ?_)
  have hsp : splice (X.flatMap enc ++ spare) (i * size) (enc u) = (X.set i u).flatMap enc ++ spare := by
    rw [← flat_set hu X u hi]
    unfold splice
    rw [List.take_append_of_le_length (by omega), List.drop_append_of_le_length (by rw [hu]; exact hfit)]
    simp only [List.append_assoc]
  rw [hsp] at hS'
  refine h w' ⟨[(b, e, (X.set i u).flatMap enc ++ spare)], ⟨?_, .inr ⟨b, cap, spare, by rw [List.length_set], rfl, by rw [List.length_set]; exact h2, h3, ?_⟩⟩, hS'.cast (by simp)⟩
  · rw [List.length_set, ← hX, ← flat_set hu X u hi]
    unfold splice
    simp only [List.length_append, List.length_take, List.length_drop, hu]
    omega
  · rw [← h4, List.length_append, List.length_append, ← flat_set hu X u hi]
    unfold splice
    simp only [List.length_append, List.length_take, List.length_drop, hu]
    omega
end
end Go.Sx
namespace Go.Proofs.YtfocimgpahjkmaaGreatDoor
open Go Go.RowKit Go.Sx

theorem firstE_zero {α : Type} {f : α → Int} {l : List α} (h : firstE f l = 0) : ∀ x ∈ l, f x = 0 := by
  induction l with
  | nil => intro x hx; cases hx
  | cons y l ih =>
    intro x hx
    rw [firstE] at h
    by_cases hy : f y = 0
    · rw [if_pos hy] at h
      rcases List.mem_cons.1 hx with rfl | hx
      · exact hy
      · exact ih h x hx
    · rw [if_neg hy] at h; exact absurd h hy
theorem chErr_zero {m : Nat} {c : Ch} (h : chErr m c = 0) : 0 ≤ c.claim ∧ c.claim < m := by
  unfold chErr at h
  by_cases g : c.claim < 0 ∨ (m : Int) ≤ c.claim
  · rw [if_pos g] at h; cases h
  · omega
theorem itErr_zero {m : Nat} {x : It} (h : itErr m x = 0) : x.charges.length ≤ 8 ∧ 0 ≤ toQ x.price ∧ 0 ≤ toQ x.costs ∧ ∀ c ∈ x.charges, chErr m c = 0 := by
  unfold itErr at h
  by_cases g : 8 < x.charges.length
  · rw [if_pos g] at h; cases h
  · rw [if_neg g] at h
    by_cases g2 : toQ x.price < 0 ∨ toQ x.costs < 0
    · rw [if_pos g2] at h; cases h
    · rw [if_neg g2] at h
      refine ⟨by omega, ?_, ?_, firstE_zero h⟩
      · exact Rat.not_lt.1 fun q => g2 (.inl q)
      · exact Rat.not_lt.1 fun q => g2 (.inr q)
theorem checkE_zero {X : List It} {owed : List RR} (h : checkE X owed = 0) : X.length ≤ 8 ∧ owed.length ≤ 24 ∧ negs owed = false ∧ (∀ x ∈ X, itErr owed.length x = 0) ∧ ∀ x ∈ X, ∀ c ∈ x.charges, 0 ≤ c.claim ∧ c.claim < owed.length := by
  unfold checkE at h
  by_cases g : 8 < X.length ∨ 24 < owed.length
  · rw [if_pos g] at h; cases h
  · rw [if_neg g] at h
    by_cases g2 : negs owed = true
    · rw [if_pos g2] at h; cases h
    · rw [if_neg g2] at h
      have h3 := firstE_zero h
      exact ⟨by omega, by omega, by simpa using g2, h3, fun x hx c hc => chErr_zero ((itErr_zero (h3 x hx)).2.2.2 c hc)⟩
theorem ItB_mono {k l : Nat} {X : List It} (h : ItB k X) (hkl : k ≤ l) : ItB l X := fun x hx => by
  obtain ⟨a, b, c⟩ := h x hx
  exact ⟨by omega, by omega, fun y hy => Nat.le_trans (c y hy) hkl⟩
theorem RB_mono {k l : Nat} {X : List RR} (h : RB k X) (hkl : k ≤ l) : RB l X := fun x hx => Nat.le_trans (h x hx) hkl
def totL (X : List It) (owed : List RR) : List RR := if checkE X owed = 0 then tab owed.length fun c => ofQ (preQ X owed (c + 1) - preQ X owed c) else []
def capE (X : List It) (owed : List RR) (claims : List Int) : Int := if checkE X owed = 0 then (if claims.any (fun c => decide (c < 0 ∨ (owed.length : Int) ≤ c)) = true then 1 else 0) else checkE X owed
def capS (claims : List Int) (c : Nat) : Bool := claims.any fun k => decide (k = (c : Int))
def capR (X : List It) (owed : List RR) (claims : List Int) : RR := if capE X owed claims = 0 then ofQ (capQ X owed (capS claims)) else zRR
/-- What of a network stays: its rows, read. -/
structure NetOf (X : List It) (owed : List RR) (w : World) (sP sO sM : Value) (R : List Nat) : Prop where
  P : Sl encR 3 w sP (procsR X)
  O : Sl encR 3 w sO (owedR owed)
  M : Sl (uk .u64) 1 w sM R
  R : Masks X owed.length X.length 0 R

theorem netOf {X : List It} {owed : List RR} {w0 w : World} {H : List Blk} {sP sO : Value} {LP LO : List Blk} {bI : Nat} {R : List Nat} {tu : TypeId} {tR : TypeId} (hP : Gl encR tR 3 sP (procsR X) LP) (hO : Gl encR tR 3 sO (owedR owed) LO) (hR : Masks X owed.length X.length 0 R)
    (hm : owed.length ≤ 24) (hS : St w0 w (H ++ ([(bI, tu, Kr .u64 R)] ++ LO ++ LP))) : NetOf X owed w sP sO (.slice (some ⟨bI, 0, none⟩) owed.length owed.length) R := by
  have h1 : St w0 w ([(bI, tu, Kr .u64 R)] ++ LO ++ LP) := hS.drop (List.sublist_append_right _ _)
  refine ⟨hP.sl h1 encR_len, hO.sl (h1.drop (List.sublist_append_left _ _)) encR_len, ?_, hR⟩
  have h2 : St w0 w ((bI, tu, Kr .u64 R) :: (LO ++ LP)) := h1
  have h3 := h2.slk (k := 0) rfl (n := owed.length) (cap := owed.length) (by rw [hR.len]; exact Nat.le_refl _) (Nat.le_refl _) (by omega)
  rwa [List.take_of_length_le (by rw [hR.len]; exact Nat.le_refl _)] at h3

theorem Totals_ok (vi_ vo : Value) (X : List It) (cvs : List Value) (owed : List RR) (K : Nat) (w : World) (hX : Its w vi_ X cvs) (ho : Sl encR 3 w vo owed) (hXB : ItB K X) (hoB : RB K owed) (hK : 80 * K + 90 ≤ MX)
    (hT : At w ⟨1, 0, none⟩ (Kr .u8 tzTab)) :
    Ret Tryz.prog 9 #[vi_, vo] w fun v w' => (∃ vt, v = .tuple #[vt, .int .i64 (checkE X owed)] ∧ Sl encR 3 w' vt (totL X owed)) ∧ Below w.heap.size w w' := by
  have hM : MX = 1099511627776 := rfl
  have hS := St.init w
  refine enter Tryz.func9 rfl Tryz.ntmps9 rfl ?_
  repeat (with_reducible first | refine c_seq ?_ | refine c_block ?_ | refine c_skip ?_ | refine x_then ?_ | refine x_block ?_)
  refine c_reg ?_
  refine l_pure rfl (s_asg  rfl ?_)
  refine l_pure rfl (s_asg  rfl ?_)
  refine l_nil ?_
  repeat (with_reducible first | refine c_seq ?_ | refine c_block ?_ | refine c_skip ?_ | refine x_then ?_ | refine x_block ?_)
  refine c_reg ?_
  refine l_pure rfl (s_move  rfl ?_)
  refine l_pure rfl (s_move  rfl ?_)
  refine l_heavy rfl (s_call Tryz.call28 rfl (Check_ok vi_ vo X cvs owed _ (hX.below hS.below) (ho.below hS.below) (ItB_mono hXB (by omega)) (RB_mono hoB (by omega))) ?_)
  rintro _ wc1 ⟨rfl, hBc1⟩
  replace hS := hS.grow hBc1
  refine l_pure rfl (s_asg  rfl ?_)
  refine l_nil ?_
  repeat (with_reducible first | refine c_seq ?_ | refine c_block ?_ | refine c_skip ?_ | refine x_then ?_ | refine x_block ?_)
  obtain ⟨e, he⟩ : ∃ e, e = checkE X owed := ⟨_, rfl⟩
  rw [← he]
  repeat (with_reducible first | refine c_seq ?_ | refine c_block ?_ | refine c_skip ?_ | refine x_then ?_ | refine x_block ?_)
  refine c_reg ?_
  refine l_pure rfl (s_move  rfl ?_)
  refine l_pure rfl (s_neq  rfl rfl ?_)
  refine l_nil ?_
  repeat (with_reducible first | refine c_seq ?_ | refine c_block ?_ | refine c_skip ?_ | refine x_then ?_ | refine x_block ?_)
  by_cases h0 : e = 0
  · refine c_no rfl (decide_eq_false (by omega)) ?_
    repeat (with_reducible first | refine c_seq ?_ | refine c_block ?_ | refine c_skip ?_ | refine x_then ?_ | refine x_block ?_)
    obtain ⟨hX8, ho24, hng, hit, hcl⟩ := checkE_zero (he.symm.trans h0)
    repeat (with_reducible first | refine c_seq ?_ | refine c_block ?_ | refine c_skip ?_ | refine x_then ?_ | refine x_block ?_)
    refine c_reg ?_
    refine l_pure rfl (s_move  rfl ?_)
    refine l_pure rfl (s_move  rfl ?_)
    refine l_heavy rfl (s_call Tryz.call29 rfl (build_ok vi_ vo X cvs owed K _ (hX.below hS.below) (ho.below hS.below) hXB hoB (by omega) hX8 ho24 hcl) ?_)
    rintro r w3 ⟨sP, sO, LP, LO, bI, R, rfl, hP, hO, hR, hS3⟩
    have hN := netOf (H := []) hP hO hR ho24 hS3
    have hB3 := hS3.below
    replace hS := hS.grow hB3
    refine l_heavy rfl (s_call Tryz.call30 rfl (totals_ok _ _ _ X owed R K _ hN.P hN.O hN.M hN.R hXB hoB hK hX8 ho24 (hT.below hS.below)) ?_)
    rintro r w4 ⟨b, rfl, hS4⟩
    replace hS := hS.grow hS4.below
    have hsl := hS4.sle (k := 0) (enc := encR) (n := owed.length) (cap := owed.length) rfl encR_len (by rw [tab_len]; exact Nat.le_refl _) (Nat.le_refl _) (by omega)
    rw [List.take_of_length_le (by rw [tab_len]; exact Nat.le_refl _)] at hsl
    refine l_pure rfl (s_asg  rfl ?_)
    refine l_pure rfl (s_asg  rfl ?_)
    refine l_nil ?_
    repeat (with_reducible first | refine c_seq ?_ | refine c_block ?_ | refine c_skip ?_ | refine x_then ?_ | refine x_block ?_)
    refine c_ret ?_
    repeat (with_reducible first | refine x_then_ret ?_ | refine x_block_ret ?_)
    refine r_two rfl rfl rfl ?_
    refine ⟨⟨_, by rw [h0]; rfl, ?_⟩, hS.below⟩
    have ht : totL X owed = tab owed.length fun c => ofQ (preQ X owed (c + 1) - preQ X owed c) := if_pos (he.symm.trans h0)
    rw [ht]
    exact hsl
  · refine c_yes rfl (decide_eq_true (by omega)) ?_
    repeat (with_reducible first | refine c_seq ?_ | refine c_block ?_ | refine c_skip ?_ | refine x_then ?_ | refine x_block ?_)
    refine c_reg ?_
    refine l_pure rfl (s_move  rfl ?_)
    refine l_pure rfl (s_asg  rfl ?_)
    refine l_pure rfl (s_asg  rfl ?_)
    refine l_nil ?_
    repeat (with_reducible first | refine c_seq ?_ | refine c_block ?_ | refine c_skip ?_ | refine x_then ?_ | refine x_block ?_)
    refine c_ret ?_
    repeat (with_reducible first | refine x_then_ret ?_ | refine x_block_ret ?_)
    refine r_two rfl rfl rfl ?_
    refine ⟨⟨_, rfl, ?_⟩, hS.below⟩
    have ht : totL X owed = [] := if_neg fun g => h0 (he.trans g)
    rw [ht]
    exact Sl.nil _ _ _
end Go.Proofs.YtfocimgpahjkmaaGreatDoor
namespace Go.Proofs.YtfocimgpahjkmaaGreatDoor
open Go Go.RowKit Go.Sx

def enI (c : Int) : List Value := [.int .i64 c]
def enB (b : Bool) : List Value := [.bool b]
theorem enB_len : ∀ b, (enB b).length = 1 := fun _ => rfl
theorem build_net (vi_ vo : Value) (X : List It) (cvs : List Value) (owed : List RR) (K : Nat) (w : World) (hX : Its w vi_ X cvs) (ho : Sl encR 3 w vo owed) (hXB : ItB K X) (hoB : RB K owed) (hK : 2 * K + 2 ≤ MX) (hc : checkE X owed = 0) :
    Ret Tryz.prog 29 #[vi_, vo] w fun v w' => ∃ sP sO sM R NET, v = .agg #[sP, sO, sM] ∧ St w w' NET ∧ ∀ w0 w' H, St w0 w' (H ++ NET) → NetOf X owed w' sP sO sM R := by
  obtain ⟨hX8, ho24, hng, hit, hcl⟩ := checkE_zero hc
  refine (build_ok vi_ vo X cvs owed K w hX ho hXB hoB hK hX8 ho24 hcl).mono ?_
  rintro v w' ⟨sP, sO, LP, LO, bI, R, rfl, hP, hO, hR, hS3⟩
  exact ⟨_, _, _, R, _, rfl, hS3, fun w0 w' H h => netOf hP hO hR ho24 h⟩
def inT (L : List Int) (k c : Nat) : Bool := capS (L.take k) c
theorem inT_step {L : List Int} {k m c0 : Nat} (hk : k < L.length) (hc : L.getD k 0 = (c0 : Int)) : (tab m (inT L k)).set c0 true = tab m (inT L (k + 1)) := by
  rw [tab_set]
  refine tab_congr fun i hi => ?_
  unfold inT capS
  rw [take_succ' L k 0 hk, List.any_append, hc]
  by_cases e : i = c0
  · subst e; simp
  · have : ¬ ((c0 : Int) = (i : Int)) := by omega
    simp [e, this]
theorem any_take_step {α : Type} (p : α → Bool) (L : List α) (d : α) {k : Nat} (hk : k < L.length) (h : (L.take k).any p = false) : (p (L.getD k d) = false → (L.take (k + 1)).any p = false) ∧ (p (L.getD k d) = true → L.any p = true) := by
  constructor
  · intro h1
    rw [take_succ' L k d hk, List.any_append, h]
    simpa using h1
  · intro h1
    rw [List.any_eq_true]
    exact ⟨_, getD_mem L k d hk, h1⟩

set_option maxHeartbeats 1000000 in
theorem Capacity_ok (vi_ vo vc : Value) (X : List It) (cvs : List Value) (owed : List RR) (L : List Int) (K : Nat) (w : World) (hX : Its w vi_ X cvs) (ho : Sl encR 3 w vo owed) (hL : Sl enI 1 w vc L) (hXB : ItB K X) (hoB : RB K owed) (hK : 80 * K + 90 ≤ MX)
    (hT : At w ⟨1, 0, none⟩ (Kr .u8 tzTab)) :
    Ret Tryz.prog 16 #[vi_, vo, vc] w fun v w' => v = .tuple #[aggR (capR X owed L), .int .i64 (capE X owed L)] ∧ Below w.heap.size w w' := by
  have hM : MX = 1099511627776 := rfl
  have hLm := hL.maxLen
  have hom := ho.maxLen
  obtain ⟨m, hm⟩ : ∃ m, m = owed.length := ⟨_, rfl⟩
  have hzero : (List.replicate m false) = tab m (inT L 0) := by rw [tab_rep]; exact tab_congr fun i _ => rfl
  have hS := St.init w
  refine enter Tryz.func16 rfl Tryz.ntmps16 rfl ?_
  repeat (with_reducible first | refine c_seq ?_ | refine c_block ?_ | refine c_skip ?_ | refine x_then ?_ | refine x_block ?_)
  refine c_reg ?_
  refine l_heavy rfl (s_alloc  vi_39 hS ?_)
  intro b6 wz1 hS hBz1
  refine l_pure rfl (s_asg  rfl ?_)
  refine l_nil ?_
  repeat (with_reducible first | refine c_seq ?_ | refine c_block ?_ | refine c_skip ?_ | refine x_then ?_ | refine x_block ?_)
  refine c_reg ?_
  refine l_pure rfl (s_move  rfl ?_)
  refine l_pure rfl (s_move  rfl ?_)
  refine l_heavy rfl (s_call Tryz.call28 rfl (Check_ok vi_ vo X cvs owed _ (hX.below hS.below) (ho.below hS.below) (ItB_mono hXB (by omega)) (RB_mono hoB (by omega))) ?_)
  rintro _ wc2 ⟨rfl, hBc2⟩
  replace hS := hS.grow hBc2
  refine l_pure rfl (s_asg  rfl ?_)
  refine l_nil ?_
  repeat (with_reducible first | refine c_seq ?_ | refine c_block ?_ | refine c_skip ?_ | refine x_then ?_ | refine x_block ?_)
  obtain ⟨e, he⟩ : ∃ e, e = checkE X owed := ⟨_, rfl⟩
  rw [← he]
  repeat (with_reducible first | refine c_seq ?_ | refine c_block ?_ | refine c_skip ?_ | refine x_then ?_ | refine x_block ?_)
  refine c_reg ?_
  refine l_pure rfl (s_move  rfl ?_)
  refine l_pure rfl (s_neq  rfl rfl ?_)
  refine l_nil ?_
  repeat (with_reducible first | refine c_seq ?_ | refine c_block ?_ | refine c_skip ?_ | refine x_then ?_ | refine x_block ?_)
  by_cases h0 : e = 0
  · refine c_no rfl (decide_eq_false (by omega)) ?_
    repeat (with_reducible first | refine c_seq ?_ | refine c_block ?_ | refine c_skip ?_ | refine x_then ?_ | refine x_block ?_)
    have hck := he.symm.trans h0
    obtain ⟨hX8, ho24, hng, hit, hcl⟩ := checkE_zero hck
    repeat (with_reducible first | refine c_seq ?_ | refine c_block ?_ | refine c_skip ?_ | refine x_then ?_ | refine x_block ?_)
    refine c_reg ?_
    refine l_pure rfl (s_move  rfl ?_)
    refine l_pure rfl (s_lenr  rfl (ho.below hS.below) ⟨_, Tryz.underlying24⟩ ?_)
    refine l_heavy rfl (s_makeE (enc := enB) (n := m) false  rfl rfl si_72 rfl (by omega) (by omega) (by omega) (by omega) hS ?_)
    intro b9 wz3 hS hBz3
    refine l_pure rfl (s_asg  rfl ?_)
    refine l_nil ?_
    repeat (with_reducible first | refine c_seq ?_ | refine c_block ?_ | refine c_skip ?_ | refine x_then ?_ | refine x_block ?_)
    rw [← hm]
    rw [hzero] at hS
    replace hS : St w _ [(b9, 4, (tab m (inT L 0)).flatMap enB), (b6, 39, encR zRR)] := hS
    repeat (with_reducible first | refine c_seq ?_ | refine c_block ?_ | refine c_skip ?_ | refine x_then ?_ | refine x_block ?_)
    refine c_reg ?_
    refine l_pure rfl (s_move  rfl ?_)
    refine l_pure rfl (s_lenr  rfl (hL.below hS.below) ⟨_, Tryz.underlying36⟩ ?_)
    refine l_pure rfl (s_move  rfl ?_)
    refine l_nil ?_
    repeat (with_reducible first | refine c_seq ?_ | refine c_skip ?_ | refine x_then ?_ | refine x_block ?_)
    refine c_cut1 (fun ρ w' => capE X owed L = 0 ∧ ρ 0 = vi_ ∧ ρ 1 = vo ∧ ρ 6 = .pointer (some ⟨b6, 0, none⟩) ∧ ρ 9 = .slice (some ⟨b9, 0, none⟩) m m ∧ St w w' [(b9, 4, (tab m (capS L)).flatMap enB), (b6, 39, encR zRR)]) ?_ ?_
    · repeat (with_reducible first | refine c_seq ?_ | refine c_block ?_ | refine c_skip ?_ | refine x_then ?_ | refine x_block ?_)
      refine c_loop (σ := Nat) (fun k ρ w' => k ≤ L.length ∧ (L.take k).any (fun c => decide (c < 0 ∨ (m : Int) ≤ c)) = false ∧ ρ 0 = vi_ ∧ ρ 1 = vo ∧ ρ 6 = .pointer (some ⟨b6, 0, none⟩) ∧ ρ 9 = .slice (some ⟨b9, 0, none⟩) m m ∧ ρ 26 = vc ∧ ρ 27 = .int .i64 L.length ∧ ρ 28 = .int .i64 k ∧
          St w w' [(b9, 4, (tab m (inT L k)).flatMap enB), (b6, 39, encR zRR)]) (fun k => L.length - k) 0
        ⟨Nat.zero_le _, rfl, rfl, rfl, rfl, rfl, rfl, rfl, rfl, hS⟩ ?_
      clear hS
      rintro k ρ w4 ⟨hk1, hok, h0, h1, h6, h9, h26, h27, h28, hS⟩
      have htl := tab_len m (inT L k)
      repeat (with_reducible first | refine c_seq ?_ | refine c_block ?_ | refine c_skip ?_ | refine x_then ?_ | refine x_block ?_)
      refine c_reg ?_
      refine l_pure rfl (s_lss  h28 h27 ?_)
      refine l_nil ?_
      repeat (with_reducible first | refine c_seq ?_ | refine c_block ?_ | refine c_skip ?_ | refine x_then ?_ | refine x_block ?_)
      by_cases hk : k < L.length
      · refine c_yes rfl (decide_eq_true (by omega)) ?_
        repeat (with_reducible first | refine c_seq ?_ | refine c_block ?_ | refine c_skip ?_ | refine x_then ?_ | refine x_block ?_)
        obtain ⟨c, hc⟩ : ∃ c, c = L.getD k 0 := ⟨_, rfl⟩
        obtain ⟨e1, e2⟩ := any_take_step (fun c => decide (c < 0 ∨ (m : Int) ≤ c)) L 0 hk hok
        rw [← hc] at e1 e2
        repeat (with_reducible first | refine c_seq ?_ | refine c_block ?_ | refine c_skip ?_ | refine x_then ?_ | refine x_block ?_)
        refine c_reg ?_
        refine l_pure rfl (s_ixr (i := k)  h26 h28 (hL.below hS.below) (by omega) (by first | omega | (simp; done) | (simp; omega)) si_36 ?_)
        refine l_read rfl (s_lde (v := .int .i64 c) (i := k) 0  rfl vi_3 (hL.below hS.below) (by omega) rfl (by rw [← hc]; rfl) (.inr rfl) ?_)
        refine l_pure rfl (s_asg  rfl ?_)
        refine l_nil ?_
        repeat (with_reducible first | refine c_seq ?_ | refine c_block ?_ | refine c_skip ?_ | refine x_then ?_ | refine x_block ?_)
        refine c_cut1 (fun ρ w' => ρ 0 = vi_ ∧ ρ 1 = vo ∧ ρ 6 = .pointer (some ⟨b6, 0, none⟩) ∧ ρ 9 = .slice (some ⟨b9, 0, none⟩) m m ∧ ρ 26 = vc ∧ ρ 27 = .int .i64 L.length ∧ ρ 28 = .int .i64 k ∧ ρ 11 = .int .i64 c ∧ ρ 39 = .bool (decide (c < 0 ∨ (m : Int) ≤ c)) ∧
          St w w' [(b9, 4, (tab m (inT L k)).flatMap enB), (b6, 39, encR zRR)]) ?_ ?_
        · repeat (with_reducible first | refine c_seq ?_ | refine c_block ?_ | refine c_skip ?_ | refine x_then ?_ | refine x_block ?_)
          by_cases hp : c < 0
          · repeat (with_reducible first | refine c_seq ?_ | refine c_block ?_ | refine c_skip ?_ | refine x_then ?_ | refine x_block ?_)
            refine c_reg ?_
            refine l_pure rfl (s_move  rfl ?_)
            refine l_pure rfl (s_lss  rfl rfl ?_)
            refine l_pure rfl (s_move  rfl ?_)
            refine l_no (gno_yes 34 (by kernel_rfl) rfl (decide_eq_true hp)) ?_
            refine l_no (gno_yes 34 (by kernel_rfl) rfl (decide_eq_true hp)) ?_
            refine l_no (gno_yes 34 (by kernel_rfl) rfl (decide_eq_true hp)) ?_
            refine l_no (gno_yes 34 (by kernel_rfl) rfl (decide_eq_true hp)) ?_
            refine l_pure rfl (s_pick (vb rfl (decide_eq_true hp)) rfl ?_)
            refine l_nil ?_
            repeat (with_reducible first | refine c_seq ?_ | refine c_block ?_ | refine c_skip ?_ | refine x_then ?_ | refine x_block ?_)
            exact ⟨_, rfl, h0, h1, h6, h9, h26, h27, h28, rfl, vb rfl (decide_eq_true (.inl hp)).symm, hS⟩
          · repeat (with_reducible first | refine c_seq ?_ | refine c_block ?_ | refine c_skip ?_ | refine x_then ?_ | refine x_block ?_)
            refine c_reg ?_
            refine l_pure rfl (s_move  rfl ?_)
            refine l_pure rfl (s_lss  rfl rfl ?_)
            refine l_pure rfl (s_move  rfl ?_)
            refine l_pure (gd_yes 34 (by kernel_rfl) rfl (decide_eq_false hp)) (s_move  rfl ?_)
            refine l_pure (gd_yes 34 (by kernel_rfl) rfl (decide_eq_false hp)) (s_move  h1 ?_)
            refine l_pure (gd_yes 34 (by kernel_rfl) rfl (decide_eq_false hp)) (s_lenr  rfl (ho.below hS.below) ⟨_, Tryz.underlying24⟩ ?_)
            refine l_pure (gd_yes 34 (by kernel_rfl) rfl (decide_eq_false hp)) (s_geq  rfl rfl ?_)
            refine l_pure rfl (s_pick (vb rfl (decide_eq_false hp)) rfl ?_)
            refine l_nil ?_
            repeat (with_reducible first | refine c_seq ?_ | refine c_block ?_ | refine c_skip ?_ | refine x_then ?_ | refine x_block ?_)
            exact ⟨_, rfl, h0, h1, h6, h9, h26, h27, h28, rfl, vb rfl (by rw [decide_eq_decide, ← hm]; omega), hS⟩
        clear hS h0 h1 h6 h9 h26 h27 h28
        rintro ρ w5 ⟨h0, h1, h6, h9, h26, h27, h28, h11, h39, hS⟩
        repeat (with_reducible first | refine c_seq ?_ | refine c_block ?_ | refine c_skip ?_ | refine x_then ?_ | refine x_block ?_)
        by_cases hb : c < 0 ∨ (m : Int) ≤ c
        · refine c_yes h39 (decide_eq_true hb) ?_
          repeat (with_reducible first | refine c_seq ?_ | refine c_block ?_ | refine c_skip ?_ | refine x_then ?_ | refine x_block ?_)
          have hE : capE X owed L = 1 := by unfold capE; rw [if_pos hck, ← hm, if_pos (e2 (decide_eq_true hb))]
          have hR : capR X owed L = zRR := by unfold capR; rw [hE]; rfl
          rw [hE, hR]
          repeat (with_reducible first | refine c_seq ?_ | refine c_block ?_ | refine c_skip ?_ | refine x_then ?_ | refine x_block ?_)
          refine c_reg ?_
          refine l_pure rfl (s_build  rfl bz_39 ?_)
          refine l_heavy rfl (s_sta (k := 1)  h6 rfl vi_39 hS rfl rfl rfl (Nat.le_of_ble_eq_true rfl) rfl ?_)
          intro wz4 hS
          refine l_pure rfl (s_asg  rfl ?_)
          refine l_nil ?_
          repeat (with_reducible first | refine c_seq ?_ | refine c_block ?_ | refine c_skip ?_ | refine x_then ?_ | refine x_block ?_)
          refine c_ret ?_
          repeat (with_reducible first | refine x_then_ret ?_ | refine x_block_ret ?_)
          refine r_cell_tmp (k := 1) rfl h6 rfl vi_39 hS rfl rfl ?_
          exact ⟨rfl, hS.below⟩
        refine c_no h39 (decide_eq_false hb) ?_
        repeat (with_reducible first | refine c_seq ?_ | refine c_block ?_ | refine c_skip ?_ | refine x_then ?_ | refine x_block ?_)
        obtain ⟨c0, hc0⟩ : ∃ c0 : Nat, c = (c0 : Int) := ⟨_, (Int.toNat_of_nonneg (by omega)).symm⟩
        have hst := inT_step (m := m) hk (hc.symm.trans hc0)
        repeat (with_reducible first | refine c_seq ?_ | refine c_block ?_ | refine c_skip ?_ | refine x_then ?_ | refine x_block ?_)
        refine c_reg ?_
        refine l_pure rfl (s_move  h9 ?_)
        refine l_pure rfl (s_move  h11 ?_)
        refine l_pure rfl (s_ixo (i := c0)  rfl rfl (by omega) (by first | omega | (simp; done) | (simp; omega)) si_72 ?_)
        refine l_heavy rfl (s_stE (k := 0) (i := c0) (enc := enB) true (fun _ => rfl)  rfl rfl vi_4 hS rfl (by first | omega | simp) (by first | omega | (simp; done) | (simp; omega)) rfl rfl ?_)
        intro wz5 hS
        refine l_nil ?_
        repeat (with_reducible first | refine c_seq ?_ | refine c_block ?_ | refine c_skip ?_ | refine x_then ?_ | refine x_block ?_)
        refine c_reg ?_
        refine l_pure rfl (s_add  h28 rfl (IntWalk.i64_in _ (by omega)) ?_)
        refine l_pure rfl (s_move  rfl ?_)
        refine l_nil ?_
        repeat (with_reducible first | refine c_seq ?_ | refine c_block ?_ | refine c_skip ?_ | refine x_then ?_ | refine x_block ?_)
        exact ⟨k + 1, _, rfl, ⟨hk, e1 (decide_eq_false hb), h0, h1, h6, h9, h26, h27, vi rfl (by omega), hS.cast (by show [_, _] = _; rw [hst])⟩, by omega⟩
      · refine c_no rfl (decide_eq_false (by omega)) ?_
        repeat (with_reducible first | refine c_seq ?_ | refine c_block ?_ | refine c_skip ?_ | refine x_then ?_ | refine x_block ?_)
        refine c_exit ?_
        repeat (with_reducible first | refine x_then_exit ?_ | refine x_block_exit ?_ | refine x_block_pass rfl ?_)
        repeat (with_reducible first | refine c_seq ?_ | refine c_block ?_ | refine c_skip ?_ | refine x_then ?_ | refine x_block ?_)
        obtain rfl : k = L.length := by omega
        rw [List.take_length] at hok
        refine ⟨_, rfl, ?_, h0, h1, h6, h9, hS.cast (by unfold inT; rw [List.take_length])⟩
        unfold capE
        rw [if_pos hck, ← hm, hok]; rfl
    clear hS
    rintro ρ w5 ⟨hE, h0, h1, h6, h9, hS⟩
    have hRes : capR X owed L = ofQ (capQ X owed (capS L)) := by unfold capR; rw [if_pos hE]
    rw [hE, hRes]
    repeat (with_reducible first | refine c_seq ?_ | refine c_block ?_ | refine c_skip ?_ | refine x_then ?_ | refine x_block ?_)
    refine c_reg ?_
    refine l_pure rfl (s_move  h0 ?_)
    refine l_pure rfl (s_move  h1 ?_)
    refine l_heavy rfl (s_call Tryz.call29 rfl (build_net vi_ vo X cvs owed K _ (hX.below hS.below) (ho.below hS.below) hXB hoB (by omega) hck) ?_)
    rintro r w6 ⟨sP, sO, sM, R, NET, rfl, hS6, hNet⟩
    replace hS := (hS.join hS6).perm List.perm_append_comm
    have hN0 := hNet _ _ _ hS
    obtain ⟨aP, cP, hsP, _⟩ := hN0.P.form
    obtain ⟨aO, cO, hsO, _⟩ := hN0.O.form
    obtain ⟨aM, cM, hsM, _⟩ := hN0.M.form
    subst hsP hsO hsM
    refine l_heavy rfl (s_alloc  vi_68 hS ?_)
    intro b12 wz6 hS hBz6
    refine l_heavy rfl (s_sta (k := 0)  rfl rfl vi_68 hS rfl rfl rfl (Nat.le_of_ble_eq_true rfl) rfl ?_)
    intro wz7 hS
    refine l_nil ?_
    repeat (with_reducible first | refine c_seq ?_ | refine c_block ?_ | refine c_skip ?_ | refine x_then ?_ | refine x_block ?_)
    refine c_reg ?_
    refine l_read rfl (s_ldo (k := 0)  rfl vi_68 hS rfl rfl rfl (.inl rfl) ?_)
    replace hS : St w _ ([(b12, 68, [.slice aP (procsR X).length cP, .slice aO (owedR owed).length cO, .slice aM R.length cM]), (b9, 4, (tab m (capS L)).flatMap enB), (b6, 39, encR zRR)] ++ NET) := hS
    have hN := hNet _ _ _ hS
    refine l_heavy rfl (s_call Tryz.call41 rfl (cuts_ok _ _ _ X K _ hN.P hXB (by omega) hX8 (hT.below hS.below)) ?_)
    rintro r w7 ⟨bc, rfl, hS7⟩
    replace hS := hS.join hS7
    obtain ⟨N, hN2⟩ : ∃ N, N = 2 ^ X.length := ⟨_, rfl⟩
    have hN256 : N ≤ 256 := by rw [hN2]; exact Nat.pow_le_pow_right (n := 2) (by decide) hX8
    have hN1 : 1 ≤ N := by rw [hN2]; exact Nat.one_le_two_pow
    have hc0 : (tab N fun j => ofQ (payF X j)) = tab N fun j => ofQ (capF X owed (fun i => decide (i < 0) && capS L i) j) := tab_congr fun j _ => by
      rw [capF_congr X owed (t := fun _ => false) (fun c _ => by simp), capF_none]
    rw [← hN2, hc0] at hS
    rw [← hN2]
    refine l_pure rfl (s_asg  rfl ?_)
    refine l_nil ?_
    repeat (with_reducible first | refine c_seq ?_ | refine c_block ?_ | refine c_skip ?_ | refine x_then ?_ | refine x_block ?_)
    refine c_reg ?_
    refine l_pure rfl (s_move  h9 ?_)
    refine l_pure rfl (s_leno  rfl ⟨_, Tryz.underlying72⟩ ?_)
    refine l_pure rfl (s_move  rfl ?_)
    refine l_nil ?_
    repeat (with_reducible first | refine c_seq ?_ | refine c_skip ?_ | refine x_then ?_ | refine x_block ?_)
    refine c_cut1 (fun ρ w' => ρ 6 = .pointer (some ⟨b6, 0, none⟩) ∧ ρ 13 = .slice (some ⟨bc, 0, none⟩) N N ∧
      St w w' ((bc, 39, (tab N fun j => ofQ (capF X owed (capS L) j)).flatMap encR) :: ([(b12, 68, [.slice aP (procsR X).length cP, .slice aO (owedR owed).length cO, .slice aM R.length cM]), (b9, 4, (tab m (capS L)).flatMap enB), (b6, 39, encR zRR)] ++ NET))) ?_ ?_
    · repeat (with_reducible first | refine c_seq ?_ | refine c_block ?_ | refine c_skip ?_ | refine x_then ?_ | refine x_block ?_)
      refine c_loop (σ := Nat) (fun c ρ w' => c ≤ m ∧ ρ 6 = .pointer (some ⟨b6, 0, none⟩) ∧ ρ 12 = .pointer (some ⟨b12, 0, none⟩) ∧ ρ 13 = .slice (some ⟨bc, 0, none⟩) N N ∧ ρ 50 = .slice (some ⟨b9, 0, none⟩) m m ∧ ρ 51 = .int .i64 m ∧ ρ 52 = .int .i64 c ∧
          St w w' ((bc, 39, (tab N fun j => ofQ (capF X owed (fun i => decide (i < c) && capS L i) j)).flatMap encR) :: ([(b12, 68, [.slice aP (procsR X).length cP, .slice aO (owedR owed).length cO, .slice aM R.length cM]), (b9, 4, (tab m (capS L)).flatMap enB), (b6, 39, encR zRR)] ++ NET))) (fun c => m - c) 0
        ⟨Nat.zero_le _, h6, rfl, rfl, rfl, rfl, rfl, hS⟩ ?_
      clear hS h0 h1 h6 h9
      rintro c ρ w8 ⟨hc, h6, h12, h13, h50, h51, h52, hS⟩
      have htl := tab_len m (capS L)
      repeat (with_reducible first | refine c_seq ?_ | refine c_block ?_ | refine c_skip ?_ | refine x_then ?_ | refine x_block ?_)
      refine c_reg ?_
      refine l_pure rfl (s_lss  h52 h51 ?_)
      refine l_nil ?_
      repeat (with_reducible first | refine c_seq ?_ | refine c_block ?_ | refine c_skip ?_ | refine x_then ?_ | refine x_block ?_)
      by_cases hlt : c < m
      · refine c_yes rfl (decide_eq_true (by omega)) ?_
        repeat (with_reducible first | refine c_seq ?_ | refine c_block ?_ | refine c_skip ?_ | refine x_then ?_ | refine x_block ?_)
        have hcl2 : c < owed.length := by omega
        obtain ⟨b, hb⟩ : ∃ b, b = capS L c := ⟨_, rfl⟩
        have hbv : (tab m (capS L)).getD c false = b := by rw [tab_get _ _ hlt, hb]
        repeat (with_reducible first | refine c_seq ?_ | refine c_block ?_ | refine c_skip ?_ | refine x_then ?_ | refine x_block ?_)
        refine c_reg ?_
        refine l_pure rfl (s_move  h52 ?_)
        refine l_pure rfl (s_ixo (i := c)  h50 h52 (by omega) (by first | omega | (simp; done) | (simp; omega)) si_72 ?_)
        refine l_read rfl (s_ldE (k := 2) (i := c) (v := .bool b) (enc := enB) false enB_len  rfl vi_4 hS rfl (Nat.zero_add _) (by omega) (by rw [hbv]; rfl) (.inr rfl) ?_)
        refine l_pure rfl (s_asg  rfl ?_)
        refine l_pure rfl (s_asg  rfl ?_)
        refine l_nil ?_
        repeat (with_reducible first | refine c_seq ?_ | refine c_block ?_ | refine c_skip ?_ | refine x_then ?_ | refine x_block ?_)
        refine c_reg ?_
        refine l_pure rfl (s_move  rfl ?_)
        refine l_nil ?_
        repeat (with_reducible first | refine c_seq ?_ | refine c_skip ?_ | refine x_then ?_ | refine x_block ?_)
        refine c_cut1 (fun ρ w' => ρ 6 = .pointer (some ⟨b6, 0, none⟩) ∧ ρ 12 = .pointer (some ⟨b12, 0, none⟩) ∧ ρ 13 = .slice (some ⟨bc, 0, none⟩) N N ∧ ρ 50 = .slice (some ⟨b9, 0, none⟩) m m ∧ ρ 51 = .int .i64 m ∧ ρ 52 = .int .i64 c ∧
          St w w' ((bc, 39, (tab N fun j => ofQ (capF X owed (fun i => decide (i < c + 1) && capS L i) j)).flatMap encR) :: ([(b12, 68, [.slice aP (procsR X).length cP, .slice aO (owedR owed).length cO, .slice aM R.length cM]), (b9, 4, (tab m (capS L)).flatMap enB), (b6, 39, encR zRR)] ++ NET))) ?_ ?_
        · repeat (with_reducible first | refine c_seq ?_ | refine c_block ?_ | refine c_skip ?_ | refine x_then ?_ | refine x_block ?_)
          by_cases hbt : b = true
          · refine c_yes rfl (hbt) ?_
            repeat (with_reducible first | refine c_seq ?_ | refine c_block ?_ | refine c_skip ?_ | refine x_then ?_ | refine x_block ?_)
            have hst : capS L c = true := hb.symm.trans hbt
            repeat (with_reducible first | refine c_seq ?_ | refine c_block ?_ | refine c_skip ?_ | refine x_then ?_ | refine x_block ?_)
            refine c_reg ?_
            refine l_read rfl (s_ldo (k := 1)  h12 vi_68 hS rfl rfl rfl (.inl rfl) ?_)
            refine l_pure rfl (s_move  h13 ?_)
            refine l_pure rfl (s_move  rfl ?_)
            refine l_heavy rfl (s_call Tryz.call42 rfl (nadd_ok _ _ _ bc N c (40 * K + 45) K (capF X owed (fun i => decide (i < c) && capS L i)) X owed R w _ _ hS (fun _ _ h => (hNet _ _ _ (h.drop (H' := [] ++ NET) (.cons _ (.cons _ (.cons _ (.cons _ (List.Sublist.refl _))))))).O) (fun _ _ h => (hNet _ _ _ (h.drop (H' := [] ++ NET) (.cons _ (.cons _ (.cons _ (.cons _ (List.Sublist.refl _))))))).M) hN256 hX8 hcl2 hN0.R (fun j _ => L_capF hXB hoB hX8 ho24 _ j) hoB (by omega)) ?_)
            rintro r w9 ⟨rfl, hS⟩
            rw [tab_congr (g := fun j => ofQ (capF X owed (fun i => decide (i < c + 1) && capS L i) j)) fun j _ => by
              rw [capF_step X owed (t := fun i => decide (i < c + 1) && capS L i) hcl2 (by simp) (by simp [hst]) (fun i _ hne => by rw [decide_eq_decide.2 (show i < c ↔ i < c + 1 by omega)])]] at hS
            refine l_nil ?_
            repeat (with_reducible first | refine c_seq ?_ | refine c_block ?_ | refine c_skip ?_ | refine x_then ?_ | refine x_block ?_)
            exact ⟨_, rfl, h6, h12, h13, h50, h51, h52, hS⟩
          · refine c_no rfl ((Bool.eq_false_iff.2 hbt)) ?_
            repeat (with_reducible first | refine c_seq ?_ | refine c_block ?_ | refine c_skip ?_ | refine x_then ?_ | refine x_block ?_)
            have hst : capS L c = false := hb.symm.trans (Bool.eq_false_iff.2 hbt)
            refine ⟨_, rfl, h6, h12, h13, h50, h51, h52, hS.cast ?_⟩
            rw [tab_congr (f := fun j => ofQ (capF X owed (fun i => decide (i < c) && capS L i) j)) (g := fun j => ofQ (capF X owed (fun i => decide (i < c + 1) && capS L i) j)) fun j _ => by
              rw [capF_congr X owed (t := fun i => decide (i < c + 1) && capS L i) (fun i _ => by
                by_cases e : i = c
                · subst e; simp [hst]
                · rw [decide_eq_decide.2 (show i < c ↔ i < c + 1 by omega)])]]
        clear hS h6 h12 h13 h50 h51 h52
        rintro ρ w9 ⟨h6, h12, h13, h50, h51, h52, hS⟩
        repeat (with_reducible first | refine c_seq ?_ | refine c_block ?_ | refine c_skip ?_ | refine x_then ?_ | refine x_block ?_)
        refine c_reg ?_
        refine l_pure rfl (s_add  h52 rfl (IntWalk.i64_in _ (by omega)) ?_)
        refine l_pure rfl (s_move  rfl ?_)
        refine l_nil ?_
        repeat (with_reducible first | refine c_seq ?_ | refine c_block ?_ | refine c_skip ?_ | refine x_then ?_ | refine x_block ?_)
        exact ⟨c + 1, _, rfl, ⟨hlt, h6, h12, h13, h50, h51, vi rfl (by omega), hS⟩, by omega⟩
      · refine c_no rfl (decide_eq_false (by omega)) ?_
        repeat (with_reducible first | refine c_seq ?_ | refine c_block ?_ | refine c_skip ?_ | refine x_then ?_ | refine x_block ?_)
        refine c_exit ?_
        repeat (with_reducible first | refine x_then_exit ?_ | refine x_block_exit ?_ | refine x_block_pass rfl ?_)
        repeat (with_reducible first | refine c_seq ?_ | refine c_block ?_ | refine c_skip ?_ | refine x_then ?_ | refine x_block ?_)
        obtain rfl : c = m := by omega
        refine ⟨_, rfl, h6, h13, hS.cast ?_⟩
        rw [tab_congr (f := fun j => ofQ (capF X owed (fun i => decide (i < c) && capS L i) j)) (g := fun j => ofQ (capF X owed (capS L) j)) fun j _ => by
          rw [capF_congr X owed (t := capS L) (fun i hi => by simp [show i < c by omega])]]
    clear hS
    rintro ρ w9 ⟨h6, h13, hS⟩
    repeat (with_reducible first | refine c_seq ?_ | refine c_block ?_ | refine c_skip ?_ | refine x_then ?_ | refine x_block ?_)
    refine c_reg ?_
    refine l_pure rfl (s_move  h13 ?_)
    have hsl : Sl encR 3 _ (.slice (some ⟨bc, 0, none⟩) N N) _ := hS.sle (k := 0) (enc := encR) (n := N) (cap := N) rfl encR_len (by rw [tab_len]; exact Nat.le_refl _) (Nat.le_refl _) (by omega)
    rw [List.take_of_length_le (by rw [tab_len]; exact Nat.le_refl _)] at hsl
    refine l_heavy rfl (s_call Tryz.call43 rfl (least_ok _ (capF X owed (capS L)) N (40 * K + 45) _ hsl (by omega) (fun j _ => L_capF hXB hoB hX8 ho24 _ j) (by omega)) ?_)
    rintro r w6 ⟨rfl, hB6⟩
    have hcq : mins (capF X owed (capS L)) N = capQ X owed (capS L) := by rw [hN2]; rfl
    rw [hcq]
    replace hS := hS.grow hB6
    refine l_heavy rfl (s_sta (k := 3)  h6 rfl vi_39 hS rfl rfl rfl (Nat.le_of_ble_eq_true rfl) rfl ?_)
    intro wz8 hS
    refine l_pure rfl (s_asg  rfl ?_)
    refine l_nil ?_
    repeat (with_reducible first | refine c_seq ?_ | refine c_block ?_ | refine c_skip ?_ | refine x_then ?_ | refine x_block ?_)
    refine c_ret ?_
    repeat (with_reducible first | refine x_then_ret ?_ | refine x_block_ret ?_)
    refine r_cell_tmp (k := 3) rfl h6 rfl vi_39 hS rfl rfl ?_
    exact ⟨rfl, hS.below⟩
  · refine c_yes rfl (decide_eq_true (by omega)) ?_
    repeat (with_reducible first | refine c_seq ?_ | refine c_block ?_ | refine c_skip ?_ | refine x_then ?_ | refine x_block ?_)
    have hne : ¬ checkE X owed = 0 := fun g => h0 (he.trans g)
    have hE : capE X owed L = e := by unfold capE; rw [if_neg hne, he]
    have hR : capR X owed L = zRR := by unfold capR; rw [if_neg (by rw [hE]; exact h0)]
    rw [hE, hR]
    repeat (with_reducible first | refine c_seq ?_ | refine c_block ?_ | refine c_skip ?_ | refine x_then ?_ | refine x_block ?_)
    refine c_reg ?_
    refine l_pure rfl (s_build  rfl bz_39 ?_)
    refine l_pure rfl (s_move  rfl ?_)
    refine l_heavy rfl (s_sta (k := 0)  rfl rfl vi_39 hS rfl rfl rfl (Nat.le_of_ble_eq_true rfl) rfl ?_)
    intro wz9 hS
    refine l_pure rfl (s_asg  rfl ?_)
    refine l_nil ?_
    repeat (with_reducible first | refine c_seq ?_ | refine c_block ?_ | refine c_skip ?_ | refine x_then ?_ | refine x_block ?_)
    refine c_ret ?_
    repeat (with_reducible first | refine x_then_ret ?_ | refine x_block_ret ?_)
    refine r_cell_tmp (k := 0) rfl rfl rfl vi_39 hS rfl rfl ?_
    exact ⟨rfl, hS.below⟩
end Go.Proofs.YtfocimgpahjkmaaGreatDoor
namespace Go.Proofs.YtfocimgpahjkmaaGreatDoor
open Go Go.RowKit Go.Sx

/-- What has been paid to each claim, and what is left of each item. -/
structure GS where
  out : Nat → Rat
  p : Nat → Rat
def pay (owed : List RR) (s : GS) (c i : Nat) : Rat := minQ (owF owed c - s.out c) (s.p i)
def gst (X : List It) (owed : List RR) (s : GS) (c i : Nat) : GS :=
  if secures (X.getD i zIt) c = true then
    ⟨fun k => if k = c then s.out c + pay owed s c i else s.out k, fun k => if k = i then s.p i - pay owed s c i else s.p k⟩
  else s
def grow (X : List It) (owed : List RR) (c : Nat) (s : GS) : Nat → GS
  | 0 => s
  | i + 1 => gst X owed (grow X owed c s i) c i
def gall (X : List It) (owed : List RR) : Nat → GS
  | 0 => ⟨fun _ => 0, prF X⟩
  | c + 1 => grow X owed c (gall X owed c) X.length

/-! ### How long the numbers become -/
def sumN (n : Nat) (f : Nat → Nat) : Nat :=
  match n with
  | 0 => 0
  | n + 1 => sumN n f + f n
theorem sumN_le {n : Nat} {f : Nat → Nat} {i : Nat} (h : i < n) : f i ≤ sumN n f := by
  induction n with
  | zero => omega
  | succ n ih =>
    rw [sumN]
    by_cases e : i = n
    · subst e; omega
    · have := ih (by omega); omega
theorem sumN_congr {n : Nat} {f g : Nat → Nat} (h : ∀ i, i < n → f i = g i) : sumN n f = sumN n g := by
  induction n with
  | zero => rfl
  | succ n ih => rw [sumN, sumN, ih (fun i hi => h i (by omega)), h n (by omega)]
theorem sumN_upd {n : Nat} {f g : Nat → Nat} {i : Nat} (h : i < n) (hg : ∀ k, k < n → k ≠ i → g k = f k) : sumN n g + f i = sumN n f + g i := by
  induction n with
  | zero => omega
  | succ n ih =>
    rw [sumN, sumN]
    by_cases e : i = n
    · subst e
      rw [sumN_congr (g := f) (fun k hk => hg k (by omega) (by omega))]; omega
    · have := ih (by omega) (fun k hk hne => hg k (by omega) hne)
      rw [hg n (by omega) (fun q => e q.symm)]; omega
theorem sumN_bound {n : Nat} {f : Nat → Nat} {B : Nat} (h : ∀ i, i < n → f i ≤ B) : sumN n f ≤ n * B := by
  induction n with
  | zero => simp [sumN]
  | succ n ih =>
    have h1 := ih (fun i hi => h i (by omega))
    have h2 := h n (by omega)
    rw [sumN, Nat.add_mul]; omega
def fee (q : Rat) : Nat := if q = 0 then 0 else L q + 1
theorem fee_le (q : Rat) : fee q ≤ L q + 1 := by unfold fee; split <;> omega
theorem L_fee (q : Rat) : L q ≤ fee q + 1 := by
  unfold fee
  split
  · next h => rw [h, L_zero]; omega
  · omega
theorem fee_sub (a b : Rat) : fee (a - b) ≤ fee a + fee b := by
  by_cases ha : a = 0
  · subst ha
    have : (0 : Rat) - b = -b := by grind
    rw [this]
    unfold fee
    rw [L_neg]
    by_cases hb : b = 0
    · subst hb; simp
    · rw [if_neg (fun g => hb (by grind)), if_neg hb]; omega
  · by_cases hb : b = 0
    · subst hb
      have : a - 0 = a := by grind
      rw [this]; omega
    · have h1 := L_sub a b
      have h2 := fee_le (a - b)
      have h3 : fee a = L a + 1 := if_neg ha
      have h4 : fee b = L b + 1 := if_neg hb
      omega
theorem fee_zero : fee 0 = 0 := if_pos rfl
def debt (owed : List RR) (s : GS) (c : Nat) : Rat := owF owed c - s.out c
def tax (n : Nat) (owed : List RR) (s : GS) : Nat := sumN owed.length (fun c => fee (debt owed s c)) + sumN n (fun i => fee (s.p i))
theorem tax_gst {X : List It} {owed : List RR} {s : GS} {c i : Nat} (hc : c < owed.length) (hi : i < X.length) : tax X.length owed (gst X owed s c i) ≤ tax X.length owed s := by
  unfold gst
  split
  case isFalse => exact Nat.le_refl _
  obtain ⟨x, hx⟩ : ∃ x, x = pay owed s c i := ⟨_, rfl⟩
  rw [← hx]
  have hd : pay owed s c i = minQ (debt owed s c) (s.p i) := rfl
  unfold tax
  have h1 := sumN_upd (n := owed.length) (f := fun k => fee (debt owed s k)) (g := fun k => fee (debt owed ⟨fun k => if k = c then s.out c + x else s.out k, fun k => if k = i then s.p i - x else s.p k⟩ k)) hc (fun k _ hne => by unfold debt; simp only [if_neg hne])
  have h2 := sumN_upd (n := X.length) (f := fun k => fee (s.p k)) (g := fun k => fee (if k = i then s.p i - x else s.p k)) hi (fun k _ hne => by simp only [if_neg hne])
  have e1 : fee (debt owed ⟨fun k => if k = c then s.out c + x else s.out k, fun k => if k = i then s.p i - x else s.p k⟩ c) = fee (debt owed s c - x) := by
    unfold debt
    simp only [if_true]
    congr 1
    grind
  simp only [e1, if_true] at h1 h2
  have h3 : fee (debt owed s c - x) + fee (s.p i - x) ≤ fee (debt owed s c) + fee (s.p i) := by
    rw [hx, hd]
    unfold minQ
    split
    · rw [Rat.sub_self, fee_zero]
      have := fee_sub (s.p i) (debt owed s c); omega
    · rw [Rat.sub_self, fee_zero]
      have := fee_sub (debt owed s c) (s.p i); omega
  show _ + sumN X.length (fun k => fee (if k = i then s.p i - x else s.p k)) ≤ _
  omega
theorem tax_grow {X : List It} {owed : List RR} {s : GS} {c i : Nat} (hc : c < owed.length) (hi : i ≤ X.length) : tax X.length owed (grow X owed c s i) ≤ tax X.length owed s := by
  induction i with
  | zero => exact Nat.le_refl _
  | succ i ih => exact Nat.le_trans (tax_gst hc hi) (ih (by omega))
theorem tax_gall {X : List It} {owed : List RR} {K : Nat} (hX : ItB K X) (ho : RB K owed) (hx8 : X.length ≤ 8) (ho24 : owed.length ≤ 24) {c : Nat} (hc : c ≤ owed.length) : tax X.length owed (gall X owed c) ≤ 40 * K + 40 := by
  induction c with
  | zero =>
    have h1 : sumN owed.length (fun c => fee (debt owed (gall X owed 0) c)) ≤ owed.length * (K + 1) := sumN_bound fun c hcl => by
      have e : debt owed (gall X owed 0) c = owF owed c := by show owF owed c - 0 = _; grind
      have := fee_le (owF owed c)
      have := L_owF ho hcl
      rw [e]; omega
    have h2 : sumN X.length (fun i => fee ((gall X owed 0).p i)) ≤ X.length * (2 * K + 2) := sumN_bound fun i hi => by
      have := fee_le (prF X i)
      have := L_prF hX hi
      show fee (prF X i) ≤ _
      omega
    have h3 : owed.length * (K + 1) ≤ 24 * (K + 1) := Nat.mul_le_mul_right _ ho24
    have h4 : X.length * (2 * K + 2) ≤ 8 * (2 * K + 2) := Nat.mul_le_mul_right _ hx8
    unfold tax
    omega
  | succ c ih => exact Nat.le_trans (tax_grow (by omega) (Nat.le_refl _)) (ih (by omega))
/-- Of any state on the way: what its numbers' lengths are. -/
theorem tax_L {n : Nat} {owed : List RR} {K : Nat} {s : GS} (ho : RB K owed) (ht : tax n owed s ≤ 40 * K + 40) : (∀ c, c < owed.length → L (debt owed s c) ≤ 40 * K + 41 ∧ L (s.out c) ≤ 41 * K + 42) ∧ ∀ i, i < n → L (s.p i) ≤ 40 * K + 41 := by
  unfold tax at ht
  constructor
  · intro c hc
    have h1 := sumN_le (f := fun c => fee (debt owed s c)) hc
    have h2 := L_fee (debt owed s c)
    have h3 := L_owF ho hc
    have e : s.out c = owF owed c - debt owed s c := by unfold debt; grind
    have h4 := L_sub (owF owed c) (debt owed s c)
    rw [e]
    omega
  · intro i hi
    have h1 := sumN_le (f := fun i => fee (s.p i)) hi
    have h2 := L_fee (s.p i)
    omega
end Go.Proofs.YtfocimgpahjkmaaGreatDoor
namespace Go.Sx
open Go Go.RowKit
section
variable {P : Program} {ops : Array Oper} {Kend : Act → World → Prop} {n x : Nat} {ox : Oper}
/-- The operations σ in their order, and x (that makes memory) at any place among them. -/
def allw (P : Program) (ops : Array Oper) (Kend : Act → World → Prop) (n x : Nat) (ox : Oper) : List (Nat × Md) → Act → World → Prop
  | [], a, w => rstep P ops .grow ox a w Kend
  | (y, m) :: σ, a, w => rstep P ops .grow ox a w (wr P ops Kend ((y, m) :: σ)) ∧ (tdep ops n y x = false → match ops[y]? with
    | some oy => rstep P ops m oy a w (allw P ops Kend n x ox σ)
    | none => False)
theorem allw_now {σ : List (Nat × Md)} {a : Act} {w : World} (h : allw P ops Kend n x ox σ a w) : rstep P ops .grow ox a w (wr P ops Kend σ) := by
  cases σ with
  | nil => exact rstep_mono (fun a w h => h) h
  | cons y σ => exact h.1
theorem allw_fold {y : Nat} {m : Md} {oy : Oper} {σ : List (Nat × Md)} {a : Act} {w : World} (hs : noSel ops) (hx : ops[x]? = some ox) (hy : ops[y]? = some oy) (hsw : swapOk ops (y, m) (x, .grow) = true)
    (h : rstep P ops m oy a w (allw P ops Kend n x ox σ)) : allw P ops Kend n x ox ((y, m) :: σ) a w := by
  refine ⟨?_, fun _ => by rw [hy]; exact h⟩
  have h1 : rstep P ops m oy a w (fun a w => rstep P ops .grow ox a w (wr P ops Kend σ)) := rstep_mono (fun a w g => allw_now g) h
  refine rstep_mono (fun a w g => ?_) (rswap hy hx (fun cs b => hs y oy cs b hy) (fun cs b => hs x ox cs b hx) hsw h1)
  simp only [wr, hy]
  exact g
theorem rstep_both {o : Oper} {a : Act} {w : World} {K K' : Act → World → Prop} (h : rstep P ops .pure o a w K) (h' : rstep P ops .pure o a w K') : rstep P ops .pure o a w (fun a w => K a w ∧ K' a w) := by
  by_cases hw : Region.wanted o (yielded ops a.tmps) = true
  · rw [rstep_pure hw] at h h' ⊢
    obtain ⟨v, g1, g2⟩ := h
    obtain ⟨v', g1', g2'⟩ := h'
    have e1 := g1 w
    have e2 := g1' w
    rw [e1] at e2
    obtain rfl : v = v' := by simpa using e2
    exact ⟨v, g1, g2, g2'⟩
  · rw [rstep_off hw] at h h' ⊢
    exact ⟨h, h'⟩
theorem all_front (hs : noSel ops) (hx : ops[x]? = some ox) {i : Nat} {m : Md} {oi : Oper} (hi : ops[i]? = some oi) (hix : tdep ops n i x = false) {post : List (Nat × Md)} :
    ∀ (pre : List (Nat × Md)) (a : Act) (w : World), (∀ y ∈ pre, swapOk ops y (i, m) = true) → (∀ y ∈ pre, (m = .pure ∧ swapOk ops (x, .grow) (i, m) = true) ∨ (tdep ops n y.1 x = false ∧ swapOk ops y (x, .grow) = true)) →
      allw P ops Kend n x ox (pre ++ (i, m) :: post) a w → rstep P ops m oi a w (allw P ops Kend n x ox (pre ++ post))
  | [], a, w, _, _, h => by
    have := h.2 hix
    rw [hi] at this
    exact this
  | (y, my) :: pre, a, w, hp, hf, h => by
    obtain ⟨h1, h2⟩ := h
    have hp' : ∀ z ∈ pre, swapOk ops z (i, m) = true := fun z hz => hp z (List.mem_cons_of_mem _ hz)
    have hf' := fun z hz => hf z (List.mem_cons_of_mem _ hz)
    have hyi := hp (y, my) (List.mem_cons_self ..)
    cases hy : ops[y]? with
    | none =>
      unfold swapOk at hyi
      simp only [hy] at hyi
      cases hyi
    | some oy =>
      have hB : tdep ops n y x = false → rstep P ops m oi a w (fun a w => rstep P ops my oy a w (allw P ops Kend n x ox (pre ++ post))) := fun hd => by
        have g := h2 hd
        rw [hy] at g
        exact rswap hy hi (fun cs b => hs y oy cs b hy) (fun cs b => hs i oi cs b hi) hyi (rstep_mono (fun a w g => all_front hs hx hi hix pre a w hp' hf' g) g)
      rcases hf (y, my) (List.mem_cons_self ..) with ⟨rfl, hsx⟩ | ⟨hd, hsy⟩
      · have hA : rstep P ops .pure oi a w (fun a w => rstep P ops .grow ox a w (wr P ops Kend ((y, my) :: (pre ++ post)))) :=
          rswap hx hi (fun cs b => hs x ox cs b hx) (fun cs b => hs i oi cs b hi) hsx (rstep_mono (fun a w g => wr_front hs hi ((y, my) :: pre) a w hp g) h1)
        by_cases hd : tdep ops n y x = false
        · refine rstep_mono (fun a w g => ?_) (rstep_both hA (hB hd))
          exact ⟨g.1, fun _ => by rw [hy]; exact g.2⟩
        · exact rstep_mono (fun a w g => ⟨g, fun q => absurd q hd⟩) hA
      · exact rstep_mono (fun a w g => allw_fold hs hx hy hsy g) (hB hd)
def floatOk (ops : Array Oper) (n x : Nat) : List (Nat × Md) → Bool
  | [] => true
  | y :: σ => !Nat.beq y.1 x && (σ.all fun i => tdep ops n i.1 x || tdep ops n i.1 y.1 || ((match i.2 with | .pure => true | _ => false) && swapOk ops (x, .grow) i) || (!tdep ops n y.1 x && swapOk ops y (x, .grow))) && floatOk ops n x σ
theorem floatOk_erase {z : Nat × Md} : ∀ {σ τ : List (Nat × Md)}, floatOk ops n x (σ ++ z :: τ) = true → floatOk ops n x (σ ++ τ) = true
  | [], τ, h => by simp only [List.nil_append, floatOk, Bool.and_eq_true] at h ⊢; exact h.2
  | y :: σ, τ, h => by
    simp only [List.cons_append, floatOk, Bool.and_eq_true, List.all_append, List.all_cons] at h ⊢
    exact ⟨⟨h.1.1, h.1.2.1, h.1.2.2.2⟩, floatOk_erase h.2⟩
theorem floatOk_pre {i : Nat} {m : Md} : ∀ {pre post : List (Nat × Md)}, floatOk ops n x (pre ++ (i, m) :: post) = true → ∀ y ∈ pre, y.1 ≠ x ∧ (tdep ops n i x = true ∨ tdep ops n i y.1 = true ∨ (m = .pure ∧ swapOk ops (x, .grow) (i, m) = true) ∨ (tdep ops n y.1 x = false ∧ swapOk ops y (x, .grow) = true))
  | [], _, _, y, hy => by cases hy
  | z :: pre, post, h, y, hy => by
    simp only [List.cons_append, floatOk, Bool.and_eq_true, List.all_append, List.all_cons] at h
    rcases List.mem_cons.1 hy with rfl | hy
    · refine ⟨beq_ne h.1.1, ?_⟩
      have h1 := h.1.2.2.1
      simp only [Bool.or_eq_true, Bool.and_eq_true, Bool.not_eq_true'] at h1
      rcases h1 with ((h1 | h1) | h1) | h1
      · exact .inl h1
      · exact .inr (.inl h1)
      · refine .inr (.inr (.inl ⟨?_, h1.2⟩))
        cases m <;> first | rfl | (exfalso; exact absurd h1.1 (by decide))
      · exact .inr (.inr (.inr h1))
    · exact floatOk_pre h.2 y hy
theorem floatOk_ne : ∀ {σ : List (Nat × Md)}, floatOk ops n x σ = true → ∀ y ∈ σ, y.1 ≠ x
  | [], _, y, hy => by cases hy
  | z :: σ, h, y, hy => by
    simp only [floatOk, Bool.and_eq_true] at h
    rcases List.mem_cons.1 hy with rfl | hy
    · exact beq_ne h.1.1
    · exact floatOk_ne h.2 y hy
theorem wpAny_of_all {Q : Exit → Act → World → Prop} (hs : noSel ops) (hQ : ∀ a w, Kend a w → Q .normal a w) (hx : ops[x]? = some ox) (hxd : ∀ e ∈ ox.after, Region.binds .any e = false) :
    ∀ (fuel : Nat) (σ : List (Nat × Md)) (listed : Array Bool) (a : Act) (w : World), σ.length + 1 ≤ fuel → listed.size = ops.size → closed ops listed →
      (∀ i, listed.getD i true = false ↔ i = x ∨ ∃ m, (i, m) ∈ σ) → pairsOk ops n σ = true → topoOk ops ((x, .grow) :: σ) = true → floatOk ops n x σ = true → allw P ops Kend n x ox σ a w → wpAny P .any ops Q fuel listed a w := by
  intro fuel
  induction fuel with
  | zero => intro σ listed a w hlen; omega
  | succ fuel ih =>
    intro σ listed a w hlen hsz hc hl hp ht hf h
    have hxun : listed.getD x true = false := (hl x).2 (.inl rfl)
    refine ⟨fun hr => ?_, fun i hi => ?_⟩
    · exfalso
      have hxr : x ∈ Region.ready .any ops listed := mem_ready.2 ⟨hxun, ox, hx, fun e he hb => by rw [hxd e he] at hb; cases hb⟩
      rw [hr] at hxr
      cases hxr
    · obtain ⟨hun, oi, hoi, hdeps⟩ := mem_ready.1 hi
      have hilt : i < listed.size := by
        rcases Nat.lt_or_ge i listed.size with h2 | h2
        · exact h2
        · simp [Array.getD, Nat.not_lt.2 h2] at hun
      have hclosed : closed ops (listed.setIfInBounds i true) := by
        intro j o hj hjl e he hb
        by_cases hji : j = i
        · subst hji
          rw [hoi] at hj
          obtain rfl := Option.some.inj hj
          exact getD_set_true (hdeps e he hb)
        · rw [getD_set_ne true (Ne.symm hji)] at hjl
          exact getD_set_true (hc j o hj hjl e he hb)
      have hself : ∀ {p : Prop}, ¬ p → ((listed.setIfInBounds i true).getD i true = false ↔ p) := fun hnp =>
        ⟨fun hf => by simp [Array.getD, hilt] at hf, fun q => absurd q hnp⟩
      have hne := floatOk_ne hf
      by_cases hix : i = x
      · subst hix
        rw [hx] at hoi
        obtain rfl := Option.some.inj hoi
        refine wpOp_of_rstep hx (rstep_mono (fun a w hh => ?_) (allw_now h))
        simp only [topoOk, Bool.and_eq_true] at ht
        refine wpAny_of_wr hs hQ n fuel σ (listed.setIfInBounds i true) a w (by omega) (by simpa using hsz) hclosed ?_ hp ht.2 hh
        intro j
        by_cases hji : j = i
        · subst hji
          exact hself fun ⟨m, hm⟩ => hne _ hm rfl
        · rw [getD_set_ne true (Ne.symm hji), hl j]
          exact ⟨fun q => q.resolve_left hji, .inr⟩
      · obtain ⟨m, hm⟩ := ((hl i).1 hun).resolve_left hix
        obtain ⟨pre, post, rfl⟩ := List.append_of_mem hm
        have hlst : ∀ k, listed.getD k true = false → tdep ops n i k = true → False := fun k hk hd => by
          have h2 := tdep_listed hc n i k (fun o ho e he hb => by rw [hoi] at ho; obtain rfl := Option.some.inj ho; exact hdeps e he hb) hd
          rcases Nat.lt_or_ge k listed.size with hlt | hlt
          · simp only [Array.getD, hlt, dite_true] at h2 hk
            rw [h2] at hk; cases hk
          · simp [Array.getD, Nat.not_lt.2 hlt] at h2
        have hnd : ∀ y ∈ pre, y.1 ≠ i ∧ (tdep ops n i y.1 = true ∨ swapOk ops y (i, m) = true) := by
          clear ih h hl hlen ht hm hlst hf hne
          induction pre with
          | nil => intro y hy; cases hy
          | cons z pre ihp =>
            simp only [List.cons_append, pairsOk, Bool.and_eq_true, List.all_append, List.all_cons] at hp
            intro y hy
            rcases List.mem_cons.1 hy with rfl | hy
            · have h1 := hp.1.2.1
              rw [Bool.or_eq_true] at h1
              exact ⟨beq_ne h1.1, h1.2⟩
            · exact ihp hp.2 y hy
        have hpost : ∀ y ∈ post, i ≠ y.1 := by
          clear ih h hl hlen ht hm hnd hlst hf hne
          induction pre with
          | nil =>
            simp only [List.nil_append, pairsOk, Bool.and_eq_true] at hp
            intro y hy
            have := List.all_eq_true.1 hp.1 y hy
            simp only [Bool.and_eq_true] at this
            exact beq_ne this.1
          | cons z pre ihp =>
            simp only [List.cons_append, pairsOk, Bool.and_eq_true] at hp
            exact ihp hp.2
        have hyun : ∀ y ∈ pre, listed.getD y.1 true = false := fun y hy => (hl y.1).2 (.inr ⟨y.2, by simp [hy]⟩)
        have hsw : ∀ y ∈ pre, swapOk ops y (i, m) = true := fun y hy => (hnd y hy).2.resolve_left fun q => hlst _ (hyun y hy) q
        have hixd : tdep ops n i x = false := by
          cases hd : tdep ops n i x with
          | false => rfl
          | true => exact (hlst x hxun hd).elim
        have hfl : ∀ y ∈ pre, (m = .pure ∧ swapOk ops (x, .grow) (i, m) = true) ∨ (tdep ops n y.1 x = false ∧ swapOk ops y (x, .grow) = true) := fun y hy => by
          rcases (floatOk_pre hf y hy).2 with q | q | q
          · rw [hixd] at q; cases q
          · exact (hlst _ (hyun y hy) q).elim
          · exact q
        refine wpOp_of_rstep hoi (rstep_mono (fun a w hh => ?_) (all_front hs hx hoi hixd pre a w hsw hfl h))
        refine ih (pre ++ post) (listed.setIfInBounds i true) a w (by simp at hlen ⊢; omega) (by simpa using hsz) hclosed ?_ (pairsOk_erase hp) (topoOk_erase (σ := (x, .grow) :: pre) ht) (floatOk_erase hf) hh
        intro j
        by_cases hji : j = i
        · subst hji
          refine hself ?_
          rintro (q | ⟨m', hm'⟩)
          · exact hix q
          · rcases List.mem_append.1 hm' with h1 | h1
            · exact absurd rfl (hnd _ h1).1
            · exact absurd rfl (hpost _ h1)
        · rw [getD_set_ne true (Ne.symm hji), hl j]
          constructor
          · rintro (q | ⟨m', hm'⟩)
            · exact .inl q
            · refine .inr ⟨m', ?_⟩
              rcases List.mem_append.1 hm' with h1 | h1
              · simp [h1]
              · rcases List.mem_cons.1 h1 with h2 | h2
                · exact absurd (congrArg Prod.fst h2) hji
                · simp [h2]
          · rintro (q | ⟨m', hm'⟩)
            · exact .inl q
            · refine .inr ⟨m', ?_⟩
              rcases List.mem_append.1 hm' with h1 | h1
              · simp [h1]
              · simp [h1]
def drawFOk (ops : Array Oper) (x : Nat) (σ : List (Nat × Md)) : Bool :=
  Nat.ble (σ.length + 1) ops.size && (List.range ops.size).all (fun i => Nat.beq x i || σ.any fun x => Nat.beq x.1 i) && σ.all (fun x => Nat.blt x.1 ops.size) && pairsOk ops ops.size σ && topoOk ops ((x, .grow) :: σ) && floatOk ops ops.size x σ &&
  (match ops[x]? with | some o => o.after.all fun e => !Region.binds .any e | none => false) &&
  ops.all fun o => match o.op with | .select .. => false | _ => true
end
/-- A region's walk, x not yet carried out. -/
structure Wx (P : Program) (ops : Array Oper) (Kend : Act → World → Prop) (x : Nat) (σ : List (Nat × Md)) (N : Nat) (ρ : Nat → Value) (w : World) : Prop where
  out : noSel ops → ∀ ox, ops[x]? = some ox → allw P ops Kend ops.size x ox σ (act N ρ) w
section
variable {P : Program} {N : Nat} {ρ : Nat → Value} {w0 w : World} {Q : Exit → Act → World → Prop} {ops : Array Oper} {H : List Blk} {Kend : Act → World → Prop} {i x : Nat} {o : Oper} {σ : List (Nat × Md)}
theorem c_float {id : Nat} {l : List Oper} (x : Nat) (σ : List (Nat × Md)) (hm : P.follows .mixedOrders = true) (hchk : drawFOk l.toArray x σ = true) (hS : St w0 w H)
    (h : ∀ w', St w0 w' H → Below w.heap.size w w' → Wx P l.toArray (Q .normal) x σ N ρ w') : (Code.region id l.toArray true).wp P Q (act N ρ) w := by
  simp only [drawFOk, Bool.and_eq_true] at hchk
  obtain ⟨⟨⟨⟨⟨⟨⟨h1, h2⟩, h3⟩, h4⟩, h5⟩, h7⟩, h8⟩, h6⟩ := hchk
  have hs : noSel l.toArray := by
    intro i o cs b hi hsel
    have := Array.all_eq_true'.1 h6 o (Array.mem_of_getElem? hi)
    rw [hsel] at this
    cases this
  cases hx : l.toArray[x]? with
  | none => rw [hx] at h8; cases h8
  | some ox =>
    rw [hx] at h8
    have hxd : ∀ e ∈ ox.after, Region.binds .any e = false := fun e he => by
      have := Array.all_eq_true'.1 h8 e he
      simpa using this
    have hbd : Below w.heap.size w { w with drawn := w.drawn + 1 } := (Below.refl _ w).drew
    have hxlt : x < l.toArray.size := by
      rcases Nat.lt_or_ge x l.toArray.size with q | q
      · exact q
      · rw [Array.getElem?_eq_none q] at hx; cases hx
    refine wp_region_any hm (wpAny_of_all (n := l.toArray.size) hs (fun _ _ h => h) hx hxd l.toArray.size σ _ _ _ (Nat.le_of_ble_eq_true h1) (by simp) ?_ ?_ h4 h5 h7 ((h _ (hS.grow hbd) hbd).out hs ox hx))
    · intro j o _ hl
      by_cases hj : j < l.toArray.size
      · rw [Array.getD, dif_pos (by simpa using hj)] at hl
        simp at hl
      · rename_i hjo
        rw [Array.getElem?_eq_none (by omega)] at hjo
        cases hjo
    · intro j
      constructor
      · intro hf
        have hj : j < l.toArray.size := by
          rcases Nat.lt_or_ge j l.toArray.size with hlt | hlt
          · exact hlt
          · simp at hlt
            simp [Array.getD, Nat.not_lt.2 hlt] at hf
        have := List.all_eq_true.1 h2 j (by simpa using hj)
        rw [Bool.or_eq_true] at this
        rcases this with q | q
        · exact .inl (Nat.eq_of_beq_eq_true q).symm
        · obtain ⟨y, hy, hb⟩ := List.any_eq_true.1 q
          exact .inr ⟨y.2, by rw [← Nat.eq_of_beq_eq_true hb]; exact hy⟩
      · rintro (rfl | ⟨m, hm'⟩)
        · simp at hxlt
          simp [Array.getD, hxlt]
        · have := List.all_eq_true.1 h3 _ hm'
          rw [Nat.blt_eq] at this
          simp at this
          simp [Array.getD, this]
theorem wx_pure {d : Option Tmp} {p : Op} {ty : TypeId} {pos : String} {aft : Array Edge} {g : Option (Nat × Bool)} (hsw : swapOk ops (i, .pure) (x, .grow) = true) (ho : ops[i]? = some ⟨d, p, ty, pos, aft, g⟩) (hg : gd ops N ρ g = true) (h : Pure1 P N ρ ⟨d, p, ty, pos, aft, g⟩ fun v => Wx P ops Kend x σ N (updo ρ d v) w) : Wx P ops Kend x ((i, .pure) :: σ) N ρ w := by
  refine ⟨fun hs ox hx => allw_fold hs hx ho hsw ?_⟩
  rw [rstep_pure (gd_wanted ops N ρ ⟨d, p, ty, pos, aft, g⟩ hg), act_eval]
  obtain ⟨v, h1, h2⟩ := h
  exact ⟨v, h1, by rw [act_put]; exact h2.out hs ox hx⟩
theorem wx_read {d : Option Tmp} {p : Op} {ty : TypeId} {pos : String} {aft : Array Edge} {g : Option (Nat × Bool)} (hsw : swapOk ops (i, .read) (x, .grow) = true) (ho : ops[i]? = some ⟨d, p, ty, pos, aft, g⟩) (hg : gd ops N ρ g = true) (h : Read1 P N ρ w ⟨d, p, ty, pos, aft, g⟩ fun v => Wx P ops Kend x σ N (updo ρ d v) w) : Wx P ops Kend x ((i, .read) :: σ) N ρ w := by
  refine ⟨fun hs ox hx => allw_fold hs hx ho hsw ?_⟩
  rw [rstep_read (gd_wanted ops N ρ ⟨d, p, ty, pos, aft, g⟩ hg), act_eval]
  obtain ⟨v, h1, h2⟩ := h
  exact ⟨v, h1, by rw [act_put]; exact h2.out hs ox hx⟩
/-- x now, or the next operation (that makes memory) first. -/
theorem wx_fork {d : Option Tmp} {p : Op} {ty : TypeId} {pos : String} {aft : Array Edge} {g : Option (Nat × Bool)} (ho : ops[i]? = some ⟨d, p, ty, pos, aft, g⟩) (hg : gd ops N ρ g = true) (hnow : Wr P ops Kend ((x, .grow) :: (i, .grow) :: σ) N ρ w)
    (h : Hup1 P N ρ w ⟨d, p, ty, pos, aft, g⟩ fun v w' => Below w.heap.size w w' ∧ Wx P ops Kend x σ N (updo ρ d v) w') : Wx P ops Kend x ((i, .grow) :: σ) N ρ w := by
  refine ⟨fun hs ox hx => ⟨?_, fun _ => ?_⟩⟩
  · have := hnow.out
    simp only [wr, hx] at this
    exact this
  · rw [ho]
    show rstep _ _ _ _ _ _ _
    rw [rstep_grow (gd_wanted ops N ρ ⟨d, p, ty, pos, aft, g⟩ hg), act_eval]
    simp only [act_put]
    exact hup_mono (fun v w h => ⟨h.1, h.2.out hs ox hx⟩) h.out
theorem wx_now {m : Md} (hd : tdep ops ops.size i x = true) (hnow : Wr P ops Kend ((x, .grow) :: (i, m) :: σ) N ρ w) : Wx P ops Kend x ((i, m) :: σ) N ρ w := by
  refine ⟨fun hs ox hx => ⟨?_, fun q => by rw [hd] at q; cases q⟩⟩
  have := hnow.out
  simp only [wr, hx] at this
  exact this
theorem wx_end (hnow : Wr P ops Kend [(x, .grow)] N ρ w) : Wx P ops Kend x [] N ρ w := by
  refine ⟨fun hs ox hx => ?_⟩
  have := hnow.out
  simp only [wr, hx] at this
  exact rstep_mono (fun a w h => h) this
end
end Go.Sx
namespace Go.Proofs.YtfocimgpahjkmaaGreatDoor
open Go Go.RowKit Go.Sx

def gL (X : List It) (owed : List RR) : List RR := if checkE X owed = 0 then tab owed.length fun c => ofQ ((gall X owed owed.length).out c) else []
theorem procs_tab (X : List It) : procsR X = tab X.length fun i => ofQ (prF X i) := by
  conv => lhs; rw [tab_of (procsR X) zRR]
  rw [procs_len]
  exact tab_congr fun i hi => procs_get X hi
theorem mask_bit {X : List It} {m c i : Nat} {R : List Nat} (hR : Masks X m X.length 0 R) (hc : c < m) (hi : i < X.length) : (R.getD c 0).testBit i = secures (X.getD i zIt) c := by
  rw [hR.bit c hc i, decide_eq_true hi, List.take_zero, List.any_nil, Bool.and_false, Bool.or_false, Bool.true_and]
theorem mask_and {x i : Nat} : (x &&& 2 ^ i = 0) ↔ x.testBit i = false := by
  constructor
  · intro h
    have := congrArg (fun y => y.testBit i) h
    simpa [Nat.testBit_and, Nat.testBit_two_pow] using this
  · intro h
    refine Nat.eq_of_testBit_eq fun j => ?_
    rw [Nat.testBit_and, Nat.testBit_two_pow, Nat.zero_testBit]
    by_cases e : i = j
    · subst e; rw [h]; rfl
    · rw [decide_eq_false e, Bool.and_false]
theorem gst_out {X : List It} {owed : List RR} {s : GS} {c i n : Nat} (h : secures (X.getD i zIt) c = true) : (tab n fun k => ofQ (s.out k)).set c (ofQ (s.out c + pay owed s c i)) = tab n fun k => ofQ ((gst X owed s c i).out k) := by
  rw [tab_set]
  refine tab_congr fun k _ => ?_
  unfold gst
  rw [if_pos h]
  simp only
  split <;> rfl
theorem gst_p {X : List It} {owed : List RR} {s : GS} {c i n : Nat} (h : secures (X.getD i zIt) c = true) : (tab n fun k => ofQ (s.p k)).set i (ofQ (s.p i - pay owed s c i)) = tab n fun k => ofQ ((gst X owed s c i).p k) := by
  rw [tab_set]
  refine tab_congr fun k _ => ?_
  unfold gst
  rw [if_pos h]
  simp only
  split <;> rfl
theorem gst_no {X : List It} {owed : List RR} {s : GS} {c i : Nat} (h : secures (X.getD i zIt) c = false) : gst X owed s c i = s := by
  unfold gst
  rw [if_neg (by rw [h]; decide)]

set_option maxHeartbeats 2000000 in
theorem Greedy_ok (vi_ vo : Value) (X : List It) (cvs : List Value) (owed : List RR) (K : Nat) (w : World) (hX : Its w vi_ X cvs) (ho : Sl encR 3 w vo owed) (hXB : ItB K X) (hoB : RB K owed) (hK : 100 * K + 100 ≤ MX) :
    Ret Tryz.prog 11 #[vi_, vo] w fun v w' => (∃ vt, v = .tuple #[vt, .int .i64 (checkE X owed)] ∧ Sl encR 3 w' vt (gL X owed)) ∧ Below w.heap.size w w' := by
  have hM : MX = 1099511627776 := rfl
  have hom := ho.maxLen
  have hS := St.init w
  obtain ⟨m, hm⟩ : ∃ m, m = owed.length := ⟨_, rfl⟩
  obtain ⟨n, hn⟩ : ∃ n, n = X.length := ⟨_, rfl⟩
  have hzero : (List.replicate m zRR) = tab m fun k => ofQ ((gall X owed 0).out k) := by
    rw [tab_rep]; exact tab_congr fun i _ => by rw [show (gall X owed 0).out i = 0 from rfl, ofQ_zero]; rfl
  refine enter Tryz.func11 rfl Tryz.ntmps11 rfl ?_
  repeat (with_reducible first | refine c_seq ?_ | refine c_block ?_ | refine c_skip ?_ | refine x_then ?_ | refine x_block ?_)
  refine c_reg ?_
  refine l_pure rfl (s_asg  rfl ?_)
  refine l_pure rfl (s_asg  rfl ?_)
  refine l_nil ?_
  repeat (with_reducible first | refine c_seq ?_ | refine c_block ?_ | refine c_skip ?_ | refine x_then ?_ | refine x_block ?_)
  refine c_reg ?_
  refine l_pure rfl (s_move  rfl ?_)
  refine l_pure rfl (s_move  rfl ?_)
  refine l_heavy rfl (s_call Tryz.call28 rfl (Check_ok vi_ vo X cvs owed _ (hX.below hS.below) (ho.below hS.below) (ItB_mono hXB (by omega)) (RB_mono hoB (by omega))) ?_)
  rintro _ wc1 ⟨rfl, hBc1⟩
  replace hS := hS.grow hBc1
  refine l_pure rfl (s_asg  rfl ?_)
  refine l_nil ?_
  repeat (with_reducible first | refine c_seq ?_ | refine c_block ?_ | refine c_skip ?_ | refine x_then ?_ | refine x_block ?_)
  obtain ⟨e, he⟩ : ∃ e, e = checkE X owed := ⟨_, rfl⟩
  rw [← he]
  repeat (with_reducible first | refine c_seq ?_ | refine c_block ?_ | refine c_skip ?_ | refine x_then ?_ | refine x_block ?_)
  refine c_reg ?_
  refine l_pure rfl (s_move  rfl ?_)
  refine l_pure rfl (s_neq  rfl rfl ?_)
  refine l_nil ?_
  repeat (with_reducible first | refine c_seq ?_ | refine c_block ?_ | refine c_skip ?_ | refine x_then ?_ | refine x_block ?_)
  by_cases h0 : e = 0
  · refine c_no rfl (decide_eq_false (by omega)) ?_
    repeat (with_reducible first | refine c_seq ?_ | refine c_block ?_ | refine c_skip ?_ | refine x_then ?_ | refine x_block ?_)
    have hck := he.symm.trans h0
    obtain ⟨hX8, ho24, hng, hit, hcl⟩ := checkE_zero hck
    repeat (with_reducible first | refine c_seq ?_ | refine c_block ?_ | refine c_skip ?_ | refine x_then ?_ | refine x_block ?_)
    refine c_reg ?_
    refine l_pure rfl (s_move  rfl ?_)
    refine l_pure rfl (s_move  rfl ?_)
    refine l_heavy rfl (s_call Tryz.call29 rfl (build_ok vi_ vo X cvs owed K _ (hX.below hS.below) (ho.below hS.below) hXB hoB (by omega) hX8 ho24 hcl) ?_)
    rintro r w3 ⟨sP, sO, LP, LO, bI, R, rfl, hP, hO, hR, hS3⟩
    replace hS := hS.join hS3
    rw [List.append_nil] at hS
    obtain ⟨aP, cP, hsP⟩ := hP.len
    obtain ⟨aO, cO, hsO⟩ := hO.len
    have hpl := procs_len X
    have hol := owed_len owed
    rw [hpl, ← hn] at hsP
    subst hsP hsO
    rw [procs_tab, ← hn] at hP
    rw [← hm]
    rw [← hm] at hR
    refine l_heavy rfl (s_alloc  vi_68 hS ?_)
    intro b7 wz2 hS hBz2
    refine l_heavy rfl (s_sta (k := 0)  rfl rfl vi_68 hS rfl rfl rfl (Nat.le_of_ble_eq_true rfl) rfl ?_)
    intro wz3 hS
    refine l_nil ?_
    repeat (with_reducible first | refine c_seq ?_ | refine c_block ?_ | refine c_skip ?_ | refine x_then ?_ | refine x_block ?_)
    refine c_reg ?_
    refine l_pure rfl (s_move  rfl ?_)
    refine l_pure rfl (s_lenr  rfl (ho.below hS.below) ⟨_, Tryz.underlying24⟩ ?_)
    refine l_heavy rfl (s_makeE (enc := encR) (n := m) zRR  rfl rfl si_24 rfl (by omega) (by omega) (by omega) (by omega) hS ?_)
    intro b8 wz4 hS hBz4
    refine l_pure rfl (s_asg  rfl ?_)
    refine l_nil ?_
    repeat (with_reducible first | refine c_seq ?_ | refine c_block ?_ | refine c_skip ?_ | refine x_then ?_ | refine x_block ?_)
    rw [← hm]
    rw [hzero] at hS
    replace hS : St w _ ([(b8, 39, (tab m fun k => ofQ ((gall X owed 0).out k)).flatMap encR), (b7, 68, [.slice aP n cP, .slice aO (owedR owed).length cO, .slice (some ⟨bI, 0, none⟩) m m]), (bI, 74, Kr .u64 R)] ++ LO ++ LP) := hS
    repeat (with_reducible first | refine c_seq ?_ | refine c_block ?_ | refine c_skip ?_ | refine x_then ?_ | refine x_block ?_)
    refine c_reg ?_
    refine l_pure rfl (s_move  rfl ?_)
    refine l_pure rfl (s_leno  rfl ⟨_, Tryz.underlying24⟩ ?_)
    refine l_pure rfl (s_move  rfl ?_)
    refine l_nil ?_
    repeat (with_reducible first | refine c_seq ?_ | refine c_block ?_ | refine c_skip ?_ | refine x_then ?_ | refine x_block ?_)
    refine c_loop (σ := Nat) (fun c ρ w' => c ≤ m ∧ ρ 7 = .pointer (some ⟨b7, 0, none⟩) ∧ ρ 8 = .slice (some ⟨b8, 0, none⟩) m m ∧ ρ 25 = .int .i64 m ∧ ρ 26 = .int .i64 c ∧
        ∃ LP, Gl encR 39 3 (.slice aP n cP) (tab n fun k => ofQ ((gall X owed c).p k)) LP ∧
        St w w' ([(b8, 39, (tab m fun k => ofQ ((gall X owed c).out k)).flatMap encR), (b7, 68, [.slice aP n cP, .slice aO (owedR owed).length cO, .slice (some ⟨bI, 0, none⟩) m m]), (bI, 74, Kr .u64 R)] ++ LO ++ LP)) (fun c => m - c) 0
      ⟨Nat.zero_le _, rfl, rfl, rfl, rfl, ⟨_, hP, hS⟩⟩ ?_
    clear hS hP
    rintro c ρ w4 ⟨hc, h7, h8, h25, h26, LP, hP, hS⟩
    repeat (with_reducible first | refine c_seq ?_ | refine c_block ?_ | refine c_skip ?_ | refine x_then ?_ | refine x_block ?_)
    refine c_reg ?_
    refine l_pure rfl (s_lss  h26 h25 ?_)
    refine l_nil ?_
    repeat (with_reducible first | refine c_seq ?_ | refine c_block ?_ | refine c_skip ?_ | refine x_then ?_ | refine x_block ?_)
    by_cases hlt : c < m
    · refine c_yes rfl (decide_eq_true (by omega)) ?_
      repeat (with_reducible first | refine c_seq ?_ | refine c_block ?_ | refine c_skip ?_ | refine x_then ?_ | refine x_block ?_)
      have hcl2 : c < owed.length := by omega
      have hRl := hR.len
      repeat (with_reducible first | refine c_seq ?_ | refine c_block ?_ | refine c_skip ?_ | refine x_then ?_ | refine x_block ?_)
      refine c_reg ?_
      refine l_pure rfl (s_move  h26 ?_)
      refine l_pure rfl (s_asg  rfl ?_)
      refine l_nil ?_
      repeat (with_reducible first | refine c_seq ?_ | refine c_block ?_ | refine c_skip ?_ | refine x_then ?_ | refine x_block ?_)
      refine c_reg ?_
      refine l_pure rfl (s_fld  h7 fo_68_0 ?_)
      refine l_read rfl (s_ldo (k := 1)  rfl vi_24 hS rfl rfl rfl (.inr rfl) ?_)
      refine l_pure rfl (s_lenr  rfl (hP.sl hS encR_len) ⟨_, Tryz.underlying24⟩ ?_)
      refine l_pure rfl (s_move  rfl ?_)
      refine l_nil ?_
      repeat (with_reducible first | refine c_seq ?_ | refine c_skip ?_ | refine x_then ?_ | refine x_block ?_)
      rw [tab_len]
      refine c_cut1 (fun ρ w' => ρ 7 = .pointer (some ⟨b7, 0, none⟩) ∧ ρ 8 = .slice (some ⟨b8, 0, none⟩) m m ∧ ρ 25 = .int .i64 m ∧ ρ 26 = .int .i64 c ∧
        ∃ LP, Gl encR 39 3 (.slice aP n cP) (tab n fun k => ofQ ((gall X owed (c + 1)).p k)) LP ∧
        St w w' ([(b8, 39, (tab m fun k => ofQ ((gall X owed (c + 1)).out k)).flatMap encR), (b7, 68, [.slice aP n cP, .slice aO (owedR owed).length cO, .slice (some ⟨bI, 0, none⟩) m m]), (bI, 74, Kr .u64 R)] ++ LO ++ LP)) ?_ ?_
      · repeat (with_reducible first | refine c_seq ?_ | refine c_block ?_ | refine c_skip ?_ | refine x_then ?_ | refine x_block ?_)
        refine c_loop (σ := Nat) (fun i ρ w' => i ≤ n ∧ ρ 7 = .pointer (some ⟨b7, 0, none⟩) ∧ ρ 8 = .slice (some ⟨b8, 0, none⟩) m m ∧ ρ 25 = .int .i64 m ∧ ρ 26 = .int .i64 c ∧ ρ 9 = .int .i64 c ∧ ρ 31 = .int .i64 n ∧ ρ 32 = .int .i64 i ∧
            ∃ s LP, s = grow X owed c (gall X owed c) i ∧ Gl encR 39 3 (.slice aP n cP) (tab n fun k => ofQ (s.p k)) LP ∧
            St w w' ([(b8, 39, (tab m fun k => ofQ (s.out k)).flatMap encR), (b7, 68, [.slice aP n cP, .slice aO (owedR owed).length cO, .slice (some ⟨bI, 0, none⟩) m m]), (bI, 74, Kr .u64 R)] ++ LO ++ LP)) (fun i => n - i) 0
          ⟨Nat.zero_le _, h7, h8, h25, h26, rfl, rfl, rfl, ⟨_, _, rfl, hP, hS⟩⟩ ?_
        clear hS hP h7 h8 h25 h26
        rintro i ρ w5 ⟨hi, h7, h8, h25, h26, h9, h31, h32, s, LP, hs, hP, hS⟩
        have htl := tab_len m fun k => ofQ (s.out k)
        have htn := tab_len n fun k => ofQ (s.p k)
        repeat (with_reducible first | refine c_seq ?_ | refine c_block ?_ | refine c_skip ?_ | refine x_then ?_ | refine x_block ?_)
        refine c_reg ?_
        refine l_pure rfl (s_lss  h32 h31 ?_)
        refine l_nil ?_
        repeat (with_reducible first | refine c_seq ?_ | refine c_block ?_ | refine c_skip ?_ | refine x_then ?_ | refine x_block ?_)
        by_cases hli : i < n
        · refine c_yes rfl (decide_eq_true (by omega)) ?_
          repeat (with_reducible first | refine c_seq ?_ | refine c_block ?_ | refine c_skip ?_ | refine x_then ?_ | refine x_block ?_)
          have hiX : i < X.length := by omega
          have hbit := mask_bit hR hlt hiX
          have hRlt := hR.lt c hlt
          have hp2 : 2 ^ i < 256 := Nat.lt_of_lt_of_le (Nat.pow_lt_pow_right (by decide) (show i < 8 by omega)) (by decide)
          have htax : tax X.length owed s ≤ 40 * K + 40 := by rw [hs]; exact Nat.le_trans (tax_grow hcl2 (by omega)) (tax_gall hXB hoB hX8 ho24 (by omega))
          obtain ⟨hb1, hb2⟩ := tax_L hoB htax
          repeat (with_reducible first | refine c_seq ?_ | refine c_block ?_ | refine c_skip ?_ | refine x_then ?_ | refine x_block ?_)
          refine c_reg ?_
          refine l_pure rfl (s_move  h32 ?_)
          refine l_pure rfl (s_asg  rfl ?_)
          refine l_nil ?_
          repeat (with_reducible first | refine c_seq ?_ | refine c_block ?_ | refine c_skip ?_ | refine x_then ?_ | refine x_block ?_)
          refine c_draw [(0, .pure), (1, .read), (2, .pure), (3, .pure), (4, .read), (5, .pure), (6, .pure), (7, .pure), (8, .pure)] (by kernel_rfl) (by kernel_rfl) hS ?_
          intro wz5 hS hBz5
          refine w_pure rfl rfl (s_fld  h7 fo_68_2 ?_)
          refine w_read rfl rfl (s_ldo (k := 1)  rfl vi_66 hS rfl rfl rfl (.inr rfl) ?_)
          refine w_pure rfl rfl (s_move  h9 ?_)
          refine w_pure rfl rfl (s_ixo (i := c)  rfl rfl (by omega) (by first | omega | (simp; done) | (simp; omega)) si_66 ?_)
          refine w_read rfl rfl (s_ldk (k := 2) (i := c)  rfl vi_74 hS rfl (by omega) (by first | omega | (simp; done) | (simp; omega)) ?_)
          refine w_pure rfl rfl (s_move  rfl ?_)
          refine w_pure rfl rfl (s_shl  rfl rfl (by omega) (shl_v 1 i ((2 ^ i : Nat) : Int) (by show i ≤ 64; omega) (wr_u64 _ ⟨by rw [Nat.one_mul], Int.natCast_nonneg _, by omega⟩)) ?_)
          refine w_pure rfl rfl (s_and  rfl rfl (r := ((R.getD c 0 &&& 2 ^ i : Nat) : Int)) (by exact and_nat rfl _ _ (by show _ < 18446744073709551616; omega) (by show _ < 18446744073709551616; omega)) ?_)
          refine w_pure rfl rfl (s_eql  rfl rfl ?_)
          refine w_end ?_
          repeat (with_reducible first | refine c_seq ?_ | refine c_block ?_ | refine c_skip ?_ | refine x_then ?_ | refine x_block ?_)
          by_cases hsec : secures (X.getD i zIt) c = true
          · have hne : ¬ R.getD c 0 &&& 2 ^ i = 0 := fun g => by rw [mask_and, hbit, hsec] at g; cases g
            refine c_no rfl (decide_eq_false (by omega)) ?_
            repeat (with_reducible first | refine c_seq ?_ | refine c_block ?_ | refine c_skip ?_ | refine x_then ?_ | refine x_block ?_)
            have hgo : (tab m fun k => ofQ (s.out k)).getD c zRR = ofQ (s.out c) := tab_get _ _ hlt
            have hgw : (owedR owed).getD c zRR = ofQ (owF owed c) := owed_get owed hcl2
            have hgp : (tab n fun k => ofQ (s.p k)).getD i zRR = ofQ (s.p i) := tab_get _ _ hli
            have hLo := hb1 c hcl2
            have hLp := hb2 i hiX
            have hLw := L_owF hoB hcl2
            have hLx := L_min (debt owed s c) (s.p i)
            have hde : toQ ((owedR owed).getD c zRR) - toQ ((tab m fun k => ofQ (s.out k)).getD c zRR) = debt owed s c := by rw [hgw, hgo, toQ_ofQ, toQ_ofQ]; rfl
            refine c_cut1 (fun ρ w' => ρ 7 = .pointer (some ⟨b7, 0, none⟩) ∧ ρ 8 = .slice (some ⟨b8, 0, none⟩) m m ∧ ρ 25 = .int .i64 m ∧ ρ 26 = .int .i64 c ∧ ρ 9 = .int .i64 c ∧ ρ 10 = .int .i64 i ∧ ρ 31 = .int .i64 n ∧ ρ 32 = .int .i64 i ∧ ∃ b11, ρ 11 = .pointer (some ⟨b11, 0, none⟩) ∧
              St w w' ([(b11, 39, encR (ofQ (pay owed s c i))), (b8, 39, (tab m fun k => ofQ (s.out k)).flatMap encR), (b7, 68, [.slice aP n cP, .slice aO (owedR owed).length cO, .slice (some ⟨bI, 0, none⟩) m m]), (bI, 74, Kr .u64 R)] ++ LO ++ LP)) ?_ ?_
            · repeat (with_reducible first | refine c_seq ?_ | refine c_block ?_ | refine c_skip ?_ | refine x_then ?_ | refine x_block ?_)
              refine c_float 16 [(0, .pure), (1, .read), (2, .pure), (3, .pure), (4, .read), (5, .pure), (6, .pure), (7, .pure), (8, .read), (10, .pure), (11, .read), (12, .pure), (13, .pure), (14, .read), (9, .grow), (15, .grow), (17, .free)] (by kernel_rfl) (by kernel_rfl) hS ?_
              intro wz6 hS hBz6
              refine wx_pure (by kernel_rfl) rfl rfl (s_fld  h7 fo_68_1 ?_)
              refine wx_read (by kernel_rfl) rfl rfl (s_ldo (k := 1)  rfl vi_24 hS rfl rfl rfl (.inr rfl) ?_)
              refine wx_pure (by kernel_rfl) rfl rfl (s_move  h9 ?_)
              refine wx_pure (by kernel_rfl) rfl rfl (s_ixr (i := c)  rfl rfl (hO.sl (hS.drop (List.sublist_append_left _ _)) encR_len) (by omega) (by first | omega | (simp; done) | (simp; omega)) si_24 ?_)
              refine wx_read (by kernel_rfl) rfl rfl (s_lde (i := c) zRR  rfl vi_39 (hO.sl (hS.drop (List.sublist_append_left _ _)) encR_len) (by first | omega | (simp; done) | (simp; omega)) rfl rfl (.inl rfl) ?_)
              refine wx_pure (by kernel_rfl) rfl rfl (s_move  h8 ?_)
              refine wx_pure (by kernel_rfl) rfl rfl (s_move  h9 ?_)
              refine wx_pure (by kernel_rfl) rfl rfl (s_ixo (i := c)  rfl rfl (by omega) (by first | omega | (simp; done) | (simp; omega)) si_24 ?_)
              refine wx_read (by kernel_rfl) rfl rfl (s_ldE (k := 0) (i := c) (enc := encR) zRR (fun _ => rfl)  rfl vi_39 hS rfl (by first | omega | simp) (by first | omega | (simp; done) | (simp; omega)) rfl (.inl rfl) ?_)
              refine wx_pure (by kernel_rfl) rfl rfl (s_fld  h7 fo_68_0 ?_)
              refine wx_read (by kernel_rfl) rfl rfl (s_ldo (k := 1)  rfl vi_24 hS rfl rfl rfl (.inr rfl) ?_)
              refine wx_pure (by kernel_rfl) rfl rfl (s_move  rfl ?_)
              refine wx_pure (by kernel_rfl) rfl rfl (s_ixr (i := i)  rfl rfl (hP.sl hS encR_len) (by omega) (by first | omega | (simp; done) | (simp; omega)) si_24 ?_)
              refine wx_read (by kernel_rfl) rfl rfl (s_lde (i := i) zRR  rfl vi_39 (hP.sl hS encR_len) (by first | omega | (simp; done) | (simp; omega)) rfl rfl (.inl rfl) ?_)
              refine wx_fork rfl rfl ?_ ?_
              · refine w_grow rfl rfl (s_alloc  vi_39 hS ?_)
                intro b11 wz7 hS hBz7
                refine ⟨hBz7, ?_⟩
                refine w_grow rfl rfl (s_call Tryz.call35 rfl (QSubtract_ok ((owedR owed).getD c zRR) ((tab m fun k => ofQ (s.out k)).getD c zRR) _ (by rw [hgw, hgo, Lr_ofQ, Lr_ofQ]; omega)) ?_)
                rintro r w6 ⟨rfl, hB6⟩
                refine ⟨hB6, ?_⟩
                rw [hde]
                replace hS := hS.grow hB6
                refine w_grow rfl rfl (s_call Tryz.call34 rfl (QMin_ok (ofQ (debt owed s c)) ((tab n fun k => ofQ (s.p k)).getD i zRR) _ (by rw [hgp, Lr_ofQ, Lr_ofQ]; omega)) ?_)
                rintro r w7 ⟨rfl, hB7⟩
                refine ⟨hB7, ?_⟩
                replace hS := hS.grow hB7
                rw [toQ_ofQ, hgp, toQ_ofQ]
                refine w_free rfl rfl (s_sta (k := 0)  rfl rfl vi_39 hS rfl rfl rfl (Nat.le_of_ble_eq_true rfl) rfl ?_)
                intro wz8 hS
                refine w_end ?_
                repeat (with_reducible first | refine c_seq ?_ | refine c_block ?_ | refine c_skip ?_ | refine x_then ?_ | refine x_block ?_)
                replace hS : St w _ ([(b11, 39, encR (ofQ (pay owed s c i))), (b8, 39, (tab m fun k => ofQ (s.out k)).flatMap encR), (b7, 68, [.slice aP n cP, .slice aO (owedR owed).length cO, .slice (some ⟨bI, 0, none⟩) m m]), (bI, 74, Kr .u64 R)] ++ LO ++ LP) := hS
                exact ⟨_, rfl, h7, h8, h25, h26, h9, rfl, h31, h32, b11, rfl, hS⟩
              · refine s_call Tryz.call35 rfl (QSubtract_ok ((owedR owed).getD c zRR) ((tab m fun k => ofQ (s.out k)).getD c zRR) _ (by rw [hgw, hgo, Lr_ofQ, Lr_ofQ]; omega)) ?_
                rintro r w6 ⟨rfl, hB6⟩
                refine ⟨hB6, ?_⟩
                rw [hde]
                replace hS := hS.grow hB6
                refine wx_fork rfl rfl ?_ ?_
                · refine w_grow rfl rfl (s_alloc  vi_39 hS ?_)
                  intro b11 wz9 hS hBz9
                  refine ⟨hBz9, ?_⟩
                  refine w_grow rfl rfl (s_call Tryz.call34 rfl (QMin_ok (ofQ (debt owed s c)) ((tab n fun k => ofQ (s.p k)).getD i zRR) _ (by rw [hgp, Lr_ofQ, Lr_ofQ]; omega)) ?_)
                  rintro r w7 ⟨rfl, hB7⟩
                  refine ⟨hB7, ?_⟩
                  replace hS := hS.grow hB7
                  rw [toQ_ofQ, hgp, toQ_ofQ]
                  refine w_free rfl rfl (s_sta (k := 0)  rfl rfl vi_39 hS rfl rfl rfl (Nat.le_of_ble_eq_true rfl) rfl ?_)
                  intro wz10 hS
                  refine w_end ?_
                  repeat (with_reducible first | refine c_seq ?_ | refine c_block ?_ | refine c_skip ?_ | refine x_then ?_ | refine x_block ?_)
                  replace hS : St w _ ([(b11, 39, encR (ofQ (pay owed s c i))), (b8, 39, (tab m fun k => ofQ (s.out k)).flatMap encR), (b7, 68, [.slice aP n cP, .slice aO (owedR owed).length cO, .slice (some ⟨bI, 0, none⟩) m m]), (bI, 74, Kr .u64 R)] ++ LO ++ LP) := hS
                  exact ⟨_, rfl, h7, h8, h25, h26, h9, rfl, h31, h32, b11, rfl, hS⟩
                · refine s_call Tryz.call34 rfl (QMin_ok (ofQ (debt owed s c)) ((tab n fun k => ofQ (s.p k)).getD i zRR) _ (by rw [hgp, Lr_ofQ, Lr_ofQ]; omega)) ?_
                  rintro r w7 ⟨rfl, hB7⟩
                  refine ⟨hB7, ?_⟩
                  replace hS := hS.grow hB7
                  rw [toQ_ofQ, hgp, toQ_ofQ]
                  refine wx_now (by kernel_rfl) ?_
                  refine w_grow rfl rfl (s_alloc  vi_39 hS ?_)
                  intro b11 wz11 hS hBz11
                  refine ⟨hBz11, ?_⟩
                  refine w_free rfl rfl (s_sta (k := 0)  rfl rfl vi_39 hS rfl rfl rfl (Nat.le_of_ble_eq_true rfl) rfl ?_)
                  intro wz12 hS
                  refine w_end ?_
                  repeat (with_reducible first | refine c_seq ?_ | refine c_block ?_ | refine c_skip ?_ | refine x_then ?_ | refine x_block ?_)
                  replace hS : St w _ ([(b11, 39, encR (ofQ (pay owed s c i))), (b8, 39, (tab m fun k => ofQ (s.out k)).flatMap encR), (b7, 68, [.slice aP n cP, .slice aO (owedR owed).length cO, .slice (some ⟨bI, 0, none⟩) m m]), (bI, 74, Kr .u64 R)] ++ LO ++ LP) := hS
                  exact ⟨_, rfl, h7, h8, h25, h26, h9, rfl, h31, h32, b11, rfl, hS⟩
            clear hS h7 h8 h25 h26 h9 h31 h32
            rintro ρ w7 ⟨h7, h8, h25, h26, h9, h10, h31, h32, b11, h11, hS⟩
            repeat (with_reducible first | refine c_seq ?_ | refine c_block ?_ | refine c_skip ?_ | refine x_then ?_ | refine x_block ?_)
            refine c_draw [(0, .pure), (1, .pure), (2, .pure), (3, .pure), (4, .pure), (5, .read), (6, .read), (7, .grow), (8, .pure), (9, .free)] (by kernel_rfl) (by kernel_rfl) hS ?_
            intro wz13 hS hBz13
            refine w_pure rfl rfl (s_move  h8 ?_)
            refine w_pure rfl rfl (s_move  h9 ?_)
            refine w_pure rfl rfl (s_move  h8 ?_)
            refine w_pure rfl rfl (s_move  h9 ?_)
            refine w_pure rfl rfl (s_ixo (i := c)  rfl rfl (by omega) (by first | omega | (simp; done) | (simp; omega)) si_24 ?_)
            refine w_read rfl rfl (s_ldE (k := 1) (i := c) (enc := encR) zRR (fun _ => rfl)  rfl vi_39 hS rfl (by first | omega | simp) (by first | omega | (simp; done) | (simp; omega)) rfl (.inl rfl) ?_)
            refine w_read rfl rfl (s_ldo (k := 0)  h11 vi_39 hS rfl rfl rfl (.inl rfl) ?_)
            refine w_grow rfl rfl (s_call Tryz.call24 rfl (QAdd_ok ((tab m fun k => ofQ (s.out k)).getD c zRR) (ofQ (pay owed s c i)) _ (by rw [hgo, Lr_ofQ, Lr_ofQ]; unfold pay; unfold debt at *; omega)) ?_)
            rintro r w8 ⟨rfl, hB8⟩
            refine ⟨hB8, ?_⟩
            replace hS := hS.grow hB8
            rw [hgo, toQ_ofQ, toQ_ofQ]
            refine w_pure rfl rfl (s_ixo (i := c)  rfl rfl (by omega) (by first | omega | (simp; done) | (simp; omega)) si_24 ?_)
            refine w_free rfl rfl (s_stE (k := 1) (i := c) (enc := encR) (ofQ (s.out c + pay owed s c i)) (fun _ => rfl)  rfl rfl vi_39 hS rfl (by first | omega | simp) (by first | omega | (simp; done) | (simp; omega)) rfl rfl ?_)
            intro wz14 hS
            refine w_end ?_
            repeat (with_reducible first | refine c_seq ?_ | refine c_block ?_ | refine c_skip ?_ | refine x_then ?_ | refine x_block ?_)
            replace hS : St w _ ([(b11, 39, encR (ofQ (pay owed s c i))), (b8, 39, ((tab m fun k => ofQ (s.out k)).set c (ofQ (s.out c + pay owed s c i))).flatMap encR), (b7, 68, [.slice aP n cP, .slice aO (owedR owed).length cO, .slice (some ⟨bI, 0, none⟩) m m]), (bI, 74, Kr .u64 R)] ++ LO ++ LP) := hS
            rw [gst_out hsec] at hS
            repeat (with_reducible first | refine c_seq ?_ | refine c_block ?_ | refine c_skip ?_ | refine x_then ?_ | refine x_block ?_)
            refine c_draw [(0, .pure), (1, .read), (2, .pure), (3, .pure), (4, .read), (5, .pure), (6, .pure), (7, .read), (8, .read), (9, .grow), (10, .pure), (11, .free)] (by kernel_rfl) (by kernel_rfl) hS ?_
            intro wz15 hS hBz15
            refine w_pure rfl rfl (s_fld  h7 fo_68_0 ?_)
            refine w_read rfl rfl (s_ldo (k := 2)  rfl vi_24 hS rfl rfl rfl (.inr rfl) ?_)
            refine w_pure rfl rfl (s_move  h10 ?_)
            refine w_pure rfl rfl (s_fld  h7 fo_68_0 ?_)
            refine w_read rfl rfl (s_ldo (k := 2)  rfl vi_24 hS rfl rfl rfl (.inr rfl) ?_)
            refine w_pure rfl rfl (s_move  h10 ?_)
            refine w_pure rfl rfl (s_ixr (i := i)  rfl rfl (hP.sl hS encR_len) (by omega) (by first | omega | (simp; done) | (simp; omega)) si_24 ?_)
            refine w_read rfl rfl (s_lde (i := i) zRR  rfl vi_39 (hP.sl hS encR_len) (by first | omega | (simp; done) | (simp; omega)) rfl rfl (.inl rfl) ?_)
            refine w_read rfl rfl (s_ldo (k := 0)  h11 vi_39 hS rfl rfl rfl (.inl rfl) ?_)
            refine w_grow rfl rfl (s_call Tryz.call35 rfl (QSubtract_ok ((tab n fun k => ofQ (s.p k)).getD i zRR) (ofQ (pay owed s c i)) _ (by rw [hgp, Lr_ofQ, Lr_ofQ]; unfold pay; unfold debt at *; omega)) ?_)
            rintro r w9 ⟨rfl, hB9⟩
            refine ⟨hB9, ?_⟩
            replace hS := hS.grow hB9
            rw [hgp, toQ_ofQ, toQ_ofQ]
            refine w_pure rfl rfl (s_ixr (i := i)  rfl rfl (hP.sl hS encR_len) (by omega) (by first | omega | (simp; done) | (simp; omega)) si_24 ?_)
            refine w_free rfl rfl (s_stG (i := i) (ofQ (s.p i - pay owed s c i)) encR_len  rfl rfl vi_39 hP hS (by omega) rfl rfl ?_)
            intro wz16 hS
            refine w_end ?_
            repeat (with_reducible first | refine c_seq ?_ | refine c_block ?_ | refine c_skip ?_ | refine x_then ?_ | refine x_block ?_)
            obtain ⟨LP2, hP, hS⟩ := hS
            rw [gst_p hsec] at hP
            repeat (with_reducible first | refine c_seq ?_ | refine c_block ?_ | refine c_skip ?_ | refine x_then ?_ | refine x_block ?_)
            refine c_reg ?_
            refine l_pure rfl (s_add  h32 rfl (IntWalk.i64_in _ (by omega)) ?_)
            refine l_pure rfl (s_move  rfl ?_)
            refine l_nil ?_
            repeat (with_reducible first | refine c_seq ?_ | refine c_block ?_ | refine c_skip ?_ | refine x_then ?_ | refine x_block ?_)
            have hg : grow X owed c (gall X owed c) (i + 1) = gst X owed s c i := by
              show gst X owed (grow X owed c (gall X owed c) i) c i = _
              rw [← hs]
            exact ⟨i + 1, _, rfl, ⟨hli, h7, h8, h25, h26, h9, h31, vi rfl (by omega), ⟨_, LP2, hg.symm, hP, hS.drop (List.sublist_cons_self _ _)⟩⟩, by omega⟩
          · have hse : secures (X.getD i zIt) c = false := Bool.eq_false_iff.2 hsec
            have hne : R.getD c 0 &&& 2 ^ i = 0 := by rw [mask_and, hbit, hse]
            refine c_yes rfl (decide_eq_true (by omega)) ?_
            repeat (with_reducible first | refine c_seq ?_ | refine c_block ?_ | refine c_skip ?_ | refine x_then ?_ | refine x_block ?_)
            refine c_exit ?_
            repeat (with_reducible first | refine x_then_exit ?_ | refine x_block_exit ?_ | refine x_block_pass rfl ?_)
            repeat (with_reducible first | refine c_seq ?_ | refine c_block ?_ | refine c_skip ?_ | refine x_then ?_ | refine x_block ?_)
            refine c_reg ?_
            refine l_pure rfl (s_add  h32 rfl (IntWalk.i64_in _ (by omega)) ?_)
            refine l_pure rfl (s_move  rfl ?_)
            refine l_nil ?_
            repeat (with_reducible first | refine c_seq ?_ | refine c_block ?_ | refine c_skip ?_ | refine x_then ?_ | refine x_block ?_)
            have hg : grow X owed c (gall X owed c) (i + 1) = s := by
              show gst X owed (grow X owed c (gall X owed c) i) c i = s
              rw [← hs]; exact gst_no hse
            exact ⟨i + 1, _, rfl, ⟨hli, h7, h8, h25, h26, h9, h31, vi rfl (by omega), ⟨s, LP, hg.symm, hP, hS⟩⟩, by omega⟩
        · refine c_no rfl (decide_eq_false (by omega)) ?_
          repeat (with_reducible first | refine c_seq ?_ | refine c_block ?_ | refine c_skip ?_ | refine x_then ?_ | refine x_block ?_)
          refine c_exit ?_
          repeat (with_reducible first | refine x_then_exit ?_ | refine x_block_exit ?_ | refine x_block_pass rfl ?_)
          repeat (with_reducible first | refine c_seq ?_ | refine c_block ?_ | refine c_skip ?_ | refine x_then ?_ | refine x_block ?_)
          obtain rfl : i = n := by omega
          have hg : gall X owed (c + 1) = s := by
            show grow X owed c (gall X owed c) X.length = s
            rw [hs, ← hn]
          rw [← hg] at hP hS
          exact ⟨_, rfl, h7, h8, h25, h26, ⟨LP, hP, hS⟩⟩
      clear hS hP
      rintro ρ w5 ⟨h7, h8, h25, h26, LP, hP, hS⟩
      repeat (with_reducible first | refine c_seq ?_ | refine c_block ?_ | refine c_skip ?_ | refine x_then ?_ | refine x_block ?_)
      refine c_reg ?_
      refine l_pure rfl (s_add  h26 rfl (IntWalk.i64_in _ (by omega)) ?_)
      refine l_pure rfl (s_move  rfl ?_)
      refine l_nil ?_
      repeat (with_reducible first | refine c_seq ?_ | refine c_block ?_ | refine c_skip ?_ | refine x_then ?_ | refine x_block ?_)
      exact ⟨c + 1, _, rfl, ⟨hlt, h7, h8, h25, vi rfl (by omega), ⟨LP, hP, hS⟩⟩, by omega⟩
    · refine c_no rfl (decide_eq_false (by omega)) ?_
      repeat (with_reducible first | refine c_seq ?_ | refine c_block ?_ | refine c_skip ?_ | refine x_then ?_ | refine x_block ?_)
      refine c_exit ?_
      repeat (with_reducible first | refine x_then_exit ?_ | refine x_block_exit ?_ | refine x_block_pass rfl ?_)
      repeat (with_reducible first | refine c_seq ?_ | refine c_block ?_ | refine c_skip ?_ | refine x_then ?_ | refine x_block ?_)
      obtain rfl : c = m := by omega
      repeat (with_reducible first | refine c_seq ?_ | refine c_block ?_ | refine c_skip ?_ | refine x_then ?_ | refine x_block ?_)
      refine c_reg ?_
      refine l_pure rfl (s_move  h8 ?_)
      refine l_pure rfl (s_asg  rfl ?_)
      refine l_pure rfl (s_asg  rfl ?_)
      refine l_nil ?_
      repeat (with_reducible first | refine c_seq ?_ | refine c_block ?_ | refine c_skip ?_ | refine x_then ?_ | refine x_block ?_)
      refine c_ret ?_
      repeat (with_reducible first | refine x_then_ret ?_ | refine x_block_ret ?_)
      refine r_two rfl rfl rfl ?_
      have hsl := hS.sle (k := 0) (enc := encR) (n := c) (cap := c) rfl encR_len (by rw [tab_len]; exact Nat.le_refl _) (Nat.le_refl _) (by omega)
      rw [List.take_of_length_le (by rw [tab_len]; exact Nat.le_refl _)] at hsl
      refine ⟨⟨_, by rw [h0]; rfl, ?_⟩, hS.below⟩
      have ht : gL X owed = tab c fun k => ofQ ((gall X owed c).out k) := by rw [hm]; exact if_pos hck
      rw [ht]
      exact hsl
  · refine c_yes rfl (decide_eq_true (by omega)) ?_
    repeat (with_reducible first | refine c_seq ?_ | refine c_block ?_ | refine c_skip ?_ | refine x_then ?_ | refine x_block ?_)
    refine c_reg ?_
    refine l_pure rfl (s_move  rfl ?_)
    refine l_pure rfl (s_asg  rfl ?_)
    refine l_pure rfl (s_asg  rfl ?_)
    refine l_nil ?_
    repeat (with_reducible first | refine c_seq ?_ | refine c_block ?_ | refine c_skip ?_ | refine x_then ?_ | refine x_block ?_)
    refine c_ret ?_
    repeat (with_reducible first | refine x_then_ret ?_ | refine x_block_ret ?_)
    refine r_two rfl rfl rfl ?_
    refine ⟨⟨_, rfl, ?_⟩, hS.below⟩
    have ht : gL X owed = [] := if_neg fun g => h0 (he.trans g)
    rw [ht]
    exact Sl.nil _ _ _
end Go.Proofs.YtfocimgpahjkmaaGreatDoor
namespace Go.Proofs.YtfocimgpahjkmaaGreatDoor
open Go Go.RowKit Go.Sx

theorem its_item {w : World} {v : Value} {X : List It} {cvs : List Value} (hX : Its w v X cvs) {i : Nat} (hi : i < X.length) : ∃ ca ccap, (X.zip cvs).getD i (zIt, undef) = (X.getD i zIt, .slice ca (X.getD i zIt).charges.length ccap) ∧ Sl encCh 6 w (.slice ca (X.getD i zIt).charges.length ccap) (X.getD i zIt).charges := by
  have hch := hX.ch i hi
  obtain ⟨ca, ccap, hcve, _⟩ := hch.form
  have hzg := hX.zget hi
  rw [hcve] at hch hzg
  exact ⟨ca, ccap, hzg, hch⟩
theorem bit_one (x i : Nat) : (x / 2 ^ i &&& 1) = (x.testBit i).toNat := by
  rw [Nat.and_one_is_mod, ← Nat.shiftRight_eq_div_pow]
  have h : x.testBit i = decide ((x >>> i) % 2 = 1) := by rw [Nat.testBit_eq_decide_div_mod_eq, Nat.shiftRight_eq_div_pow]
  rw [h]
  by_cases g : (x >>> i) % 2 = 1
  · rw [decide_eq_true g, g]; rfl
  · rw [decide_eq_false g]
    show _ = 0
    omega
theorem bit_val {x i : Nat} (hx : x < 2 ^ 63) : bitres .and .i64 ((x / 2 ^ i : Nat) : Int) 1 = (((x.testBit i).toNat : Nat) : Int) := by
  rw [← bit_one]
  exact and_i64 _ 1 (Nat.lt_of_le_of_lt (Nat.div_le_self _ _) hx) (by decide)
theorem minQ_comm (p q : Rat) : minQ p q = minQ q p := by
  unfold minQ
  split <;> split <;> grind
def outsP (X : List It) (cut c i : Nat) : Bool := (List.range i).any fun i => !cut.testBit i && secures (X.getD i zIt) c
theorem outsP_succ (X : List It) (cut c i : Nat) : outsP X cut c (i + 1) = (outsP X cut c i || (!cut.testBit i && secures (X.getD i zIt) c)) := by
  unfold outsP
  rw [List.range_succ, List.any_append]
  simp
def bestF (f : Nat → Rat) (cut : Nat) : Rat := if cut = 0 then 0 else mins f cut
theorem bestF_succ (f : Nat → Rat) (cut : Nat) : bestF f (cut + 1) = if cut = 0 ∨ f cut < bestF f cut then f cut else bestF f cut := by
  unfold bestF
  rw [if_neg (Nat.succ_ne_zero _)]
  by_cases h : cut = 0
  · subst h
    rw [if_pos (.inl rfl), mins_one]
  · simp only [if_neg h]
    show minQ (mins f cut) (f cut) = _
    unfold minQ
    by_cases g : f cut < mins f cut
    · rw [if_pos (Or.inr g), if_neg (Rat.not_le.2 g)]
    · rw [if_neg (show ¬ (cut = 0 ∨ f cut < mins f cut) from fun q => q.elim h g), if_pos (Rat.not_lt.1 g)]
set_option maxHeartbeats 2000000 in
theorem rcapacity_ok (vi_ vo vs : Value) (X : List It) (cvs : List Value) (owed : List RR) (S : List Bool) (K : Nat) (w : World) (hX : Its w vi_ X cvs) (ho : Sl encR 3 w vo owed) (hSl : Sl enB 1 w vs S) (hSm : S.length = owed.length) (hXB : ItB K X) (hoB : RB K owed) (hK : 100 * K + 100 ≤ MX) (hX8 : X.length ≤ 8) (ho24 : owed.length ≤ 24) :
    Ret Tryz.prog 32 #[vi_, vo, vs] w fun v w' => v = aggR (ofQ (capQ X owed fun c => S.getD c false)) ∧ Below w.heap.size w w' := by
  have hM : MX = 1099511627776 := rfl
  have hzl := hX.zlen
  obtain ⟨n, hn⟩ : ∃ n, n = X.length := ⟨_, rfl⟩
  obtain ⟨m, hm⟩ : ∃ m, m = owed.length := ⟨_, rfl⟩
  obtain ⟨N, hN⟩ : ∃ N, N = 2 ^ n := ⟨_, rfl⟩
  have hN256 : N ≤ 256 := by rw [hN]; exact Nat.pow_le_pow_right (n := 2) (by decide) (show n ≤ 8 by omega)
  obtain ⟨f, hf⟩ : ∃ f, f = capF X owed (fun c => S.getD c false) := ⟨_, rfl⟩
  have hLf : ∀ cut, L (f cut) ≤ 40 * K + 45 := fun cut => by rw [hf]; exact L_capF hXB hoB hX8 ho24 _ cut
  have hLb : ∀ cut, L (bestF f cut) ≤ 40 * K + 45 := fun cut => by
    unfold bestF
    split
    · rw [L_zero]; omega
    · exact L_mins f _ _ (fun i _ => hLf i)
  have hb0 : encR zRR = encR (ofQ (bestF f 0)) := by rw [show bestF f 0 = 0 from rfl, ofQ_zero]; rfl
  have hS := St.init w
  refine enter Tryz.func32 rfl Tryz.ntmps32 rfl ?_
  repeat (with_reducible first | refine c_seq ?_ | refine c_block ?_ | refine c_skip ?_ | refine x_then ?_ | refine x_block ?_)
  refine c_reg ?_
  refine l_heavy rfl (s_alloc  vi_39 hS ?_)
  intro b6 wz1 hS hBz1
  refine l_nil ?_
  repeat (with_reducible first | refine c_seq ?_ | refine c_block ?_ | refine c_skip ?_ | refine x_then ?_ | refine x_block ?_)
  refine c_reg ?_
  refine l_pure rfl (s_build  rfl bz_39 ?_)
  refine l_heavy rfl (s_alloc  vi_39 hS ?_)
  intro b7 wz2 hS hBz2
  refine l_heavy rfl (s_sta (k := 0)  rfl rfl vi_39 hS rfl rfl rfl (Nat.le_of_ble_eq_true rfl) rfl ?_)
  intro wz3 hS
  refine l_nil ?_
  repeat (with_reducible first | refine c_seq ?_ | refine c_block ?_ | refine c_skip ?_ | refine x_then ?_ | refine x_block ?_)
  replace hS : St w _ [(b7, 39, encR zRR), (b6, 39, encR zRR)] := hS
  replace hS : St w _ [(b7, 39, encR (ofQ (bestF f 0))), (b6, 39, encR zRR)] := hS.cast (by rw [← hb0])
  repeat (with_reducible first | refine c_seq ?_ | refine c_block ?_ | refine c_skip ?_ | refine x_then ?_ | refine x_block ?_)
  refine c_reg ?_
  refine l_pure rfl (s_asg  rfl ?_)
  refine l_nil ?_
  repeat (with_reducible first | refine c_seq ?_ | refine c_block ?_ | refine c_skip ?_ | refine x_then ?_ | refine x_block ?_)
  refine c_loop (σ := Nat) (fun cut ρ w' => cut ≤ N ∧ ρ 0 = vi_ ∧ ρ 1 = vo ∧ ρ 2 = vs ∧ ρ 6 = .pointer (some ⟨b6, 0, none⟩) ∧ ρ 7 = .pointer (some ⟨b7, 0, none⟩) ∧ ρ 8 = .int .i64 cut ∧
      St w w' [(b7, 39, encR (ofQ (bestF f cut))), (b6, 39, encR zRR)]) (fun cut => N - cut) 0
    ⟨Nat.zero_le _, rfl, rfl, rfl, rfl, rfl, rfl, hS⟩ ?_
  clear hS
  rintro cut ρ w2 ⟨hc, h0, h1, h2, h6, h7, h8, hS⟩
  repeat (with_reducible first | refine c_seq ?_ | refine c_block ?_ | refine c_skip ?_ | refine x_then ?_ | refine x_block ?_)
  refine c_reg ?_
  refine l_pure rfl (s_move  h8 ?_)
  refine l_pure rfl (s_move  h0 ?_)
  refine l_pure rfl (s_lenr  rfl (hX.sl.below hS.below) ⟨_, Tryz.underlying26⟩ ?_)
  refine l_pure rfl (s_conv  rfl Tryz.underlying74 ⟨_, Tryz.underlying3⟩ (r := ((n : Nat) : Int)) (by rw [hzl, ← hn]; exact wr_u64 _ ⟨rfl, by omega, by omega⟩) ?_)
  refine l_pure rfl (s_shl  rfl rfl (by omega) (shl_v 1 n ((N : Nat) : Int) (by show _ ≤ 64; omega) (wr_i64 _ ⟨by rw [Nat.one_mul, hN], by omega, by omega⟩)) ?_)
  refine l_pure rfl (s_lss  rfl rfl ?_)
  refine l_nil ?_
  repeat (with_reducible first | refine c_seq ?_ | refine c_block ?_ | refine c_skip ?_ | refine x_then ?_ | refine x_block ?_)
  by_cases hlt : cut < N
  · refine c_yes rfl (decide_eq_true (by omega)) ?_
    repeat (with_reducible first | refine c_seq ?_ | refine c_block ?_ | refine c_skip ?_ | refine x_then ?_ | refine x_block ?_)
    refine c_reg ?_
    refine l_pure rfl (s_build  rfl bz_39 ?_)
    refine l_heavy rfl (s_alloc  vi_39 hS ?_)
    intro b9 wz4 hS hBz4
    refine l_heavy rfl (s_sta (k := 0)  rfl rfl vi_39 hS rfl rfl rfl (Nat.le_of_ble_eq_true rfl) rfl ?_)
    intro wz5 hS
    refine l_nil ?_
    repeat (with_reducible first | refine c_seq ?_ | refine c_block ?_ | refine c_skip ?_ | refine x_then ?_ | refine x_block ?_)
    replace hS : St w _ [(b9, 39, encR zRR), (b7, 39, encR (ofQ (bestF f cut))), (b6, 39, encR zRR)] := hS
    repeat (with_reducible first | refine c_seq ?_ | refine c_block ?_ | refine c_skip ?_ | refine x_then ?_ | refine x_block ?_)
    refine c_reg ?_
    refine l_pure rfl (s_asg  rfl ?_)
    refine l_nil ?_
    repeat (with_reducible first | refine c_seq ?_ | refine c_skip ?_ | refine x_then ?_ | refine x_block ?_)
    refine c_cut1 (fun ρ w' => ρ 0 = vi_ ∧ ρ 1 = vo ∧ ρ 2 = vs ∧ ρ 6 = .pointer (some ⟨b6, 0, none⟩) ∧ ρ 7 = .pointer (some ⟨b7, 0, none⟩) ∧ ρ 8 = .int .i64 cut ∧ ρ 9 = .pointer (some ⟨b9, 0, none⟩) ∧
      St w w' [(b9, 39, encR (ofQ (payF X cut))), (b7, 39, encR (ofQ (bestF f cut))), (b6, 39, encR zRR)]) ?_ ?_
    · repeat (with_reducible first | refine c_seq ?_ | refine c_block ?_ | refine c_skip ?_ | refine x_then ?_ | refine x_block ?_)
      refine c_loop (σ := Nat) (fun i ρ w' => i ≤ n ∧ ρ 0 = vi_ ∧ ρ 1 = vo ∧ ρ 2 = vs ∧ ρ 6 = .pointer (some ⟨b6, 0, none⟩) ∧ ρ 7 = .pointer (some ⟨b7, 0, none⟩) ∧ ρ 8 = .int .i64 cut ∧ ρ 9 = .pointer (some ⟨b9, 0, none⟩) ∧ ρ 10 = .int .i64 i ∧
          St w w' [(b9, 39, encR (ofQ (sumIf i (fun i => cut.testBit i) (prF X)))), (b7, 39, encR (ofQ (bestF f cut))), (b6, 39, encR zRR)]) (fun i => n - i) 0
        ⟨Nat.zero_le _, h0, h1, h2, h6, h7, h8, rfl, rfl, by rw [show sumIf 0 (fun i => cut.testBit i) (prF X) = 0 from rfl, ofQ_zero]; exact hS⟩ ?_
      clear hS h0 h1 h2 h6 h7 h8
      rintro i ρ w3 ⟨hi, h0, h1, h2, h6, h7, h8, h9, h10, hS⟩
      repeat (with_reducible first | refine c_seq ?_ | refine c_block ?_ | refine c_skip ?_ | refine x_then ?_ | refine x_block ?_)
      refine c_reg ?_
      refine l_pure rfl (s_move  h10 ?_)
      refine l_pure rfl (s_move  h0 ?_)
      refine l_pure rfl (s_lenr  rfl (hX.sl.below hS.below) ⟨_, Tryz.underlying26⟩ ?_)
      refine l_pure rfl (s_lss  rfl rfl ?_)
      refine l_nil ?_
      repeat (with_reducible first | refine c_seq ?_ | refine c_block ?_ | refine c_skip ?_ | refine x_then ?_ | refine x_block ?_)
      by_cases hli : i < n
      · refine c_yes rfl (decide_eq_true (by omega)) ?_
        repeat (with_reducible first | refine c_seq ?_ | refine c_block ?_ | refine c_skip ?_ | refine x_then ?_ | refine x_block ?_)
        have hiX : i < X.length := by omega
        repeat (with_reducible first | refine c_seq ?_ | refine c_block ?_ | refine c_skip ?_ | refine x_then ?_ | refine x_block ?_)
        refine c_reg ?_
        refine l_pure rfl (s_move  h8 ?_)
        refine l_pure rfl (s_move  h10 ?_)
        refine l_pure rfl (s_conv  rfl Tryz.underlying74 ⟨_, Tryz.underlying3⟩ (r := ((i : Nat) : Int)) (by exact wr_u64 _ ⟨rfl, by omega, by omega⟩) ?_)
        refine l_pure rfl (s_shr  rfl rfl (by omega) (shr_v cut i (by show _ ≤ 64; omega)) ?_)
        refine l_pure rfl (s_and  rfl rfl (r := (((cut.testBit i).toNat : Nat) : Int)) (by exact bit_val (by omega)) ?_)
        refine l_pure rfl (s_eql  rfl rfl ?_)
        refine l_nil ?_
        repeat (with_reducible first | refine c_seq ?_ | refine c_skip ?_ | refine x_then ?_ | refine x_block ?_)
        refine c_cut1 (fun ρ w' => ρ 0 = vi_ ∧ ρ 1 = vo ∧ ρ 2 = vs ∧ ρ 6 = .pointer (some ⟨b6, 0, none⟩) ∧ ρ 7 = .pointer (some ⟨b7, 0, none⟩) ∧ ρ 8 = .int .i64 cut ∧ ρ 9 = .pointer (some ⟨b9, 0, none⟩) ∧ ρ 10 = .int .i64 i ∧
          St w w' [(b9, 39, encR (ofQ (sumIf (i + 1) (fun i => cut.testBit i) (prF X)))), (b7, 39, encR (ofQ (bestF f cut))), (b6, 39, encR zRR)]) ?_ ?_
        · repeat (with_reducible first | refine c_seq ?_ | refine c_block ?_ | refine c_skip ?_ | refine x_then ?_ | refine x_block ?_)
          by_cases hb : cut.testBit i = true
          · refine c_yes rfl (decide_eq_true (by rw [hb]; rfl)) ?_
            repeat (with_reducible first | refine c_seq ?_ | refine c_block ?_ | refine c_skip ?_ | refine x_then ?_ | refine x_block ?_)
            obtain ⟨ca, ccap, hzg, hch⟩ := its_item hX hiX
            have hxB := hXB _ (getD_mem X i zIt hiX)
            have hL1 := L_sumIf i (fun i => cut.testBit i) (prF X) (2 * K + 1) (fun j hj => L_prF hXB (by omega))
            have hL2 : i * (2 * K + 1 + 1) ≤ 8 * (2 * K + 1 + 1) := Nat.mul_le_mul_right _ (by omega)
            have hL3 := L_prF hXB hiX
            have hsu : sumIf (i + 1) (fun i => cut.testBit i) (prF X) = sumIf i (fun i => cut.testBit i) (prF X) + prF X i := by rw [sumIf, if_pos hb]
            repeat (with_reducible first | refine c_seq ?_ | refine c_block ?_ | refine c_skip ?_ | refine x_then ?_ | refine x_block ?_)
            refine c_draw [(0, .read), (1, .pure), (2, .pure), (3, .pure), (4, .read), (5, .grow), (6, .grow), (7, .free)] (by kernel_rfl) (by kernel_rfl) hS ?_
            intro wz6 hS hBz6
            refine w_read rfl rfl (s_ldo (k := 0)  h9 vi_39 hS rfl rfl rfl (.inl rfl) ?_)
            refine w_pure rfl rfl (s_move  h0 ?_)
            refine w_pure rfl rfl (s_move  h10 ?_)
            refine w_pure rfl rfl (s_ixr (i := i)  rfl rfl (hX.sl.below hS.below) (by omega) (by first | omega | (simp; done) | (simp; omega)) si_26 ?_)
            refine w_read rfl rfl (s_lde (v := aggIt (X.getD i zIt) (.slice ca (X.getD i zIt).charges.length ccap)) (i := i) (zIt, undef)  rfl vi_53 (hX.sl.below hS.below) (by omega) rfl (by rw [hzg]; rfl) (.inl rfl) ?_)
            refine w_grow rfl rfl (s_call Tryz.call36 rfl (rProceeds_ok (X.getD i zIt) ca (X.getD i zIt).charges.length ccap _ (by have := hxB.1; have := hxB.2.1; omega)) ?_)
            rintro r w4 ⟨rfl, hB4⟩
            refine ⟨hB4, ?_⟩
            replace hS := hS.grow hB4
            refine w_grow rfl rfl (s_call Tryz.call39 rfl (rPlus_ok (sumIf i (fun i => cut.testBit i) (prF X)) (prF X i) _ (by omega)) ?_)
            rintro r w5 ⟨rfl, hB5⟩
            refine ⟨hB5, ?_⟩
            replace hS := hS.grow hB5
            rw [← hsu]
            refine w_free rfl rfl (s_sta (k := 0)  h9 rfl vi_39 hS rfl rfl rfl (Nat.le_of_ble_eq_true rfl) rfl ?_)
            intro wz7 hS
            refine w_end ?_
            repeat (with_reducible first | refine c_seq ?_ | refine c_block ?_ | refine c_skip ?_ | refine x_then ?_ | refine x_block ?_)
            exact ⟨_, rfl, h0, h1, h2, h6, h7, h8, h9, h10, hS⟩
          · refine c_no rfl (decide_eq_false (by rw [Bool.eq_false_iff.2 hb]; decide)) ?_
            repeat (with_reducible first | refine c_seq ?_ | refine c_block ?_ | refine c_skip ?_ | refine x_then ?_ | refine x_block ?_)
            refine ⟨_, rfl, h0, h1, h2, h6, h7, h8, h9, h10, hS.cast ?_⟩
            rw [sumIf, if_neg hb, Rat.add_zero]
        clear hS h0 h1 h2 h6 h7 h8 h9 h10
        rintro ρ w3 ⟨h0, h1, h2, h6, h7, h8, h9, h10, hS⟩
        repeat (with_reducible first | refine c_seq ?_ | refine c_block ?_ | refine c_skip ?_ | refine x_then ?_ | refine x_block ?_)
        refine c_reg ?_
        refine l_pure rfl (s_move  h10 ?_)
        refine l_pure rfl (s_add  rfl rfl (IntWalk.i64_in _ (by omega)) ?_)
        refine l_pure rfl (s_asg  rfl ?_)
        refine l_nil ?_
        repeat (with_reducible first | refine c_seq ?_ | refine c_block ?_ | refine c_skip ?_ | refine x_then ?_ | refine x_block ?_)
        exact ⟨i + 1, _, rfl, ⟨hli, h0, h1, h2, h6, h7, h8, h9, vi rfl (by omega), hS⟩, by omega⟩
      · refine c_no rfl (decide_eq_false (by omega)) ?_
        repeat (with_reducible first | refine c_seq ?_ | refine c_block ?_ | refine c_skip ?_ | refine x_then ?_ | refine x_block ?_)
        refine c_exit ?_
        repeat (with_reducible first | refine x_then_exit ?_ | refine x_block_exit ?_ | refine x_block_pass rfl ?_)
        repeat (with_reducible first | refine c_seq ?_ | refine c_block ?_ | refine c_skip ?_ | refine x_then ?_ | refine x_block ?_)
        obtain rfl : i = n := by omega
        refine ⟨_, rfl, h0, h1, h2, h6, h7, h8, h9, hS.cast ?_⟩
        unfold payF
        rw [← hn]
    clear hS h0 h1 h2 h6 h7 h8
    rintro ρ w3 ⟨h0, h1, h2, h6, h7, h8, h9, hS⟩
    repeat (with_reducible first | refine c_seq ?_ | refine c_block ?_ | refine c_skip ?_ | refine x_then ?_ | refine x_block ?_)
    refine c_reg ?_
    refine l_pure rfl (s_asg  rfl ?_)
    refine l_nil ?_
    repeat (with_reducible first | refine c_seq ?_ | refine c_skip ?_ | refine x_then ?_ | refine x_block ?_)
    refine c_cut1 (fun ρ w' => ρ 0 = vi_ ∧ ρ 1 = vo ∧ ρ 2 = vs ∧ ρ 6 = .pointer (some ⟨b6, 0, none⟩) ∧ ρ 7 = .pointer (some ⟨b7, 0, none⟩) ∧ ρ 8 = .int .i64 cut ∧ ρ 9 = .pointer (some ⟨b9, 0, none⟩) ∧ St w w' [(b9, 39, encR (ofQ (f cut))), (b7, 39, encR (ofQ (bestF f cut))), (b6, 39, encR zRR)]) ?_ ?_
    · repeat (with_reducible first | refine c_seq ?_ | refine c_block ?_ | refine c_skip ?_ | refine x_then ?_ | refine x_block ?_)
      refine c_loop (σ := Nat) (fun c ρ w' => c ≤ m ∧ ρ 0 = vi_ ∧ ρ 1 = vo ∧ ρ 2 = vs ∧ ρ 6 = .pointer (some ⟨b6, 0, none⟩) ∧ ρ 7 = .pointer (some ⟨b7, 0, none⟩) ∧ ρ 8 = .int .i64 cut ∧ ρ 9 = .pointer (some ⟨b9, 0, none⟩) ∧ ρ 11 = .int .i64 c ∧
          St w w' [(b9, 39, encR (ofQ (payF X cut + sumIf (c) (fun c => S.getD c false && outs X cut c) (owF owed)))), (b7, 39, encR (ofQ (bestF f cut))), (b6, 39, encR zRR)]) (fun c => m - c) 0
        ⟨Nat.zero_le _, h0, h1, h2, h6, h7, h8, h9, rfl, by rw [show sumIf 0 (fun c => S.getD c false && outs X cut c) (owF owed) = 0 from rfl, Rat.add_zero]; exact hS⟩ ?_
      clear hS h0 h1 h2 h6 h7 h8 h9
      rintro c ρ w4 ⟨hcm, h0, h1, h2, h6, h7, h8, h9, h11, hS⟩
      repeat (with_reducible first | refine c_seq ?_ | refine c_block ?_ | refine c_skip ?_ | refine x_then ?_ | refine x_block ?_)
      refine c_reg ?_
      refine l_pure rfl (s_move  h11 ?_)
      refine l_pure rfl (s_move  h1 ?_)
      refine l_pure rfl (s_lenr  rfl (ho.below hS.below) ⟨_, Tryz.underlying24⟩ ?_)
      refine l_pure rfl (s_lss  rfl rfl ?_)
      refine l_nil ?_
      repeat (with_reducible first | refine c_seq ?_ | refine c_block ?_ | refine c_skip ?_ | refine x_then ?_ | refine x_block ?_)
      by_cases hlc : c < m
      · refine c_yes rfl (decide_eq_true (by omega)) ?_
        repeat (with_reducible first | refine c_seq ?_ | refine c_block ?_ | refine c_skip ?_ | refine x_then ?_ | refine x_block ?_)
        have hco : c < owed.length := by omega
        repeat (with_reducible first | refine c_seq ?_ | refine c_block ?_ | refine c_skip ?_ | refine x_then ?_ | refine x_block ?_)
        refine c_reg ?_
        refine l_pure rfl (s_asg  rfl ?_)
        refine l_nil ?_
        repeat (with_reducible first | refine c_seq ?_ | refine c_block ?_ | refine c_skip ?_ | refine x_then ?_ | refine x_block ?_)
        refine c_reg ?_
        refine l_pure rfl (s_asg  rfl ?_)
        refine l_nil ?_
        repeat (with_reducible first | refine c_seq ?_ | refine c_skip ?_ | refine x_then ?_ | refine x_block ?_)
        refine c_cut1 (fun ρ w' => ρ 0 = vi_ ∧ ρ 1 = vo ∧ ρ 2 = vs ∧ ρ 6 = .pointer (some ⟨b6, 0, none⟩) ∧ ρ 7 = .pointer (some ⟨b7, 0, none⟩) ∧ ρ 8 = .int .i64 cut ∧ ρ 9 = .pointer (some ⟨b9, 0, none⟩) ∧ ρ 11 = .int .i64 c ∧ ρ 12 = .bool (outs X cut c) ∧
            St w w' [(b9, 39, encR (ofQ (payF X cut + sumIf (c) (fun c => S.getD c false && outs X cut c) (owF owed)))), (b7, 39, encR (ofQ (bestF f cut))), (b6, 39, encR zRR)]) ?_ ?_
        · repeat (with_reducible first | refine c_seq ?_ | refine c_block ?_ | refine c_skip ?_ | refine x_then ?_ | refine x_block ?_)
          refine c_loop (σ := Nat) (fun i ρ w' => i ≤ n ∧ ρ 0 = vi_ ∧ ρ 1 = vo ∧ ρ 2 = vs ∧ ρ 6 = .pointer (some ⟨b6, 0, none⟩) ∧ ρ 7 = .pointer (some ⟨b7, 0, none⟩) ∧ ρ 8 = .int .i64 cut ∧ ρ 9 = .pointer (some ⟨b9, 0, none⟩) ∧ ρ 11 = .int .i64 c ∧ ρ 12 = .bool (outsP X cut c i) ∧ ρ 13 = .int .i64 i ∧
              St w w' [(b9, 39, encR (ofQ (payF X cut + sumIf (c) (fun c => S.getD c false && outs X cut c) (owF owed)))), (b7, 39, encR (ofQ (bestF f cut))), (b6, 39, encR zRR)]) (fun i => n - i) 0
            ⟨Nat.zero_le _, h0, h1, h2, h6, h7, h8, h9, h11, rfl, rfl, hS⟩ ?_
          clear hS h0 h1 h2 h6 h7 h8 h9 h11
          rintro i ρ w5 ⟨hi, h0, h1, h2, h6, h7, h8, h9, h11, h12, h13, hS⟩
          repeat (with_reducible first | refine c_seq ?_ | refine c_block ?_ | refine c_skip ?_ | refine x_then ?_ | refine x_block ?_)
          refine c_reg ?_
          refine l_pure rfl (s_move  h13 ?_)
          refine l_pure rfl (s_move  h0 ?_)
          refine l_pure rfl (s_lenr  rfl (hX.sl.below hS.below) ⟨_, Tryz.underlying26⟩ ?_)
          refine l_pure rfl (s_lss  rfl rfl ?_)
          refine l_nil ?_
          repeat (with_reducible first | refine c_seq ?_ | refine c_block ?_ | refine c_skip ?_ | refine x_then ?_ | refine x_block ?_)
          by_cases hli : i < n
          · refine c_yes rfl (decide_eq_true (by omega)) ?_
            repeat (with_reducible first | refine c_seq ?_ | refine c_block ?_ | refine c_skip ?_ | refine x_then ?_ | refine x_block ?_)
            have hiX : i < X.length := by omega
            have hsu := outsP_succ X cut c i
            obtain ⟨ca, ccap, hzg, hch⟩ := its_item hX hiX
            refine c_cut1 (fun ρ w' => ρ 0 = vi_ ∧ ρ 1 = vo ∧ ρ 2 = vs ∧ ρ 6 = .pointer (some ⟨b6, 0, none⟩) ∧ ρ 7 = .pointer (some ⟨b7, 0, none⟩) ∧ ρ 8 = .int .i64 cut ∧ ρ 9 = .pointer (some ⟨b9, 0, none⟩) ∧ ρ 11 = .int .i64 c ∧ ρ 12 = .bool (outsP X cut c (i + 1)) ∧ ρ 13 = .int .i64 i ∧
              St w w' [(b9, 39, encR (ofQ (payF X cut + sumIf (c) (fun c => S.getD c false && outs X cut c) (owF owed)))), (b7, 39, encR (ofQ (bestF f cut))), (b6, 39, encR zRR)]) ?_ ?_
            · repeat (with_reducible first | refine c_seq ?_ | refine c_block ?_ | refine c_skip ?_ | refine x_then ?_ | refine x_block ?_)
              by_cases hp : outsP X cut c i = true
              · repeat (with_reducible first | refine c_seq ?_ | refine c_block ?_ | refine c_skip ?_ | refine x_then ?_ | refine x_block ?_)
                refine c_reg ?_
                refine l_pure rfl (s_move  h12 ?_)
                refine l_pure rfl (s_move  rfl ?_)
                refine l_no (gno_yes 56 (by kernel_rfl) rfl hp) ?_
                refine l_no (gno_yes 56 (by kernel_rfl) rfl hp) ?_
                refine l_no (gno_yes 56 (by kernel_rfl) rfl hp) ?_
                refine l_no (gno_yes 56 (by kernel_rfl) rfl hp) ?_
                refine l_no (gno_yes 56 (by kernel_rfl) rfl hp) ?_
                refine l_no (gno_yes 56 (by kernel_rfl) rfl hp) ?_
                refine l_no (gno_yes 56 (by kernel_rfl) rfl hp) ?_
                refine l_no (gno_un 63 (by kernel_rfl) rfl) ?_
                refine l_no (gno_un 63 (by kernel_rfl) rfl) ?_
                refine l_no (gno_un 63 (by kernel_rfl) rfl) ?_
                refine l_no (gno_un 63 (by kernel_rfl) rfl) ?_
                refine l_no (gno_un 63 (by kernel_rfl) rfl) ?_
                refine l_no (gno_un 63 (by kernel_rfl) rfl) ?_
                refine l_no (gno_yes 56 (by kernel_rfl) rfl hp) ?_
                refine l_pure rfl (s_pick (vb rfl hp) rfl ?_)
                refine l_pure rfl (s_asg  rfl ?_)
                refine l_nil ?_
                repeat (with_reducible first | refine c_seq ?_ | refine c_block ?_ | refine c_skip ?_ | refine x_then ?_ | refine x_block ?_)
                refine ⟨_, rfl, h0, h1, h2, h6, h7, h8, h9, h11, vb rfl (by rw [hsu, hp]; rfl), h13, hS⟩
              · have hpf := Bool.eq_false_iff.2 hp
                by_cases hb : cut.testBit i = true
                · repeat (with_reducible first | refine c_seq ?_ | refine c_block ?_ | refine c_skip ?_ | refine x_then ?_ | refine x_block ?_)
                  refine c_reg ?_
                  refine l_pure rfl (s_move  h12 ?_)
                  refine l_pure rfl (s_move  rfl ?_)
                  refine l_pure (gd_yes 56 (by kernel_rfl) rfl hpf) (s_move  h8 ?_)
                  refine l_pure (gd_yes 56 (by kernel_rfl) rfl hpf) (s_move  h13 ?_)
                  refine l_pure (gd_yes 56 (by kernel_rfl) rfl hpf) (s_conv  rfl Tryz.underlying74 ⟨_, Tryz.underlying3⟩ (r := ((i : Nat) : Int)) (by exact wr_u64 _ ⟨rfl, by omega, by omega⟩) ?_)
                  refine l_pure (gd_yes 56 (by kernel_rfl) rfl hpf) (s_shr  rfl rfl (by omega) (shr_v cut i (by show _ ≤ 64; omega)) ?_)
                  refine l_pure (gd_yes 56 (by kernel_rfl) rfl hpf) (s_and  rfl rfl (r := (((cut.testBit i).toNat : Nat) : Int)) (by exact bit_val (by omega)) ?_)
                  refine l_pure (gd_yes 56 (by kernel_rfl) rfl hpf) (s_eql  rfl rfl ?_)
                  refine l_pure (gd_yes 56 (by kernel_rfl) rfl hpf) (s_move  rfl ?_)
                  refine l_no (gno_yes 63 (by kernel_rfl) rfl (decide_eq_false (by rw [hb]; decide))) ?_
                  refine l_no (gno_yes 63 (by kernel_rfl) rfl (decide_eq_false (by rw [hb]; decide))) ?_
                  refine l_no (gno_yes 63 (by kernel_rfl) rfl (decide_eq_false (by rw [hb]; decide))) ?_
                  refine l_no (gno_yes 63 (by kernel_rfl) rfl (decide_eq_false (by rw [hb]; decide))) ?_
                  refine l_no (gno_yes 63 (by kernel_rfl) rfl (decide_eq_false (by rw [hb]; decide))) ?_
                  refine l_no (gno_yes 63 (by kernel_rfl) rfl (decide_eq_false (by rw [hb]; decide))) ?_
                  refine l_pure (gd_yes 56 (by kernel_rfl) rfl hpf) (s_pick (vb rfl (decide_eq_false (by rw [hb]; decide))) rfl ?_)
                  refine l_pure rfl (s_pick (vb rfl hpf) rfl ?_)
                  refine l_pure rfl (s_asg  rfl ?_)
                  refine l_nil ?_
                  repeat (with_reducible first | refine c_seq ?_ | refine c_block ?_ | refine c_skip ?_ | refine x_then ?_ | refine x_block ?_)
                  refine ⟨_, rfl, h0, h1, h2, h6, h7, h8, h9, h11, vb rfl (by rw [hsu, hpf, hb]; rfl), h13, hS⟩
                · have hbf := Bool.eq_false_iff.2 hb
                  repeat (with_reducible first | refine c_seq ?_ | refine c_block ?_ | refine c_skip ?_ | refine x_then ?_ | refine x_block ?_)
                  refine c_reg ?_
                  refine l_pure rfl (s_move  h12 ?_)
                  refine l_pure rfl (s_move  rfl ?_)
                  refine l_pure (gd_yes 56 (by kernel_rfl) rfl hpf) (s_move  h8 ?_)
                  refine l_pure (gd_yes 56 (by kernel_rfl) rfl hpf) (s_move  h13 ?_)
                  refine l_pure (gd_yes 56 (by kernel_rfl) rfl hpf) (s_conv  rfl Tryz.underlying74 ⟨_, Tryz.underlying3⟩ (r := ((i : Nat) : Int)) (by exact wr_u64 _ ⟨rfl, by omega, by omega⟩) ?_)
                  refine l_pure (gd_yes 56 (by kernel_rfl) rfl hpf) (s_shr  rfl rfl (by omega) (shr_v cut i (by show _ ≤ 64; omega)) ?_)
                  refine l_pure (gd_yes 56 (by kernel_rfl) rfl hpf) (s_and  rfl rfl (r := (((cut.testBit i).toNat : Nat) : Int)) (by exact bit_val (by omega)) ?_)
                  refine l_pure (gd_yes 56 (by kernel_rfl) rfl hpf) (s_eql  rfl rfl ?_)
                  refine l_pure (gd_yes 56 (by kernel_rfl) rfl hpf) (s_move  rfl ?_)
                  refine l_pure (gd_yes 63 (by kernel_rfl) rfl (decide_eq_true (by rw [hbf]; rfl))) (s_move  h0 ?_)
                  refine l_pure (gd_yes 63 (by kernel_rfl) rfl (decide_eq_true (by rw [hbf]; rfl))) (s_move  h13 ?_)
                  refine l_pure (gd_yes 63 (by kernel_rfl) rfl (decide_eq_true (by rw [hbf]; rfl))) (s_ixr (i := i)  rfl rfl (hX.sl.below hS.below) (by omega) (by first | omega | (simp; done) | (simp; omega)) si_26 ?_)
                  refine l_read (gd_yes 63 (by kernel_rfl) rfl (decide_eq_true (by rw [hbf]; rfl))) (s_lde (v := aggIt (X.getD i zIt) (.slice ca (X.getD i zIt).charges.length ccap)) (i := i) (zIt, undef)  rfl vi_53 (hX.sl.below hS.below) (by omega) rfl (by rw [hzg]; rfl) (.inl rfl) ?_)
                  refine l_pure (gd_yes 63 (by kernel_rfl) rfl (decide_eq_true (by rw [hbf]; rfl))) (s_move  h11 ?_)
                  refine l_heavy (gd_yes 63 (by kernel_rfl) rfl (decide_eq_true (by rw [hbf]; rfl))) (s_call Tryz.call23 rfl (Secures_ok (X.getD i zIt) _ c _ (hch.below hS.below)) ?_)
                  rintro _ wc8 ⟨rfl, hBc8⟩
                  replace hS := hS.grow hBc8
                  refine l_pure (gd_yes 56 (by kernel_rfl) rfl hpf) (s_pick (vb rfl (decide_eq_true (by rw [hbf]; rfl))) rfl ?_)
                  refine l_pure rfl (s_pick (vb rfl hpf) rfl ?_)
                  refine l_pure rfl (s_asg  rfl ?_)
                  refine l_nil ?_
                  repeat (with_reducible first | refine c_seq ?_ | refine c_block ?_ | refine c_skip ?_ | refine x_then ?_ | refine x_block ?_)
                  refine ⟨_, rfl, h0, h1, h2, h6, h7, h8, h9, h11, vb rfl (by rw [hsu, hpf, hbf]; rfl), h13, hS⟩
            clear hS h0 h1 h2 h6 h7 h8 h9 h11 h12 h13
            rintro ρ w5 ⟨h0, h1, h2, h6, h7, h8, h9, h11, h12, h13, hS⟩
            repeat (with_reducible first | refine c_seq ?_ | refine c_block ?_ | refine c_skip ?_ | refine x_then ?_ | refine x_block ?_)
            refine c_reg ?_
            refine l_pure rfl (s_move  h13 ?_)
            refine l_pure rfl (s_add  rfl rfl (IntWalk.i64_in _ (by omega)) ?_)
            refine l_pure rfl (s_asg  rfl ?_)
            refine l_nil ?_
            repeat (with_reducible first | refine c_seq ?_ | refine c_block ?_ | refine c_skip ?_ | refine x_then ?_ | refine x_block ?_)
            exact ⟨i + 1, _, rfl, ⟨hli, h0, h1, h2, h6, h7, h8, h9, h11, h12, vi rfl (by omega), hS⟩, by omega⟩
          · refine c_no rfl (decide_eq_false (by omega)) ?_
            repeat (with_reducible first | refine c_seq ?_ | refine c_block ?_ | refine c_skip ?_ | refine x_then ?_ | refine x_block ?_)
            refine c_exit ?_
            repeat (with_reducible first | refine x_then_exit ?_ | refine x_block_exit ?_ | refine x_block_pass rfl ?_)
            repeat (with_reducible first | refine c_seq ?_ | refine c_block ?_ | refine c_skip ?_ | refine x_then ?_ | refine x_block ?_)
            obtain rfl : i = n := by omega
            refine ⟨_, rfl, h0, h1, h2, h6, h7, h8, h9, h11, vb h12 (by rw [hn]; rfl), hS⟩
        clear hS h0 h1 h2 h6 h7 h8 h9 h11
        rintro ρ w5 ⟨h0, h1, h2, h6, h7, h8, h9, h11, h12, hS⟩
        obtain ⟨sb, hsb⟩ : ∃ sb, sb = S.getD c false := ⟨_, rfl⟩
        repeat (with_reducible first | refine c_seq ?_ | refine c_block ?_ | refine c_skip ?_ | refine x_then ?_ | refine x_block ?_)
        refine c_cut1 (fun ρ w' => ρ 0 = vi_ ∧ ρ 1 = vo ∧ ρ 2 = vs ∧ ρ 6 = .pointer (some ⟨b6, 0, none⟩) ∧ ρ 7 = .pointer (some ⟨b7, 0, none⟩) ∧ ρ 8 = .int .i64 cut ∧ ρ 9 = .pointer (some ⟨b9, 0, none⟩) ∧ ρ 11 = .int .i64 c ∧ ρ 78 = .bool (sb && outs X cut c) ∧
            St w w' [(b9, 39, encR (ofQ (payF X cut + sumIf (c) (fun c => S.getD c false && outs X cut c) (owF owed)))), (b7, 39, encR (ofQ (bestF f cut))), (b6, 39, encR zRR)]) ?_ ?_
        · repeat (with_reducible first | refine c_seq ?_ | refine c_block ?_ | refine c_skip ?_ | refine x_then ?_ | refine x_block ?_)
          by_cases hs : sb = true
          · repeat (with_reducible first | refine c_seq ?_ | refine c_block ?_ | refine c_skip ?_ | refine x_then ?_ | refine x_block ?_)
            refine c_reg ?_
            refine l_pure rfl (s_move  h2 ?_)
            refine l_pure rfl (s_move  h11 ?_)
            refine l_pure rfl (s_ixr (i := c)  rfl rfl (hSl.below hS.below) (by omega) (by first | omega | (simp; done) | (simp; omega)) si_72 ?_)
            refine l_read rfl (s_lde (v := .bool sb) (i := c) false  rfl vi_4 (hSl.below hS.below) (by omega) rfl (by rw [← hsb]; rfl) (.inr rfl) ?_)
            refine l_pure rfl (s_move  rfl ?_)
            refine l_pure (gd_yes 76 (by kernel_rfl) rfl hs) (s_move  h12 ?_)
            refine l_pure rfl (s_pick (vb rfl hs) rfl ?_)
            refine l_nil ?_
            repeat (with_reducible first | refine c_seq ?_ | refine c_block ?_ | refine c_skip ?_ | refine x_then ?_ | refine x_block ?_)
            refine ⟨_, rfl, h0, h1, h2, h6, h7, h8, h9, h11, vb rfl (by rw [hs]; rfl), hS⟩
          · repeat (with_reducible first | refine c_seq ?_ | refine c_block ?_ | refine c_skip ?_ | refine x_then ?_ | refine x_block ?_)
            refine c_reg ?_
            refine l_pure rfl (s_move  h2 ?_)
            refine l_pure rfl (s_move  h11 ?_)
            refine l_pure rfl (s_ixr (i := c)  rfl rfl (hSl.below hS.below) (by omega) (by first | omega | (simp; done) | (simp; omega)) si_72 ?_)
            refine l_read rfl (s_lde (v := .bool sb) (i := c) false  rfl vi_4 (hSl.below hS.below) (by omega) rfl (by rw [← hsb]; rfl) (.inr rfl) ?_)
            refine l_pure rfl (s_move  rfl ?_)
            refine l_no (gno_yes 76 (by kernel_rfl) rfl (Bool.eq_false_iff.2 hs)) ?_
            refine l_pure rfl (s_pick (vb rfl (Bool.eq_false_iff.2 hs)) rfl ?_)
            refine l_nil ?_
            repeat (with_reducible first | refine c_seq ?_ | refine c_block ?_ | refine c_skip ?_ | refine x_then ?_ | refine x_block ?_)
            refine ⟨_, rfl, h0, h1, h2, h6, h7, h8, h9, h11, vb rfl (by rw [Bool.eq_false_iff.2 hs]; rfl), hS⟩
        clear hS h0 h1 h2 h6 h7 h8 h9 h11 h12
        rintro ρ w5 ⟨h0, h1, h2, h6, h7, h8, h9, h11, h78, hS⟩
        repeat (with_reducible first | refine c_seq ?_ | refine c_block ?_ | refine c_skip ?_ | refine x_then ?_ | refine x_block ?_)
        by_cases hso : (sb && outs X cut c) = true
        · refine c_yes h78 hso ?_
          repeat (with_reducible first | refine c_seq ?_ | refine c_block ?_ | refine c_skip ?_ | refine x_then ?_ | refine x_block ?_)
          have hsu : payF X cut + sumIf (c + 1) (fun c => S.getD c false && outs X cut c) (owF owed) = payF X cut + sumIf (c) (fun c => S.getD c false && outs X cut c) (owF owed) + owF owed c := by
            rw [sumIf, if_pos (by rw [← hsb]; exact hso)]; grind
          have hL1 := L_payF hXB hX8 cut
          have hL2 := L_sumIf c (fun c => S.getD c false && outs X cut c) (owF owed) K (fun j hj => L_owF hoB (by omega))
          have hL3 : c * (K + 1) ≤ 24 * (K + 1) := Nat.mul_le_mul_right _ (by omega)
          have hL4 := L_add (payF X cut) (sumIf c (fun c => S.getD c false && outs X cut c) (owF owed))
          have hL5 := L_owF hoB hco
          have hL6 := hoB _ (getD_mem owed c zRR hco)
          repeat (with_reducible first | refine c_seq ?_ | refine c_block ?_ | refine c_skip ?_ | refine x_then ?_ | refine x_block ?_)
          refine c_draw [(0, .read), (1, .pure), (2, .pure), (3, .pure), (4, .read), (5, .grow), (6, .grow), (7, .free)] (by kernel_rfl) (by kernel_rfl) hS ?_
          intro wz9 hS hBz9
          refine w_read rfl rfl (s_ldo (k := 0)  h9 vi_39 hS rfl rfl rfl (.inl rfl) ?_)
          refine w_pure rfl rfl (s_move  h1 ?_)
          refine w_pure rfl rfl (s_move  h11 ?_)
          refine w_pure rfl rfl (s_ixr (i := c)  rfl rfl (ho.below hS.below) (by omega) (by first | omega | (simp; done) | (simp; omega)) si_24 ?_)
          refine w_read rfl rfl (s_lde (i := c) zRR  rfl vi_39 (ho.below hS.below) (by first | omega | (simp; done) | (simp; omega)) rfl rfl (.inl rfl) ?_)
          refine w_grow rfl rfl (s_call Tryz.call37 rfl (rFix_ok (owed.getD c zRR) _ (by omega)) ?_)
          rintro r w6 ⟨rfl, hB6⟩
          refine ⟨hB6, ?_⟩
          replace hS := hS.grow hB6
          refine w_grow rfl rfl (s_call Tryz.call39 rfl (rPlus_ok (payF X cut + sumIf (c) (fun c => S.getD c false && outs X cut c) (owF owed)) (owF owed c) _ (by omega)) ?_)
          rintro r w7 ⟨rfl, hB7⟩
          refine ⟨hB7, ?_⟩
          replace hS := hS.grow hB7
          rw [← hsu]
          refine w_free rfl rfl (s_sta (k := 0)  h9 rfl vi_39 hS rfl rfl rfl (Nat.le_of_ble_eq_true rfl) rfl ?_)
          intro wz10 hS
          refine w_end ?_
          repeat (with_reducible first | refine c_seq ?_ | refine c_block ?_ | refine c_skip ?_ | refine x_then ?_ | refine x_block ?_)
          refine c_reg ?_
          refine l_pure rfl (s_move  h11 ?_)
          refine l_pure rfl (s_add  rfl rfl (IntWalk.i64_in _ (by omega)) ?_)
          refine l_pure rfl (s_asg  rfl ?_)
          refine l_nil ?_
          repeat (with_reducible first | refine c_seq ?_ | refine c_block ?_ | refine c_skip ?_ | refine x_then ?_ | refine x_block ?_)
          exact ⟨c + 1, _, rfl, ⟨hlc, h0, h1, h2, h6, h7, h8, h9, vi rfl (by omega), hS⟩, by omega⟩
        · refine c_no h78 (Bool.eq_false_iff.2 hso) ?_
          repeat (with_reducible first | refine c_seq ?_ | refine c_block ?_ | refine c_skip ?_ | refine x_then ?_ | refine x_block ?_)
          refine c_reg ?_
          refine l_pure rfl (s_move  h11 ?_)
          refine l_pure rfl (s_add  rfl rfl (IntWalk.i64_in _ (by omega)) ?_)
          refine l_pure rfl (s_asg  rfl ?_)
          refine l_nil ?_
          repeat (with_reducible first | refine c_seq ?_ | refine c_block ?_ | refine c_skip ?_ | refine x_then ?_ | refine x_block ?_)
          refine ⟨c + 1, _, rfl, ⟨hlc, h0, h1, h2, h6, h7, h8, h9, vi rfl (by omega), hS.cast ?_⟩, by omega⟩
          rw [sumIf, if_neg (by rw [← hsb]; exact hso), Rat.add_zero]
      · refine c_no rfl (decide_eq_false (by omega)) ?_
        repeat (with_reducible first | refine c_seq ?_ | refine c_block ?_ | refine c_skip ?_ | refine x_then ?_ | refine x_block ?_)
        refine c_exit ?_
        repeat (with_reducible first | refine x_then_exit ?_ | refine x_block_exit ?_ | refine x_block_pass rfl ?_)
        repeat (with_reducible first | refine c_seq ?_ | refine c_block ?_ | refine c_skip ?_ | refine x_then ?_ | refine x_block ?_)
        obtain rfl : c = m := by omega
        refine ⟨_, rfl, h0, h1, h2, h6, h7, h8, h9, hS.cast ?_⟩
        rw [hf, capF_eq, ← hm]
    clear hS h0 h1 h2 h6 h7 h8 h9
    rintro ρ w4 ⟨h0, h1, h2, h6, h7, h8, h9, hS⟩
    have hbs := bestF_succ f cut
    have hLf1 := hLf cut
    have hLb1 := hLb cut
    repeat (with_reducible first | refine c_seq ?_ | refine c_block ?_ | refine c_skip ?_ | refine x_then ?_ | refine x_block ?_)
    refine c_cut1 (fun ρ w' => ρ 0 = vi_ ∧ ρ 1 = vo ∧ ρ 2 = vs ∧ ρ 6 = .pointer (some ⟨b6, 0, none⟩) ∧ ρ 7 = .pointer (some ⟨b7, 0, none⟩) ∧ ρ 8 = .int .i64 cut ∧ ρ 9 = .pointer (some ⟨b9, 0, none⟩) ∧ ρ 92 = .bool (decide (cut = 0 ∨ f cut < bestF f cut)) ∧ St w w' [(b9, 39, encR (ofQ (f cut))), (b7, 39, encR (ofQ (bestF f cut))), (b6, 39, encR zRR)]) ?_ ?_
    · repeat (with_reducible first | refine c_seq ?_ | refine c_block ?_ | refine c_skip ?_ | refine x_then ?_ | refine x_block ?_)
      by_cases hc0 : cut = 0
      · repeat (with_reducible first | refine c_seq ?_ | refine c_block ?_ | refine c_skip ?_ | refine x_then ?_ | refine x_block ?_)
        refine c_reg ?_
        refine l_pure rfl (s_move  h8 ?_)
        refine l_pure rfl (s_eql  rfl rfl ?_)
        refine l_pure rfl (s_move  rfl ?_)
        refine l_no (gno_yes 88 (by kernel_rfl) rfl (decide_eq_true (by omega))) ?_
        refine l_no (gno_yes 88 (by kernel_rfl) rfl (decide_eq_true (by omega))) ?_
        refine l_no (gno_yes 88 (by kernel_rfl) rfl (decide_eq_true (by omega))) ?_
        refine l_pure rfl (s_pick (vb rfl (decide_eq_true (by omega))) rfl ?_)
        refine l_nil ?_
        repeat (with_reducible first | refine c_seq ?_ | refine c_block ?_ | refine c_skip ?_ | refine x_then ?_ | refine x_block ?_)
        exact ⟨_, rfl, h0, h1, h2, h6, h7, h8, h9, vb rfl (decide_eq_true (.inl hc0)).symm, hS⟩
      · repeat (with_reducible first | refine c_seq ?_ | refine c_block ?_ | refine c_skip ?_ | refine x_then ?_ | refine x_block ?_)
        refine c_reg ?_
        refine l_pure rfl (s_move  h8 ?_)
        refine l_pure rfl (s_eql  rfl rfl ?_)
        refine l_pure rfl (s_move  rfl ?_)
        refine l_read (gd_yes 88 (by kernel_rfl) rfl (decide_eq_false (by omega))) (s_ldo (k := 0)  h9 vi_39 hS rfl rfl rfl (.inl rfl) ?_)
        refine l_read (gd_yes 88 (by kernel_rfl) rfl (decide_eq_false (by omega))) (s_ldo (k := 1)  h7 vi_39 hS rfl rfl rfl (.inl rfl) ?_)
        refine l_heavy (gd_yes 88 (by kernel_rfl) rfl (decide_eq_false (by omega))) (s_call Tryz.call60 rfl (rLess_ok (f cut) (bestF f cut) _ (by omega)) ?_)
        rintro _ wc11 ⟨rfl, hBc11⟩
        replace hS := hS.grow hBc11
        refine l_pure rfl (s_pick (vb rfl (decide_eq_false (by omega))) rfl ?_)
        refine l_nil ?_
        repeat (with_reducible first | refine c_seq ?_ | refine c_block ?_ | refine c_skip ?_ | refine x_then ?_ | refine x_block ?_)
        exact ⟨_, rfl, h0, h1, h2, h6, h7, h8, h9, vb rfl (decide_eq_decide.2 ⟨.inr, fun q => q.resolve_left hc0⟩), hS⟩
    clear hS h0 h1 h2 h6 h7 h8 h9
    rintro ρ w5 ⟨h0, h1, h2, h6, h7, h8, h9, h92, hS⟩
    repeat (with_reducible first | refine c_seq ?_ | refine c_block ?_ | refine c_skip ?_ | refine x_then ?_ | refine x_block ?_)
    by_cases hbt : cut = 0 ∨ f cut < bestF f cut
    · refine c_yes h92 (decide_eq_true hbt) ?_
      repeat (with_reducible first | refine c_seq ?_ | refine c_block ?_ | refine c_skip ?_ | refine x_then ?_ | refine x_block ?_)
      rw [if_pos hbt] at hbs
      repeat (with_reducible first | refine c_seq ?_ | refine c_block ?_ | refine c_skip ?_ | refine x_then ?_ | refine x_block ?_)
      refine c_reg ?_
      refine l_read rfl (s_ldo (k := 0)  h9 vi_39 hS rfl rfl rfl (.inl rfl) ?_)
      refine l_heavy rfl (s_sta (k := 1)  h7 rfl vi_39 hS rfl rfl rfl (Nat.le_of_ble_eq_true rfl) rfl ?_)
      intro wz12 hS
      refine l_nil ?_
      repeat (with_reducible first | refine c_seq ?_ | refine c_block ?_ | refine c_skip ?_ | refine x_then ?_ | refine x_block ?_)
      refine c_reg ?_
      refine l_pure rfl (s_move  h8 ?_)
      refine l_pure rfl (s_add  rfl rfl (IntWalk.i64_in _ (by omega)) ?_)
      refine l_pure rfl (s_asg  rfl ?_)
      refine l_nil ?_
      repeat (with_reducible first | refine c_seq ?_ | refine c_block ?_ | refine c_skip ?_ | refine x_then ?_ | refine x_block ?_)
      exact ⟨cut + 1, _, rfl, ⟨hlt, h0, h1, h2, h6, h7, vi rfl (by omega), (hS.drop (List.sublist_cons_self _ _)).cast (by rw [hbs]; rfl)⟩, by omega⟩
    · refine c_no h92 (decide_eq_false hbt) ?_
      repeat (with_reducible first | refine c_seq ?_ | refine c_block ?_ | refine c_skip ?_ | refine x_then ?_ | refine x_block ?_)
      rw [if_neg hbt] at hbs
      repeat (with_reducible first | refine c_seq ?_ | refine c_block ?_ | refine c_skip ?_ | refine x_then ?_ | refine x_block ?_)
      refine c_reg ?_
      refine l_pure rfl (s_move  h8 ?_)
      refine l_pure rfl (s_add  rfl rfl (IntWalk.i64_in _ (by omega)) ?_)
      refine l_pure rfl (s_asg  rfl ?_)
      refine l_nil ?_
      repeat (with_reducible first | refine c_seq ?_ | refine c_block ?_ | refine c_skip ?_ | refine x_then ?_ | refine x_block ?_)
      exact ⟨cut + 1, _, rfl, ⟨hlt, h0, h1, h2, h6, h7, vi rfl (by omega), (hS.drop (List.sublist_cons_self _ _)).cast (by rw [hbs])⟩, by omega⟩
  · refine c_no rfl (decide_eq_false (by omega)) ?_
    repeat (with_reducible first | refine c_seq ?_ | refine c_block ?_ | refine c_skip ?_ | refine x_then ?_ | refine x_block ?_)
    refine c_exit ?_
    repeat (with_reducible first | refine x_then_exit ?_ | refine x_block_exit ?_ | refine x_block_pass rfl ?_)
    repeat (with_reducible first | refine c_seq ?_ | refine c_block ?_ | refine c_skip ?_ | refine x_then ?_ | refine x_block ?_)
    obtain rfl : cut = N := by omega
    have hN0 : cut ≠ 0 := by rw [hN]; exact Nat.ne_of_gt (Nat.two_pow_pos n)
    have hb : bestF f cut = capQ X owed fun c => S.getD c false := by
      unfold bestF capQ
      rw [if_neg hN0, hf, hN, hn]
    rw [hb] at hS
    repeat (with_reducible first | refine c_seq ?_ | refine c_block ?_ | refine c_skip ?_ | refine x_then ?_ | refine x_block ?_)
    refine c_reg ?_
    refine l_read rfl (s_ldo (k := 0)  h7 vi_39 hS rfl rfl rfl (.inl rfl) ?_)
    refine l_heavy rfl (s_sta (k := 1)  h6 rfl vi_39 hS rfl rfl rfl (Nat.le_of_ble_eq_true rfl) rfl ?_)
    intro wz13 hS
    refine l_nil ?_
    repeat (with_reducible first | refine c_seq ?_ | refine c_block ?_ | refine c_skip ?_ | refine x_then ?_ | refine x_block ?_)
    refine c_ret ?_
    repeat (with_reducible first | refine x_then_ret ?_ | refine x_block_ret ?_)
    refine r_cell (k := 1) rfl h6 vi_39 hS rfl rfl ?_
    exact ⟨rfl, hS.below⟩
end Go.Proofs.YtfocimgpahjkmaaGreatDoor
namespace Go.Proofs.YtfocimgpahjkmaaGreatDoor
open Go Go.RowKit Go.Sx

theorem capQ_congr {X : List It} {owed : List RR} {s t : Nat → Bool} (h : ∀ c, c < owed.length → s c = t c) : capQ X owed s = capQ X owed t := by
  have : capF X owed s = capF X owed t := funext fun j => capF_congr X owed h j
  unfold capQ
  rw [this]
def setT (k c : Nat) : Bool := decide (c < k)
theorem setT_set {m k : Nat} (_ : k < m) : (tab m (setT k)).set k true = tab m (setT (k + 1)) := by
  rw [tab_set]
  refine tab_congr fun i _ => ?_
  unfold setT
  by_cases e : i = k
  · subst e; simp
  · rw [if_neg e]; exact decide_eq_decide.2 (by omega)
theorem capQ_setT (X : List It) (owed : List RR) (k : Nat) : capQ X owed (fun c => (tab owed.length (setT (k + 1))).getD c false) = preQ X owed (k + 1) := by
  unfold preQ
  rw [if_neg (Nat.succ_ne_zero _)]
  exact capQ_congr fun c hc => tab_get _ _ hc
def totP (X : List It) (owed : List RR) (k : Nat) : List RR := tab k fun c => ofQ (preQ X owed (c + 1) - preQ X owed c)
theorem totP_succ (X : List It) (owed : List RR) (k : Nat) : totP X owed (k + 1) = totP X owed k ++ [ofQ (preQ X owed (k + 1) - preQ X owed k)] := tab_succ _ _

set_option maxHeartbeats 1000000 in
theorem rTotals_ok (vi_ vo : Value) (X : List It) (cvs : List Value) (owed : List RR) (K : Nat) (w : World) (hX : Its w vi_ X cvs) (ho : Sl encR 3 w vo owed) (hXB : ItB K X) (hoB : RB K owed) (hK : 100 * K + 100 ≤ MX) :
    Ret Tryz.prog 10 #[vi_, vo] w fun v w' => (∃ vt, v = .tuple #[vt, .int .i64 (checkE X owed)] ∧ Sl encR 3 w' vt (totL X owed)) ∧ Below w.heap.size w w' := by
  have hM : MX = 1099511627776 := rfl
  have hom := ho.maxLen
  have hS := St.init w
  obtain ⟨m, hm⟩ : ∃ m, m = owed.length := ⟨_, rfl⟩
  have hzero : (List.replicate m false) = tab m (setT 0) := by rw [tab_rep]; exact tab_congr fun i _ => by simp [setT]
  have hz : encR zRR = encR (ofQ (preQ X owed 0)) := by unfold preQ; rw [if_pos rfl, ofQ_zero]; rfl
  refine enter Tryz.func10 rfl Tryz.ntmps10 rfl ?_
  repeat (with_reducible first | refine c_seq ?_ | refine c_block ?_ | refine c_skip ?_ | refine x_then ?_ | refine x_block ?_)
  refine c_reg ?_
  refine l_pure rfl (s_asg  rfl ?_)
  refine l_pure rfl (s_asg  rfl ?_)
  refine l_nil ?_
  repeat (with_reducible first | refine c_seq ?_ | refine c_block ?_ | refine c_skip ?_ | refine x_then ?_ | refine x_block ?_)
  refine c_reg ?_
  refine l_pure rfl (s_move  rfl ?_)
  refine l_pure rfl (s_move  rfl ?_)
  refine l_heavy rfl (s_call Tryz.call31 rfl (rCheck_ok vi_ vo X cvs owed _ (hX.below hS.below) (ho.below hS.below) (ItB_mono hXB (by omega)) (RB_mono hoB (by omega))) ?_)
  rintro _ wc1 ⟨rfl, hBc1⟩
  replace hS := hS.grow hBc1
  refine l_pure rfl (s_asg  rfl ?_)
  refine l_nil ?_
  repeat (with_reducible first | refine c_seq ?_ | refine c_block ?_ | refine c_skip ?_ | refine x_then ?_ | refine x_block ?_)
  obtain ⟨e, he⟩ : ∃ e, e = checkE X owed := ⟨_, rfl⟩
  rw [← he]
  repeat (with_reducible first | refine c_seq ?_ | refine c_block ?_ | refine c_skip ?_ | refine x_then ?_ | refine x_block ?_)
  refine c_reg ?_
  refine l_pure rfl (s_move  rfl ?_)
  refine l_pure rfl (s_neq  rfl rfl ?_)
  refine l_nil ?_
  repeat (with_reducible first | refine c_seq ?_ | refine c_block ?_ | refine c_skip ?_ | refine x_then ?_ | refine x_block ?_)
  by_cases h0 : e = 0
  · refine c_no rfl (decide_eq_false (by omega)) ?_
    repeat (with_reducible first | refine c_seq ?_ | refine c_block ?_ | refine c_skip ?_ | refine x_then ?_ | refine x_block ?_)
    have hck := he.symm.trans h0
    obtain ⟨hX8, ho24, hng, hit, hcl⟩ := checkE_zero hck
    repeat (with_reducible first | refine c_seq ?_ | refine c_block ?_ | refine c_skip ?_ | refine x_then ?_ | refine x_block ?_)
    refine c_reg ?_
    refine l_pure rfl (s_asg  rfl ?_)
    refine l_nil ?_
    repeat (with_reducible first | refine c_seq ?_ | refine c_block ?_ | refine c_skip ?_ | refine x_then ?_ | refine x_block ?_)
    refine c_reg ?_
    refine l_pure rfl (s_move  rfl ?_)
    refine l_pure rfl (s_lenr  rfl (ho.below hS.below) ⟨_, Tryz.underlying24⟩ ?_)
    refine l_heavy rfl (s_makeE (enc := enB) (n := m) false  rfl rfl si_72 rfl (by omega) (by omega) (by omega) (by omega) hS ?_)
    intro b8 wz2 hS hBz2
    refine l_pure rfl (s_asg  rfl ?_)
    refine l_nil ?_
    repeat (with_reducible first | refine c_seq ?_ | refine c_block ?_ | refine c_skip ?_ | refine x_then ?_ | refine x_block ?_)
    rw [← hm]
    repeat (with_reducible first | refine c_seq ?_ | refine c_block ?_ | refine c_skip ?_ | refine x_then ?_ | refine x_block ?_)
    refine c_reg ?_
    refine l_pure rfl (s_build  rfl bz_39 ?_)
    refine l_heavy rfl (s_alloc  vi_39 hS ?_)
    intro b9 wz3 hS hBz3
    refine l_heavy rfl (s_sta (k := 0)  rfl rfl vi_39 hS rfl rfl rfl (Nat.le_of_ble_eq_true rfl) rfl ?_)
    intro wz4 hS
    refine l_nil ?_
    repeat (with_reducible first | refine c_seq ?_ | refine c_block ?_ | refine c_skip ?_ | refine x_then ?_ | refine x_block ?_)
    rw [hzero] at hS
    replace hS : St w _ [(b9, 39, encR zRR), (b8, 4, (tab m (setT 0)).flatMap enB)] := hS
    rw [hz] at hS
    repeat (with_reducible first | refine c_seq ?_ | refine c_block ?_ | refine c_skip ?_ | refine x_then ?_ | refine x_block ?_)
    refine c_reg ?_
    refine l_pure rfl (s_asg  rfl ?_)
    refine l_nil ?_
    repeat (with_reducible first | refine c_seq ?_ | refine c_block ?_ | refine c_skip ?_ | refine x_then ?_ | refine x_block ?_)
    refine c_loop (σ := Nat) (fun c ρ w' => c ≤ m ∧ ρ 0 = vi_ ∧ ρ 1 = vo ∧ ρ 8 = .slice (some ⟨b8, 0, none⟩) m m ∧ ρ 9 = .pointer (some ⟨b9, 0, none⟩) ∧ ρ 10 = .int .i64 c ∧
        ∃ sT LT, ρ 7 = sT ∧ Gl encR 39 3 sT (totP X owed c) LT ∧ St w w' ([(b9, 39, encR (ofQ (preQ X owed c))), (b8, 4, (tab m (setT c)).flatMap enB)] ++ LT)) (fun c => m - c) 0
      ⟨Nat.zero_le _, rfl, rfl, rfl, rfl, rfl, ⟨_, [], rfl, Gl.nil _ _ _, by rw [List.append_nil]; exact hS⟩⟩ ?_
    clear hS
    rintro c ρ w4 ⟨hc, h0', h1, h8, h9, h10, sT, LT, h7, hG, hS⟩
    have htl := tab_len m (setT c)
    repeat (with_reducible first | refine c_seq ?_ | refine c_block ?_ | refine c_skip ?_ | refine x_then ?_ | refine x_block ?_)
    refine c_reg ?_
    refine l_pure rfl (s_move  h10 ?_)
    refine l_pure rfl (s_move  h1 ?_)
    refine l_pure rfl (s_lenr  rfl (ho.below hS.below) ⟨_, Tryz.underlying24⟩ ?_)
    refine l_pure rfl (s_lss  rfl rfl ?_)
    refine l_nil ?_
    repeat (with_reducible first | refine c_seq ?_ | refine c_block ?_ | refine c_skip ?_ | refine x_then ?_ | refine x_block ?_)
    by_cases hlt : c < m
    · refine c_yes rfl (decide_eq_true (by omega)) ?_
      repeat (with_reducible first | refine c_seq ?_ | refine c_block ?_ | refine c_skip ?_ | refine x_then ?_ | refine x_block ?_)
      have hst := setT_set hlt
      have hL1 := L_preQ hXB hoB hX8 ho24 (c + 1)
      have hL2 := L_preQ hXB hoB hX8 ho24 c
      have hpl : (totP X owed c).length = c := tab_len _ _
      repeat (with_reducible first | refine c_seq ?_ | refine c_block ?_ | refine c_skip ?_ | refine x_then ?_ | refine x_block ?_)
      refine c_reg ?_
      refine l_pure rfl (s_move  h8 ?_)
      refine l_pure rfl (s_move  h10 ?_)
      refine l_pure rfl (s_ixo (i := c)  rfl rfl (by omega) (by first | omega | (simp; done) | (simp; omega)) si_72 ?_)
      refine l_heavy rfl (s_stE (k := 1) (i := c) (enc := enB) true (fun _ => rfl)  rfl rfl vi_4 hS rfl (by first | omega | simp) (by first | omega | (simp; done) | (simp; omega)) rfl rfl ?_)
      intro wz5 hS
      refine l_nil ?_
      repeat (with_reducible first | refine c_seq ?_ | refine c_block ?_ | refine c_skip ?_ | refine x_then ?_ | refine x_block ?_)
      replace hS : St w _ ([(b9, 39, encR (ofQ (preQ X owed c))), (b8, 4, ((tab m (setT c)).set c true).flatMap enB)] ++ LT) := hS
      rw [hst] at hS
      repeat (with_reducible first | refine c_seq ?_ | refine c_block ?_ | refine c_skip ?_ | refine x_then ?_ | refine x_block ?_)
      refine c_reg ?_
      refine l_pure rfl (s_move  h0' ?_)
      refine l_pure rfl (s_move  h1 ?_)
      refine l_pure rfl (s_move  h8 ?_)
      have hsl : Sl enB 1 _ (.slice (some ⟨b8, 0, none⟩) m m) _ := hS.sle (k := 1) (enc := enB) (n := m) (cap := m) rfl enB_len (by rw [tab_len]; exact Nat.le_refl _) (Nat.le_refl _) (by omega)
      rw [List.take_of_length_le (by rw [tab_len]; exact Nat.le_refl _)] at hsl
      refine l_heavy rfl (s_call Tryz.call32 rfl (rcapacity_ok vi_ vo _ X cvs owed (tab m (setT (c + 1))) K _ (hX.below hS.below) (ho.below hS.below) hsl (by rw [tab_len]; exact hm) hXB hoB hK hX8 ho24) ?_)
      rintro r w5 ⟨rfl, hB5⟩
      replace hS := hS.grow hB5
      have hcq := capQ_setT X owed c
      rw [← hm] at hcq
      rw [hcq]
      refine l_heavy rfl (s_alloc  vi_39 hS ?_)
      intro b11 wz6 hS hBz6
      refine l_heavy rfl (s_sta (k := 0)  rfl rfl vi_39 hS rfl rfl rfl (Nat.le_of_ble_eq_true rfl) rfl ?_)
      intro wz7 hS
      refine l_nil ?_
      repeat (with_reducible first | refine c_seq ?_ | refine c_block ?_ | refine c_skip ?_ | refine x_then ?_ | refine x_block ?_)
      replace hS : St w _ ([(b11, 39, encR (ofQ (preQ X owed (c + 1)))), (b9, 39, encR (ofQ (preQ X owed c))), (b8, 4, (tab m (setT (c + 1))).flatMap enB)] ++ LT) := hS
      repeat (with_reducible first | refine c_seq ?_ | refine c_block ?_ | refine c_skip ?_ | refine x_then ?_ | refine x_block ?_)
      refine c_reg ?_
      refine l_pure rfl (s_move  h7 ?_)
      refine l_read rfl (s_ldo (k := 0)  rfl vi_39 hS rfl rfl rfl (.inl rfl) ?_)
      refine l_read rfl (s_ldo (k := 1)  h9 vi_39 hS rfl rfl rfl (.inl rfl) ?_)
      refine l_heavy rfl (s_call Tryz.call33 rfl (rMinus_ok (preQ X owed (c + 1)) (preQ X owed c) _ (by omega)) ?_)
      rintro r w6 ⟨rfl, hB6⟩
      replace hS := hS.grow hB6
      replace hS : St w _ ([(b11, 39, encR (ofQ (preQ X owed (c + 1)))), (b9, 39, encR (ofQ (preQ X owed c))), (b8, 4, (tab m (setT (c + 1))).flatMap enB)] ++ LT) := hS
      refine l_heavy rfl (s_bsl (vs := [aggR (ofQ (preQ X owed (c + 1) - preQ X owed c))])  rfl si_24 rfl (by decide) (by decide) (by decide) (by simp [Value.cells, aggR]) rfl hS ?_)
      intro bx wz8 hS hBz8
      refine l_heavy rfl (s_appl [ofQ (preQ X owed (c + 1) - preQ X owed c)]  rfl rfl si_24 (by decide) hG hS rfl rfl encR_len (encR_one [ofQ (preQ X owed (c + 1) - preQ X owed c)]) (by first | omega | (simp only [List.length_cons, List.length_nil]; omega)) (by first | omega | (simp only [List.length_cons, List.length_nil]; omega)) ?_)
      intro va9 La9 wa9 hG hS hga9
      refine l_pure rfl (s_asg  rfl ?_)
      refine l_nil ?_
      repeat (with_reducible first | refine c_seq ?_ | refine c_block ?_ | refine c_skip ?_ | refine x_then ?_ | refine x_block ?_)
      rw [← totP_succ] at hG
      repeat (with_reducible first | refine c_seq ?_ | refine c_block ?_ | refine c_skip ?_ | refine x_then ?_ | refine x_block ?_)
      refine c_reg ?_
      refine l_read rfl (s_ldo (k := 0)  rfl vi_39 hS rfl rfl rfl (.inl rfl) ?_)
      refine l_heavy rfl (s_sta (k := 1)  h9 rfl vi_39 hS rfl rfl rfl (Nat.le_of_ble_eq_true rfl) rfl ?_)
      intro wz10 hS
      refine l_nil ?_
      repeat (with_reducible first | refine c_seq ?_ | refine c_block ?_ | refine c_skip ?_ | refine x_then ?_ | refine x_block ?_)
      replace hS : St w _ ((b11, 39, encR (ofQ (preQ X owed (c + 1)))) :: ([(b9, 39, encR (ofQ (preQ X owed (c + 1)))), (b8, 4, (tab m (setT (c + 1))).flatMap enB)] ++ _)) := hS
      repeat (with_reducible first | refine c_seq ?_ | refine c_block ?_ | refine c_skip ?_ | refine x_then ?_ | refine x_block ?_)
      refine c_reg ?_
      refine l_pure rfl (s_move  h10 ?_)
      refine l_pure rfl (s_add  rfl rfl (IntWalk.i64_in _ (by omega)) ?_)
      refine l_pure rfl (s_asg  rfl ?_)
      refine l_nil ?_
      repeat (with_reducible first | refine c_seq ?_ | refine c_block ?_ | refine c_skip ?_ | refine x_then ?_ | refine x_block ?_)
      exact ⟨c + 1, _, rfl, ⟨hlt, h0', h1, h8, h9, vi rfl (by omega), ⟨_, _, rfl, hG, hS.drop (List.sublist_cons_self _ _)⟩⟩, by omega⟩
    · refine c_no rfl (decide_eq_false (by omega)) ?_
      repeat (with_reducible first | refine c_seq ?_ | refine c_block ?_ | refine c_skip ?_ | refine x_then ?_ | refine x_block ?_)
      refine c_exit ?_
      repeat (with_reducible first | refine x_then_exit ?_ | refine x_block_exit ?_ | refine x_block_pass rfl ?_)
      repeat (with_reducible first | refine c_seq ?_ | refine c_block ?_ | refine c_skip ?_ | refine x_then ?_ | refine x_block ?_)
      obtain rfl : c = m := by omega
      repeat (with_reducible first | refine c_seq ?_ | refine c_block ?_ | refine c_skip ?_ | refine x_then ?_ | refine x_block ?_)
      refine c_reg ?_
      refine l_pure rfl (s_move  h7 ?_)
      refine l_pure rfl (s_asg  rfl ?_)
      refine l_pure rfl (s_asg  rfl ?_)
      refine l_nil ?_
      repeat (with_reducible first | refine c_seq ?_ | refine c_block ?_ | refine c_skip ?_ | refine x_then ?_ | refine x_block ?_)
      refine c_ret ?_
      repeat (with_reducible first | refine x_then_ret ?_ | refine x_block_ret ?_)
      refine r_two rfl rfl rfl ?_
      refine ⟨⟨_, by rw [h0]; rfl, ?_⟩, hS.below⟩
      have ht : totL X owed = totP X owed c := by rw [hm]; exact if_pos hck
      rw [ht]
      exact hG.sl hS encR_len
  · refine c_yes rfl (decide_eq_true (by omega)) ?_
    repeat (with_reducible first | refine c_seq ?_ | refine c_block ?_ | refine c_skip ?_ | refine x_then ?_ | refine x_block ?_)
    refine c_reg ?_
    refine l_pure rfl (s_move  rfl ?_)
    refine l_pure rfl (s_asg  rfl ?_)
    refine l_pure rfl (s_asg  rfl ?_)
    refine l_nil ?_
    repeat (with_reducible first | refine c_seq ?_ | refine c_block ?_ | refine c_skip ?_ | refine x_then ?_ | refine x_block ?_)
    refine c_ret ?_
    repeat (with_reducible first | refine x_then_ret ?_ | refine x_block_ret ?_)
    refine r_two rfl rfl rfl ?_
    refine ⟨⟨_, rfl, ?_⟩, hS.below⟩
    have ht : totL X owed = [] := if_neg fun g => h0 (he.trans g)
    rw [ht]
    exact Sl.nil _ _ _
end Go.Proofs.YtfocimgpahjkmaaGreatDoor
namespace Go.Proofs.YtfocimgpahjkmaaGreatDoor
open Go Go.RowKit Go.Sx

set_option maxHeartbeats 1000000 in
theorem rCapacity_ok (vi_ vo vc : Value) (X : List It) (cvs : List Value) (owed : List RR) (L : List Int) (K : Nat) (w : World) (hX : Its w vi_ X cvs) (ho : Sl encR 3 w vo owed) (hL : Sl enI 1 w vc L) (hXB : ItB K X) (hoB : RB K owed) (hK : 100 * K + 100 ≤ MX) :
    Ret Tryz.prog 17 #[vi_, vo, vc] w fun v w' => v = .tuple #[aggR (capR X owed L), .int .i64 (capE X owed L)] ∧ Below w.heap.size w w' := by
  have hM : MX = 1099511627776 := rfl
  have hLm := hL.maxLen
  have hom := ho.maxLen
  obtain ⟨m, hm⟩ : ∃ m, m = owed.length := ⟨_, rfl⟩
  have hzero : (List.replicate m false) = tab m (inT L 0) := by rw [tab_rep]; exact tab_congr fun i _ => rfl
  have hS := St.init w
  refine enter Tryz.func17 rfl Tryz.ntmps17 rfl ?_
  repeat (with_reducible first | refine c_seq ?_ | refine c_block ?_ | refine c_skip ?_ | refine x_then ?_ | refine x_block ?_)
  refine c_reg ?_
  refine l_heavy rfl (s_alloc  vi_39 hS ?_)
  intro b6 wz1 hS hBz1
  refine l_pure rfl (s_asg  rfl ?_)
  refine l_nil ?_
  repeat (with_reducible first | refine c_seq ?_ | refine c_block ?_ | refine c_skip ?_ | refine x_then ?_ | refine x_block ?_)
  refine c_reg ?_
  refine l_pure rfl (s_move  rfl ?_)
  refine l_pure rfl (s_move  rfl ?_)
  refine l_heavy rfl (s_call Tryz.call31 rfl (rCheck_ok vi_ vo X cvs owed _ (hX.below hS.below) (ho.below hS.below) (ItB_mono hXB (by omega)) (RB_mono hoB (by omega))) ?_)
  rintro _ wc2 ⟨rfl, hBc2⟩
  replace hS := hS.grow hBc2
  refine l_pure rfl (s_asg  rfl ?_)
  refine l_nil ?_
  repeat (with_reducible first | refine c_seq ?_ | refine c_block ?_ | refine c_skip ?_ | refine x_then ?_ | refine x_block ?_)
  obtain ⟨e, he⟩ : ∃ e, e = checkE X owed := ⟨_, rfl⟩
  rw [← he]
  repeat (with_reducible first | refine c_seq ?_ | refine c_block ?_ | refine c_skip ?_ | refine x_then ?_ | refine x_block ?_)
  refine c_reg ?_
  refine l_pure rfl (s_move  rfl ?_)
  refine l_pure rfl (s_neq  rfl rfl ?_)
  refine l_nil ?_
  repeat (with_reducible first | refine c_seq ?_ | refine c_block ?_ | refine c_skip ?_ | refine x_then ?_ | refine x_block ?_)
  by_cases h0 : e = 0
  · refine c_no rfl (decide_eq_false (by omega)) ?_
    repeat (with_reducible first | refine c_seq ?_ | refine c_block ?_ | refine c_skip ?_ | refine x_then ?_ | refine x_block ?_)
    have hck := he.symm.trans h0
    obtain ⟨hX8, ho24, hng, hit, hcl⟩ := checkE_zero hck
    repeat (with_reducible first | refine c_seq ?_ | refine c_block ?_ | refine c_skip ?_ | refine x_then ?_ | refine x_block ?_)
    refine c_reg ?_
    refine l_pure rfl (s_move  rfl ?_)
    refine l_pure rfl (s_lenr  rfl (ho.below hS.below) ⟨_, Tryz.underlying24⟩ ?_)
    refine l_heavy rfl (s_makeE (enc := enB) (n := m) false  rfl rfl si_72 rfl (by omega) (by omega) (by omega) (by omega) hS ?_)
    intro b9 wz3 hS hBz3
    refine l_pure rfl (s_asg  rfl ?_)
    refine l_nil ?_
    repeat (with_reducible first | refine c_seq ?_ | refine c_block ?_ | refine c_skip ?_ | refine x_then ?_ | refine x_block ?_)
    rw [← hm]
    rw [hzero] at hS
    replace hS : St w _ [(b9, 4, (tab m (inT L 0)).flatMap enB), (b6, 39, encR zRR)] := hS
    repeat (with_reducible first | refine c_seq ?_ | refine c_block ?_ | refine c_skip ?_ | refine x_then ?_ | refine x_block ?_)
    refine c_reg ?_
    refine l_pure rfl (s_asg  rfl ?_)
    refine l_nil ?_
    repeat (with_reducible first | refine c_seq ?_ | refine c_block ?_ | refine c_skip ?_ | refine x_then ?_ | refine x_block ?_)
    refine c_loop (σ := Nat) (fun k ρ w' => k ≤ L.length ∧ (L.take k).any (fun c => decide (c < 0 ∨ (m : Int) ≤ c)) = false ∧ ρ 0 = vi_ ∧ ρ 1 = vo ∧ ρ 2 = vc ∧ ρ 6 = .pointer (some ⟨b6, 0, none⟩) ∧ ρ 9 = .slice (some ⟨b9, 0, none⟩) m m ∧ ρ 10 = .int .i64 k ∧
        St w w' [(b9, 4, (tab m (inT L k)).flatMap enB), (b6, 39, encR zRR)]) (fun k => L.length - k) 0
      ⟨Nat.zero_le _, rfl, rfl, rfl, rfl, rfl, rfl, rfl, hS⟩ ?_
    clear hS
    rintro k ρ w4 ⟨hk1, hok, h0', h1, h2, h6, h9, h10, hS⟩
    have htl := tab_len m (inT L k)
    repeat (with_reducible first | refine c_seq ?_ | refine c_block ?_ | refine c_skip ?_ | refine x_then ?_ | refine x_block ?_)
    refine c_reg ?_
    refine l_pure rfl (s_move  h10 ?_)
    refine l_pure rfl (s_move  h2 ?_)
    refine l_pure rfl (s_lenr  rfl (hL.below hS.below) ⟨_, Tryz.underlying36⟩ ?_)
    refine l_pure rfl (s_lss  rfl rfl ?_)
    refine l_nil ?_
    repeat (with_reducible first | refine c_seq ?_ | refine c_block ?_ | refine c_skip ?_ | refine x_then ?_ | refine x_block ?_)
    by_cases hk : k < L.length
    · refine c_yes rfl (decide_eq_true (by omega)) ?_
      repeat (with_reducible first | refine c_seq ?_ | refine c_block ?_ | refine c_skip ?_ | refine x_then ?_ | refine x_block ?_)
      obtain ⟨c, hc⟩ : ∃ c, c = L.getD k 0 := ⟨_, rfl⟩
      obtain ⟨e1, e2⟩ := any_take_step (fun c => decide (c < 0 ∨ (m : Int) ≤ c)) L 0 hk hok
      rw [← hc] at e1 e2
      refine c_cut1 (fun ρ w' => ρ 0 = vi_ ∧ ρ 1 = vo ∧ ρ 2 = vc ∧ ρ 6 = .pointer (some ⟨b6, 0, none⟩) ∧ ρ 9 = .slice (some ⟨b9, 0, none⟩) m m ∧ ρ 10 = .int .i64 k ∧ ρ 40 = .bool (decide (c < 0 ∨ (m : Int) ≤ c)) ∧
        St w w' [(b9, 4, (tab m (inT L k)).flatMap enB), (b6, 39, encR zRR)]) ?_ ?_
      · repeat (with_reducible first | refine c_seq ?_ | refine c_block ?_ | refine c_skip ?_ | refine x_then ?_ | refine x_block ?_)
        by_cases hp : c < 0
        · repeat (with_reducible first | refine c_seq ?_ | refine c_block ?_ | refine c_skip ?_ | refine x_then ?_ | refine x_block ?_)
          refine c_reg ?_
          refine l_pure rfl (s_move  h2 ?_)
          refine l_pure rfl (s_move  h10 ?_)
          refine l_pure rfl (s_ixr (i := k)  rfl rfl (hL.below hS.below) (by omega) (by first | omega | (simp; done) | (simp; omega)) si_36 ?_)
          refine l_read rfl (s_lde (v := .int .i64 c) (i := k) 0  rfl vi_3 (hL.below hS.below) (by omega) rfl (by rw [← hc]; rfl) (.inr rfl) ?_)
          refine l_pure rfl (s_lss  rfl rfl ?_)
          refine l_pure rfl (s_move  rfl ?_)
          refine l_no (gno_yes 32 (by kernel_rfl) rfl (decide_eq_true hp)) ?_
          refine l_no (gno_yes 32 (by kernel_rfl) rfl (decide_eq_true hp)) ?_
          refine l_no (gno_yes 32 (by kernel_rfl) rfl (decide_eq_true hp)) ?_
          refine l_no (gno_yes 32 (by kernel_rfl) rfl (decide_eq_true hp)) ?_
          refine l_no (gno_yes 32 (by kernel_rfl) rfl (decide_eq_true hp)) ?_
          refine l_no (gno_yes 32 (by kernel_rfl) rfl (decide_eq_true hp)) ?_
          refine l_no (gno_yes 32 (by kernel_rfl) rfl (decide_eq_true hp)) ?_
          refine l_pure rfl (s_pick (vb rfl (decide_eq_true hp)) rfl ?_)
          refine l_nil ?_
          repeat (with_reducible first | refine c_seq ?_ | refine c_block ?_ | refine c_skip ?_ | refine x_then ?_ | refine x_block ?_)
          exact ⟨_, rfl, h0', h1, h2, h6, h9, h10, vb rfl (decide_eq_true (.inl hp)).symm, hS⟩
        · repeat (with_reducible first | refine c_seq ?_ | refine c_block ?_ | refine c_skip ?_ | refine x_then ?_ | refine x_block ?_)
          refine c_reg ?_
          refine l_pure rfl (s_move  h2 ?_)
          refine l_pure rfl (s_move  h10 ?_)
          refine l_pure rfl (s_ixr (i := k)  rfl rfl (hL.below hS.below) (by omega) (by first | omega | (simp; done) | (simp; omega)) si_36 ?_)
          refine l_read rfl (s_lde (v := .int .i64 c) (i := k) 0  rfl vi_3 (hL.below hS.below) (by omega) rfl (by rw [← hc]; rfl) (.inr rfl) ?_)
          refine l_pure rfl (s_lss  rfl rfl ?_)
          refine l_pure rfl (s_move  rfl ?_)
          refine l_pure (gd_yes 32 (by kernel_rfl) rfl (decide_eq_false hp)) (s_move  h2 ?_)
          refine l_pure (gd_yes 32 (by kernel_rfl) rfl (decide_eq_false hp)) (s_move  h10 ?_)
          refine l_pure (gd_yes 32 (by kernel_rfl) rfl (decide_eq_false hp)) (s_ixr (i := k)  rfl rfl (hL.below hS.below) (by omega) (by first | omega | (simp; done) | (simp; omega)) si_36 ?_)
          refine l_read (gd_yes 32 (by kernel_rfl) rfl (decide_eq_false hp)) (s_lde (v := .int .i64 c) (i := k) 0  rfl vi_3 (hL.below hS.below) (by omega) rfl (by rw [← hc]; rfl) (.inr rfl) ?_)
          refine l_pure (gd_yes 32 (by kernel_rfl) rfl (decide_eq_false hp)) (s_move  h1 ?_)
          refine l_pure (gd_yes 32 (by kernel_rfl) rfl (decide_eq_false hp)) (s_lenr  rfl (ho.below hS.below) ⟨_, Tryz.underlying24⟩ ?_)
          refine l_pure (gd_yes 32 (by kernel_rfl) rfl (decide_eq_false hp)) (s_geq  rfl rfl ?_)
          refine l_pure rfl (s_pick (vb rfl (decide_eq_false hp)) rfl ?_)
          refine l_nil ?_
          repeat (with_reducible first | refine c_seq ?_ | refine c_block ?_ | refine c_skip ?_ | refine x_then ?_ | refine x_block ?_)
          exact ⟨_, rfl, h0', h1, h2, h6, h9, h10, vb rfl (by rw [decide_eq_decide, ← hm]; omega), hS⟩
      clear hS h0' h1 h2 h6 h9 h10
      rintro ρ w5 ⟨h0', h1, h2, h6, h9, h10, h40, hS⟩
      repeat (with_reducible first | refine c_seq ?_ | refine c_block ?_ | refine c_skip ?_ | refine x_then ?_ | refine x_block ?_)
      by_cases hb : c < 0 ∨ (m : Int) ≤ c
      · refine c_yes h40 (decide_eq_true hb) ?_
        repeat (with_reducible first | refine c_seq ?_ | refine c_block ?_ | refine c_skip ?_ | refine x_then ?_ | refine x_block ?_)
        have hE : capE X owed L = 1 := by unfold capE; rw [if_pos hck, ← hm, if_pos (e2 (decide_eq_true hb))]
        have hR : capR X owed L = zRR := by unfold capR; rw [hE]; rfl
        rw [hE, hR]
        repeat (with_reducible first | refine c_seq ?_ | refine c_block ?_ | refine c_skip ?_ | refine x_then ?_ | refine x_block ?_)
        refine c_reg ?_
        refine l_pure rfl (s_build  rfl bz_39 ?_)
        refine l_heavy rfl (s_sta (k := 1)  h6 rfl vi_39 hS rfl rfl rfl (Nat.le_of_ble_eq_true rfl) rfl ?_)
        intro wz4 hS
        refine l_pure rfl (s_asg  rfl ?_)
        refine l_nil ?_
        repeat (with_reducible first | refine c_seq ?_ | refine c_block ?_ | refine c_skip ?_ | refine x_then ?_ | refine x_block ?_)
        refine c_ret ?_
        repeat (with_reducible first | refine x_then_ret ?_ | refine x_block_ret ?_)
        refine r_cell_tmp (k := 1) rfl h6 rfl vi_39 hS rfl rfl ?_
        exact ⟨rfl, hS.below⟩
      refine c_no h40 (decide_eq_false hb) ?_
      repeat (with_reducible first | refine c_seq ?_ | refine c_block ?_ | refine c_skip ?_ | refine x_then ?_ | refine x_block ?_)
      obtain ⟨c0, hc0⟩ : ∃ c0 : Nat, c = (c0 : Int) := ⟨_, (Int.toNat_of_nonneg (by omega)).symm⟩
      have hst := inT_step (m := m) hk (hc.symm.trans hc0)
      repeat (with_reducible first | refine c_seq ?_ | refine c_block ?_ | refine c_skip ?_ | refine x_then ?_ | refine x_block ?_)
      refine c_reg ?_
      refine l_pure rfl (s_move  h9 ?_)
      refine l_pure rfl (s_move  h2 ?_)
      refine l_pure rfl (s_move  h10 ?_)
      refine l_pure rfl (s_ixr (i := k)  rfl rfl (hL.below hS.below) (by omega) (by first | omega | (simp; done) | (simp; omega)) si_36 ?_)
      refine l_read rfl (s_lde (v := .int .i64 c) (i := k) 0  rfl vi_3 (hL.below hS.below) (by omega) rfl (by rw [← hc]; rfl) (.inr rfl) ?_)
      refine l_pure rfl (s_ixo (i := c0)  rfl rfl (by omega) (by first | omega | (simp; done) | (simp; omega)) si_72 ?_)
      refine l_heavy rfl (s_stE (k := 0) (i := c0) (enc := enB) true (fun _ => rfl)  rfl rfl vi_4 hS rfl (by first | omega | simp) (by first | omega | (simp; done) | (simp; omega)) rfl rfl ?_)
      intro wz5 hS
      refine l_nil ?_
      repeat (with_reducible first | refine c_seq ?_ | refine c_block ?_ | refine c_skip ?_ | refine x_then ?_ | refine x_block ?_)
      refine c_reg ?_
      refine l_pure rfl (s_move  h10 ?_)
      refine l_pure rfl (s_add  rfl rfl (IntWalk.i64_in _ (by omega)) ?_)
      refine l_pure rfl (s_asg  rfl ?_)
      refine l_nil ?_
      repeat (with_reducible first | refine c_seq ?_ | refine c_block ?_ | refine c_skip ?_ | refine x_then ?_ | refine x_block ?_)
      exact ⟨k + 1, _, rfl, ⟨hk, e1 (decide_eq_false hb), h0', h1, h2, h6, h9, vi rfl (by omega), hS.cast (by show [_, _] = _; rw [hst])⟩, by omega⟩
    · refine c_no rfl (decide_eq_false (by omega)) ?_
      repeat (with_reducible first | refine c_seq ?_ | refine c_block ?_ | refine c_skip ?_ | refine x_then ?_ | refine x_block ?_)
      refine c_exit ?_
      repeat (with_reducible first | refine x_then_exit ?_ | refine x_block_exit ?_ | refine x_block_pass rfl ?_)
      repeat (with_reducible first | refine c_seq ?_ | refine c_block ?_ | refine c_skip ?_ | refine x_then ?_ | refine x_block ?_)
      obtain rfl : k = L.length := by omega
      rw [List.take_length] at hok
      have hE : capE X owed L = 0 := by unfold capE; rw [if_pos hck, ← hm, hok]; rfl
      have hRes : capR X owed L = ofQ (capQ X owed (capS L)) := by unfold capR; rw [if_pos hE]
      have hin : inT L L.length = capS L := by funext c; unfold inT; rw [List.take_length]
      rw [hin] at hS
      rw [hE, hRes]
      repeat (with_reducible first | refine c_seq ?_ | refine c_block ?_ | refine c_skip ?_ | refine x_then ?_ | refine x_block ?_)
      refine c_reg ?_
      refine l_pure rfl (s_move  h0' ?_)
      refine l_pure rfl (s_move  h1 ?_)
      refine l_pure rfl (s_move  h9 ?_)
      have hsl : Sl enB 1 _ (.slice (some ⟨b9, 0, none⟩) m m) _ := hS.sle (k := 0) (enc := enB) (n := m) (cap := m) rfl enB_len (by rw [tab_len]; exact Nat.le_refl _) (Nat.le_refl _) (by omega)
      rw [List.take_of_length_le (by rw [tab_len]; exact Nat.le_refl _)] at hsl
      refine l_heavy rfl (s_call Tryz.call32 rfl (rcapacity_ok vi_ vo _ X cvs owed (tab m (capS L)) K _ (hX.below hS.below) (ho.below hS.below) hsl (by rw [tab_len]; exact hm) hXB hoB hK hX8 ho24) ?_)
      rintro r w5 ⟨rfl, hB5⟩
      replace hS := hS.grow hB5
      have hcq : capQ X owed (fun c => (tab m (capS L)).getD c false) = capQ X owed (capS L) := capQ_congr fun c hc => tab_get _ _ (by omega)
      rw [hcq]
      refine l_heavy rfl (s_sta (k := 1)  h6 rfl vi_39 hS rfl rfl rfl (Nat.le_of_ble_eq_true rfl) rfl ?_)
      intro wz6 hS
      refine l_pure rfl (s_asg  rfl ?_)
      refine l_nil ?_
      repeat (with_reducible first | refine c_seq ?_ | refine c_block ?_ | refine c_skip ?_ | refine x_then ?_ | refine x_block ?_)
      refine c_ret ?_
      repeat (with_reducible first | refine x_then_ret ?_ | refine x_block_ret ?_)
      refine r_cell_tmp (k := 1) rfl h6 rfl vi_39 hS rfl rfl ?_
      exact ⟨rfl, hS.below⟩
  · refine c_yes rfl (decide_eq_true (by omega)) ?_
    repeat (with_reducible first | refine c_seq ?_ | refine c_block ?_ | refine c_skip ?_ | refine x_then ?_ | refine x_block ?_)
    have hne : ¬ checkE X owed = 0 := fun g => h0 (he.trans g)
    have hE : capE X owed L = e := by unfold capE; rw [if_neg hne, he]
    have hR : capR X owed L = zRR := by unfold capR; rw [if_neg (by rw [hE]; exact h0)]
    rw [hE, hR]
    repeat (with_reducible first | refine c_seq ?_ | refine c_block ?_ | refine c_skip ?_ | refine x_then ?_ | refine x_block ?_)
    refine c_reg ?_
    refine l_pure rfl (s_build  rfl bz_39 ?_)
    refine l_pure rfl (s_move  rfl ?_)
    refine l_heavy rfl (s_sta (k := 0)  rfl rfl vi_39 hS rfl rfl rfl (Nat.le_of_ble_eq_true rfl) rfl ?_)
    intro wz7 hS
    refine l_pure rfl (s_asg  rfl ?_)
    refine l_nil ?_
    repeat (with_reducible first | refine c_seq ?_ | refine c_block ?_ | refine c_skip ?_ | refine x_then ?_ | refine x_block ?_)
    refine c_ret ?_
    repeat (with_reducible first | refine x_then_ret ?_ | refine x_block_ret ?_)
    refine r_cell_tmp (k := 0) rfl rfl rfl vi_39 hS rfl rfl ?_
    exact ⟨rfl, hS.below⟩
end Go.Proofs.YtfocimgpahjkmaaGreatDoor
