/-
  The law that capacities are submodular: its walk.
-/
import Derived.Test.YtfocimgpahjkmaaDoorPart6
namespace Go.Proofs.YtfocimgpahjkmaaDoor
open Go Go.RowKit Go.Sx

/-- A list's members from the last one on, each twice, n of them from the end. -/
def rdup (L : List Int) : Nat → List Int
  | 0 => []
  | n + 1 => rdup L n ++ [L.getD (L.length - 1 - n) 0, L.getD (L.length - 1 - n) 0]
theorem rdup_len (L : List Int) (n : Nat) : (rdup L n).length = 2 * n := by
  induction n with
  | zero => rfl
  | succ n ih => rw [rdup, List.length_append, ih]; rfl
theorem rdup_any (L : List Int) (p : Int → Bool) (n : Nat) (hn : n ≤ L.length) : (rdup L n).any p = (L.drop (L.length - n)).any p := by
  induction n with
  | zero => rw [rdup, Nat.sub_zero, List.drop_length]
  | succ n ih =>
    have hk : L.length - (n + 1) < L.length := by omega
    have e : L.getD (L.length - 1 - n) 0 = L[L.length - (n + 1)] := by
      rw [List.getD_eq_getElem?_getD, show L.length - 1 - n = L.length - (n + 1) by omega, List.getElem?_eq_getElem hk]; rfl
    rw [rdup, List.any_append, ih (by omega), List.drop_eq_getElem_cons hk, show L.length - (n + 1) + 1 = L.length - n by omega, e]
    simp only [List.any_cons, List.any_nil, Bool.or_false, Bool.or_self]
    rw [Bool.or_comm]
theorem rdup_all (L : List Int) (p : Int → Bool) : (rdup L L.length).any p = L.any p := by
  rw [rdup_any L p _ (Nat.le_refl _), Nat.sub_self, List.drop_zero]
theorem capE_rdup (X : List It) (owed : List RR) (L : List Int) : capE X owed (rdup L L.length) = capE X owed L := by
  unfold capE
  rw [rdup_all]
theorem capR_rdup (X : List It) (owed : List RR) (L : List Int) : capR X owed (rdup L L.length) = capR X owed L := by
  have h : capS (rdup L L.length) = capS L := by funext c; exact rdup_all L _
  unfold capR
  rw [capE_rdup, h]
theorem capE_setL (l : List (Nat → Nat)) (a : List Nat) (n k bits : Nat) (hn : n ≤ 8) (hk : k ≤ 24) : capE (itemsL l (amts a k).length n) (amts a k) (setL bits (amts a k).length) = 0 := by
  unfold capE
  rw [if_pos (items_check l a n k hn hk), if_neg]
  rw [List.any_eq_true]
  rintro ⟨x, hx, h⟩
  obtain ⟨y, hy, rfl⟩ := List.mem_map.1 hx
  have hy2 := List.mem_range.1 (List.mem_filter.1 hy).1
  have := of_decide_eq_true h
  omega

end Go.Proofs.YtfocimgpahjkmaaDoor
namespace Go.Proofs.YtfocimgpahjkmaaDoor
open Go Go.RowKit Go.Sx

theorem mins_le (f : Nat → Rat) : ∀ (N i : Nat), i < N ∨ i = 0 → mins f N ≤ f i
  | 0, i, h => by
    obtain rfl : i = 0 := by omega
    exact Rat.le_refl
  | N + 1, i, h => by
    have h1 := mins_le f N
    rw [mins]
    unfold minQ
    by_cases e : i = N
    · subst e
      split
      · next g => exact g
      · exact Rat.le_refl
    · have h2 := h1 i (by omega)
      split
      · exact h2
      · next g => exact Rat.le_trans (Rat.le_of_lt (Rat.not_le.1 g)) h2
theorem mins_at (f : Nat → Rat) : ∀ N : Nat, ∃ i, (i < N ∨ i = 0) ∧ mins f N = f i
  | 0 => ⟨0, .inr rfl, rfl⟩
  | N + 1 => by
    obtain ⟨i, hi, e⟩ := mins_at f N
    rw [mins]
    unfold minQ
    split
    · exact ⟨i, by omega, e⟩
    · exact ⟨N, .inl (by omega), rfl⟩
theorem sumIf_four {n : Nat} {p1 p2 p3 p4 : Nat → Bool} {f : Nat → Rat} (h : ∀ i, i < n → (if p3 i = true then f i else 0) + (if p4 i = true then f i else 0) ≤ (if p1 i = true then f i else 0) + (if p2 i = true then f i else 0)) :
    sumIf n p3 f + sumIf n p4 f ≤ sumIf n p1 f + sumIf n p2 f := by
  induction n with
  | zero => exact Rat.le_refl
  | succ n ih =>
    have h1 := ih fun i hi => h i (by omega)
    have h2 := h n (by omega)
    simp only [sumIf]
    grind
theorem sumIf_two {n : Nat} {p q : Nat → Bool} {f : Nat → Rat} (h : ∀ i, i < n → (if p i = true then f i else 0) ≤ (if q i = true then f i else 0)) : sumIf n p f ≤ sumIf n q f := by
  induction n with
  | zero => exact Rat.le_refl
  | succ n ih =>
    have h1 := ih fun i hi => h i (by omega)
    have h2 := h n (by omega)
    simp only [sumIf]
    grind
/-- What is owed is not negative. -/
def Pos (owed : List RR) : Prop := ∀ c, c < owed.length → 0 ≤ owF owed c
theorem capF_mono {X : List It} {owed : List RR} (hp : Pos owed) {s t : Nat → Bool} (h : ∀ c, c < owed.length → s c = true → t c = true) (j : Nat) : capF X owed s j ≤ capF X owed t j := by
  rw [capF_eq, capF_eq]
  refine Rat.add_le_add_left.2 (sumIf_two fun c hc => ?_)
  have h1 := h c hc
  have h2 := hp c hc
  cases hs : s c with
  | false => simp only [Bool.false_and]; split <;> grind
  | true => rw [h1 hs]; exact Rat.le_refl
theorem capQ_mono {X : List It} {owed : List RR} (hp : Pos owed) {s t : Nat → Bool} (h : ∀ c, c < owed.length → s c = true → t c = true) : capQ X owed s ≤ capQ X owed t := by
  unfold capQ
  obtain ⟨i, hi, e⟩ := mins_at (capF X owed t) (2 ^ X.length)
  rw [e]
  exact Rat.le_trans (mins_le _ _ i hi) (capF_mono hp h i)
theorem outs_iff (X : List It) (cut c : Nat) : outs X cut c = true ↔ ∃ i, i < X.length ∧ cut.testBit i = false ∧ secures (X.getD i zIt) c = true := by
  unfold outs
  rw [List.any_eq_true]
  constructor
  · rintro ⟨i, hi, h⟩
    simp only [Bool.and_eq_true, Bool.not_eq_true'] at h
    exact ⟨i, List.mem_range.1 hi, h.1, h.2⟩
  · rintro ⟨i, hi, h1, h2⟩
    exact ⟨i, List.mem_range.2 hi, by rw [h1, h2]; rfl⟩
/-- Adding x to the smaller set s raises its capacity at least as much as adding it to t. -/
theorem capQ_sub {X : List It} {owed : List RR} (hp : Pos owed) {s t sx tx : Nat → Bool} {x : Nat} (hst : ∀ c, c < owed.length → s c = true → t c = true) (hsx : ∀ c, c < owed.length → (sx c = true ↔ s c = true ∨ c = x)) (htx : ∀ c, c < owed.length → (tx c = true ↔ t c = true ∨ c = x)) :
    capQ X owed tx + capQ X owed s ≤ capQ X owed sx + capQ X owed t := by
  unfold capQ
  obtain ⟨i, hi, ei⟩ := mins_at (capF X owed sx) (2 ^ X.length)
  obtain ⟨j, hj, ej⟩ := mins_at (capF X owed t) (2 ^ X.length)
  have hpos : 0 < 2 ^ X.length := Nat.two_pow_pos _
  have hi2 : i < 2 ^ X.length := by omega
  have hj2 : j < 2 ^ X.length := by omega
  rw [ei, ej]
  have h1 : mins (capF X owed tx) (2 ^ X.length) ≤ capF X owed tx (i ||| j) := mins_le _ _ _ (.inl (Nat.or_lt_two_pow hi2 hj2))
  have h2 : mins (capF X owed s) (2 ^ X.length) ≤ capF X owed s (i &&& j) := mins_le _ _ _ (.inl (Nat.lt_of_le_of_lt Nat.and_le_left hi2))
  have h3 : payF X (i ||| j) + payF X (i &&& j) ≤ payF X i + payF X j := by
    unfold payF
    refine sumIf_four fun k _ => ?_
    rw [Nat.testBit_or, Nat.testBit_and]
    cases i.testBit k <;> cases j.testBit k <;> simp <;> grind
  have h4 : sumIf owed.length (fun c => tx c && outs X (i ||| j) c) (owF owed) + sumIf owed.length (fun c => s c && outs X (i &&& j) c) (owF owed) ≤ sumIf owed.length (fun c => sx c && outs X i c) (owF owed) + sumIf owed.length (fun c => t c && outs X j c) (owF owed) := by
    refine sumIf_four fun c hc => ?_
    have hpc := hp c hc
    have a1 : outs X (i ||| j) c = true → outs X i c = true ∧ outs X j c = true := by
      rw [outs_iff, outs_iff, outs_iff]
      rintro ⟨k, hk, h, h'⟩
      rw [Nat.testBit_or, Bool.or_eq_false_iff] at h
      exact ⟨⟨k, hk, h.1, h'⟩, ⟨k, hk, h.2, h'⟩⟩
    have a2 : outs X (i &&& j) c = true → outs X i c = true ∨ outs X j c = true := by
      rw [outs_iff, outs_iff, outs_iff]
      rintro ⟨k, hk, h, h'⟩
      rw [Nat.testBit_and, Bool.and_eq_false_iff] at h
      rcases h with h | h
      · exact .inl ⟨k, hk, h, h'⟩
      · exact .inr ⟨k, hk, h, h'⟩
    have b1 := hst c hc
    have b2 := hsx c hc
    have b3 := htx c hc
    generalize outs X (i ||| j) c = o1 at *
    generalize outs X (i &&& j) c = o2 at *
    generalize outs X i c = o3 at *
    generalize outs X j c = o4 at *
    generalize owF owed c = q at *
    by_cases hx : c = x
    · have b2' := b2.2 (.inr hx)
      have b3' := b3.2 (.inr hx)
      rw [b2', b3']
      cases hs : s c with
      | true =>
        rw [b1 hs]
        cases o1 <;> cases o2 <;> cases o3 <;> cases o4 <;> simp at a1 a2 ⊢ <;> grind
      | false =>
        cases t c <;> cases o1 <;> cases o2 <;> cases o3 <;> cases o4 <;> simp at a1 a2 ⊢ <;> grind
    · have e2 : sx c = s c := Bool.eq_iff_iff.2 (b2.trans ⟨fun g => g.resolve_right hx, .inl⟩)
      have e3 : tx c = t c := Bool.eq_iff_iff.2 (b3.trans ⟨fun g => g.resolve_right hx, .inl⟩)
      rw [e2, e3]
      cases hs : s c with
      | true =>
        rw [b1 hs]
        cases o1 <;> cases o2 <;> cases o3 <;> cases o4 <;> simp at a1 a2 ⊢ <;> grind
      | false =>
        cases t c <;> cases o1 <;> cases o2 <;> cases o3 <;> cases o4 <;> simp at a1 a2 ⊢ <;> grind
  rw [capF_eq] at h1 h2
  rw [capF_eq, capF_eq]
  grind
end Go.Proofs.YtfocimgpahjkmaaDoor
namespace Go.Proofs.YtfocimgpahjkmaaDoor
open Go Go.RowKit Go.Sx

theorem set_gl (bits n : Nat) (w : World) (hb : bits < 256) (hn : n ≤ 8) :
    Ret Tryd.prog 14 #[.int .u8 bits, .int .i64 n] w fun r w' => ∃ LO, Gl enI 3 1 r (setL bits n) LO ∧ St w w' ([] ++ LO) := by
  have hS := St.init w
  refine enter Tryd.func14 rfl Tryd.ntmps14 rfl ?_
  repeat (with_reducible first | refine c_seq ?_ | refine c_block ?_ | refine c_skip ?_ | refine x_then ?_ | refine x_block ?_)
  refine c_reg ?_
  refine l_pure rfl (s_asg  rfl ?_)
  refine l_nil ?_
  repeat (with_reducible first | refine c_seq ?_ | refine c_block ?_ | refine c_skip ?_ | refine x_then ?_ | refine x_block ?_)
  refine c_reg ?_
  refine l_pure rfl (s_asg  rfl ?_)
  refine l_nil ?_
  repeat (with_reducible first | refine c_seq ?_ | refine c_block ?_ | refine c_skip ?_ | refine x_then ?_ | refine x_block ?_)
  refine c_reg ?_
  refine l_pure rfl (s_asg  rfl ?_)
  refine l_nil ?_
  repeat (with_reducible first | refine c_seq ?_ | refine c_block ?_ | refine c_skip ?_ | refine x_then ?_ | refine x_block ?_)
  refine c_loop (σ := Nat) (fun i ρ w' => i ≤ n ∧ ρ 0 = .int .u8 bits ∧ ρ 1 = .int .i64 n ∧ ρ 6 = .int .i64 i ∧ ∃ sO LO, ρ 5 = sO ∧ Gl enI 3 1 sO (setL bits i) LO ∧ St w w' ([] ++ LO)) (fun i => n - i) 0
    ⟨Nat.zero_le _, rfl, rfl, rfl, ⟨_, [], rfl, Gl.nil _ _ _, hS⟩⟩ ?_
  clear hS
  rintro i ρ w2 ⟨hi, h0, h1, h6, sO, LO, h5, hG, hS⟩
  have hal := setL_len bits i
  have hsu := setL_succ bits i
  repeat (with_reducible first | refine c_seq ?_ | refine c_block ?_ | refine c_skip ?_ | refine x_then ?_ | refine x_block ?_)
  refine c_reg ?_
  refine l_pure rfl (s_move  h6 ?_)
  refine l_pure rfl (s_move  h1 ?_)
  refine l_pure rfl (s_lss  rfl rfl ?_)
  refine l_nil ?_
  repeat (with_reducible first | refine c_seq ?_ | refine c_block ?_ | refine c_skip ?_ | refine x_then ?_ | refine x_block ?_)
  by_cases hlt : i < n
  · refine c_yes rfl (decide_eq_true (by omega)) ?_
    repeat (with_reducible first | refine c_seq ?_ | refine c_block ?_ | refine c_skip ?_ | refine x_then ?_ | refine x_block ?_)
    refine c_reg ?_
    refine l_pure rfl (s_move  h0 ?_)
    refine l_pure rfl (s_move  h6 ?_)
    refine l_pure rfl (s_conv  rfl Tryd.underlying59 ⟨_, Tryd.underlying3⟩ (r := ((i : Nat) : Int)) (by exact wr_u64 _ ⟨rfl, by omega, by omega⟩) ?_)
    refine l_pure rfl (s_shr  rfl rfl (by omega) (shr_v bits i (by show _ ≤ 8; omega)) ?_)
    refine l_pure rfl (s_and  rfl rfl (r := (((bits.testBit i).toNat : Nat) : Int)) (by exact bit_u8 hb) ?_)
    refine l_pure rfl (s_eql  rfl rfl ?_)
    refine l_nil ?_
    repeat (with_reducible first | refine c_seq ?_ | refine c_block ?_ | refine c_skip ?_ | refine x_then ?_ | refine x_block ?_)
    by_cases hbt : bits.testBit i = true
    · refine c_yes rfl (decide_eq_true (by rw [hbt]; rfl)) ?_
      repeat (with_reducible first | refine c_seq ?_ | refine c_block ?_ | refine c_skip ?_ | refine x_then ?_ | refine x_block ?_)
      rw [if_pos hbt] at hsu
      repeat (with_reducible first | refine c_seq ?_ | refine c_block ?_ | refine c_skip ?_ | refine x_then ?_ | refine x_block ?_)
      refine c_reg ?_
      refine l_pure rfl (s_move  h5 ?_)
      refine l_pure rfl (s_move  h6 ?_)
      refine l_heavy rfl (s_bsl (vs := [.int .i64 (i : Int)])  rfl si_39 rfl (by decide) (by decide) (by decide) (by simp [Value.cells]) rfl hS ?_)
      intro bx wz1 hS hBz1
      refine l_heavy rfl (s_appl [(i : Int)]  rfl rfl si_39 (by decide) hG hS rfl rfl enI_len (enI_one [(i : Int)]) (by first | omega | (simp only [List.length_cons, List.length_nil]; omega)) (by first | omega | (simp only [List.length_cons, List.length_nil]; omega)) ?_)
      intro va2 La2 wa2 hG hS hga2
      refine l_pure rfl (s_asg  rfl ?_)
      refine l_nil ?_
      repeat (with_reducible first | refine c_seq ?_ | refine c_block ?_ | refine c_skip ?_ | refine x_then ?_ | refine x_block ?_)
      rw [← hsu] at hG
      repeat (with_reducible first | refine c_seq ?_ | refine c_block ?_ | refine c_skip ?_ | refine x_then ?_ | refine x_block ?_)
      refine c_reg ?_
      refine l_pure rfl (s_move  h6 ?_)
      refine l_pure rfl (s_add  rfl rfl (IntWalk.i64_in _ (by omega)) ?_)
      refine l_pure rfl (s_asg  rfl ?_)
      refine l_nil ?_
      repeat (with_reducible first | refine c_seq ?_ | refine c_block ?_ | refine c_skip ?_ | refine x_then ?_ | refine x_block ?_)
      exact ⟨i + 1, _, rfl, ⟨hlt, h0, h1, vi rfl (by omega), ⟨_, _, rfl, hG, hS⟩⟩, by omega⟩
    · refine c_no rfl (decide_eq_false (by rw [Bool.eq_false_iff.2 hbt]; decide)) ?_
      repeat (with_reducible first | refine c_seq ?_ | refine c_block ?_ | refine c_skip ?_ | refine x_then ?_ | refine x_block ?_)
      rw [if_neg hbt] at hsu
      rw [← hsu] at hG
      repeat (with_reducible first | refine c_seq ?_ | refine c_block ?_ | refine c_skip ?_ | refine x_then ?_ | refine x_block ?_)
      refine c_reg ?_
      refine l_pure rfl (s_move  h6 ?_)
      refine l_pure rfl (s_add  rfl rfl (IntWalk.i64_in _ (by omega)) ?_)
      refine l_pure rfl (s_asg  rfl ?_)
      refine l_nil ?_
      repeat (with_reducible first | refine c_seq ?_ | refine c_block ?_ | refine c_skip ?_ | refine x_then ?_ | refine x_block ?_)
      exact ⟨i + 1, _, rfl, ⟨hlt, h0, h1, vi rfl (by omega), ⟨_, _, h5, hG, hS⟩⟩, by omega⟩
  · refine c_no rfl (decide_eq_false (by omega)) ?_
    repeat (with_reducible first | refine c_seq ?_ | refine c_block ?_ | refine c_skip ?_ | refine x_then ?_ | refine x_block ?_)
    refine c_exit ?_
    repeat (with_reducible first | refine x_then_exit ?_ | refine x_block_exit ?_ | refine x_block_pass rfl ?_)
    repeat (with_reducible first | refine c_seq ?_ | refine c_block ?_ | refine c_skip ?_ | refine x_then ?_ | refine x_block ?_)
    obtain rfl : i = n := by omega
    repeat (with_reducible first | refine c_seq ?_ | refine c_block ?_ | refine c_skip ?_ | refine x_then ?_ | refine x_block ?_)
    refine c_reg ?_
    refine l_pure rfl (s_move  h5 ?_)
    refine l_pure rfl (s_asg  rfl ?_)
    refine l_nil ?_
    repeat (with_reducible first | refine c_seq ?_ | refine c_block ?_ | refine c_skip ?_ | refine x_then ?_ | refine x_block ?_)
    refine c_ret ?_
    repeat (with_reducible first | refine x_then_ret ?_ | refine x_block_ret ?_)
    refine r_one rfl rfl ?_
    exact ⟨LO, hG, hS⟩
end Go.Proofs.YtfocimgpahjkmaaDoor
namespace Go.Proofs.YtfocimgpahjkmaaDoor
open Go Go.RowKit Go.Sx

theorem capS_setL {bits n c : Nat} (hc : c < n) : capS (setL bits n) c = bits.testBit c := by
  have h : capS (setL bits n) c = true ↔ bits.testBit c = true := by
    unfold capS setL
    rw [List.any_eq_true]
    constructor
    · rintro ⟨x, hx, h⟩
      obtain ⟨y, hy, rfl⟩ := List.mem_map.1 hx
      have h1 := (List.mem_filter.1 hy).2
      have h2 := of_decide_eq_true h
      obtain rfl : y = c := by omega
      exact h1
    · intro h
      exact ⟨(c : Int), List.mem_map.2 ⟨c, List.mem_filter.2 ⟨List.mem_range.2 hc, h⟩, rfl⟩, decide_eq_true rfl⟩
  exact Bool.eq_iff_iff.2 h
theorem capS_add {L : List Int} {x c : Nat} : capS (L ++ [(x : Int)]) c = true ↔ capS L c = true ∨ c = x := by
  unfold capS
  rw [List.any_append, Bool.or_eq_true]
  simp only [List.any_cons, List.any_nil, Bool.or_false, decide_eq_true_eq]
  constructor
  · rintro (h | h)
    · exact .inl h
    · exact .inr (by omega)
  · rintro (h | h)
    · exact .inl h
    · exact .inr (by omega)
theorem capE_add (l : List (Nat → Nat)) (a : List Nat) (n k bits x : Nat) (hn : n ≤ 8) (hk : k ≤ 24) (hx : x < (amts a k).length) : capE (itemsL l (amts a k).length n) (amts a k) (setL bits (amts a k).length ++ [(x : Int)]) = 0 := by
  have h1 := capE_setL l a n k bits hn hk
  unfold capE at h1 ⊢
  rw [if_pos (items_check l a n k hn hk)] at h1 ⊢
  rw [List.any_append]
  by_cases g : (setL bits (amts a k).length).any (fun c => decide (c < 0 ∨ ((amts a k).length : Int) ≤ c)) = true
  · rw [if_pos g] at h1; cases h1
  · rw [Bool.eq_false_iff.2 g, if_neg]
    simp only [List.any_cons, List.any_nil, Bool.or_false, Bool.false_or, decide_eq_true_eq]
    omega
theorem amts_pos (a : List Nat) (n : Nat) : Pos (amts a n) := by
  intro c hc
  have h := getD_mem (amts a n) c zRR hc
  obtain ⟨x, _, e⟩ := List.mem_map.1 h
  unfold owF
  rw [← e]
  exact Rat.not_lt.1 toQ_amR
theorem capR_Q {X : List It} {owed : List RR} {L : List Int} (h : capE X owed L = 0) : capR X owed L = ofQ (capQ X owed (capS L)) := if_pos h
end Go.Proofs.YtfocimgpahjkmaaDoor
