/-
  PROVED: for every input MarshalSubmodular returns true, and each argument reads afterwards as it read before; the tables that its row lists read as the program's text lays them.
-/
import Derived.Test.YtfocimgpahjkmaaDoorPart6
import Derived.Test.YtfocimgpahjkmaaDoorCards
namespace Go.Proofs.YtfocimgpahjkmaaDoor
open Go Go.RowKit Go.Sx

/-- A list's members from the last one on, each twice, n of them from the end. -/
def rdup (L : List Int) : Nat → List Int
  | 0 => []
  | n + 1 => rdup L n ++ [L.getD (L.length - 1 - n) 0, L.getD (L.length - 1 - n) 0]
theorem rdup_len (L : List Int) (n : Nat) : (rdup L n).length = 2 * n := by
  induction n with
  | zero => rfl
  | succ n ih => rw [rdup, List.length_append, ih]; rfl
theorem rdup_any (L : List Int) (p : Int → Bool) (n : Nat) (hn : n ≤ L.length) : (rdup L n).any p = (L.drop (L.length - n)).any p := by
  induction n with
  | zero => rw [rdup, Nat.sub_zero, List.drop_length]
  | succ n ih =>
    have hk : L.length - (n + 1) < L.length := by omega
    have e : L.getD (L.length - 1 - n) 0 = L[L.length - (n + 1)] := by
      rw [List.getD_eq_getElem?_getD, show L.length - 1 - n = L.length - (n + 1) by omega, List.getElem?_eq_getElem hk]; rfl
    rw [rdup, List.any_append, ih (by omega), List.drop_eq_getElem_cons hk, show L.length - (n + 1) + 1 = L.length - n by omega, e]
    simp only [List.any_cons, List.any_nil, Bool.or_false, Bool.or_self]
    rw [Bool.or_comm]
theorem rdup_all (L : List Int) (p : Int → Bool) : (rdup L L.length).any p = L.any p := by
  rw [rdup_any L p _ (Nat.le_refl _), Nat.sub_self, List.drop_zero]
theorem capE_rdup (X : List It) (owed : List RR) (L : List Int) : capE X owed (rdup L L.length) = capE X owed L := by
  unfold capE
  rw [rdup_all]
theorem capR_rdup (X : List It) (owed : List RR) (L : List Int) : capR X owed (rdup L L.length) = capR X owed L := by
  have h : capS (rdup L L.length) = capS L := by funext c; exact rdup_all L _
  unfold capR
  rw [capE_rdup, h]
theorem capE_setL (l : List (Nat → Nat)) (a : List Nat) (n k bits : Nat) (hn : n ≤ 8) (hk : k ≤ 24) : capE (itemsL l (amts a k).length n) (amts a k) (setL bits (amts a k).length) = 0 := by
  unfold capE
  rw [if_pos (items_check l a n k hn hk), if_neg]
  rw [List.any_eq_true]
  rintro ⟨x, hx, h⟩
  obtain ⟨y, hy, rfl⟩ := List.mem_map.1 hx
  have hy2 := List.mem_range.1 (List.mem_filter.1 hy).1
  have := of_decide_eq_true h
  omega

end Go.Proofs.YtfocimgpahjkmaaDoor
namespace Go.Proofs.YtfocimgpahjkmaaDoor
open Go Go.RowKit Go.Sx

theorem mins_le (f : Nat → Rat) : ∀ (N i : Nat), i < N ∨ i = 0 → mins f N ≤ f i
  | 0, i, h => by
    obtain rfl : i = 0 := by omega
    exact Rat.le_refl
  | N + 1, i, h => by
    have h1 := mins_le f N
    rw [mins]
    unfold minQ
    by_cases e : i = N
    · subst e
      split
      · next g => exact g
      · exact Rat.le_refl
    · have h2 := h1 i (by omega)
      split
      · exact h2
      · next g => exact Rat.le_trans (Rat.le_of_lt (Rat.not_le.1 g)) h2
theorem mins_at (f : Nat → Rat) : ∀ N : Nat, ∃ i, (i < N ∨ i = 0) ∧ mins f N = f i
  | 0 => ⟨0, .inr rfl, rfl⟩
  | N + 1 => by
    obtain ⟨i, hi, e⟩ := mins_at f N
    rw [mins]
    unfold minQ
    split
    · exact ⟨i, by omega, e⟩
    · exact ⟨N, .inl (by omega), rfl⟩
theorem sumIf_four {n : Nat} {p1 p2 p3 p4 : Nat → Bool} {f : Nat → Rat} (h : ∀ i, i < n → (if p3 i = true then f i else 0) + (if p4 i = true then f i else 0) ≤ (if p1 i = true then f i else 0) + (if p2 i = true then f i else 0)) :
    sumIf n p3 f + sumIf n p4 f ≤ sumIf n p1 f + sumIf n p2 f := by
  induction n with
  | zero => exact Rat.le_refl
  | succ n ih =>
    have h1 := ih fun i hi => h i (by omega)
    have h2 := h n (by omega)
    simp only [sumIf]
    grind
theorem sumIf_two {n : Nat} {p q : Nat → Bool} {f : Nat → Rat} (h : ∀ i, i < n → (if p i = true then f i else 0) ≤ (if q i = true then f i else 0)) : sumIf n p f ≤ sumIf n q f := by
  induction n with
  | zero => exact Rat.le_refl
  | succ n ih =>
    have h1 := ih fun i hi => h i (by omega)
    have h2 := h n (by omega)
    simp only [sumIf]
    grind
/-- What is owed is not negative. -/
def Pos (owed : List RR) : Prop := ∀ c, c < owed.length → 0 ≤ owF owed c
theorem capF_mono {X : List It} {owed : List RR} (hp : Pos owed) {s t : Nat → Bool} (h : ∀ c, c < owed.length → s c = true → t c = true) (j : Nat) : capF X owed s j ≤ capF X owed t j := by
  rw [capF_eq, capF_eq]
  refine Rat.add_le_add_left.2 (sumIf_two fun c hc => ?_)
  have h1 := h c hc
  have h2 := hp c hc
  cases hs : s c with
  | false => simp only [Bool.false_and]; split <;> grind
  | true => rw [h1 hs]; exact Rat.le_refl
theorem capQ_mono {X : List It} {owed : List RR} (hp : Pos owed) {s t : Nat → Bool} (h : ∀ c, c < owed.length → s c = true → t c = true) : capQ X owed s ≤ capQ X owed t := by
  unfold capQ
  obtain ⟨i, hi, e⟩ := mins_at (capF X owed t) (2 ^ X.length)
  rw [e]
  exact Rat.le_trans (mins_le _ _ i hi) (capF_mono hp h i)
theorem outs_iff (X : List It) (cut c : Nat) : outs X cut c = true ↔ ∃ i, i < X.length ∧ cut.testBit i = false ∧ secures (X.getD i zIt) c = true := by
  unfold outs
  rw [List.any_eq_true]
  constructor
  · rintro ⟨i, hi, h⟩
    simp only [Bool.and_eq_true, Bool.not_eq_true'] at h
    exact ⟨i, List.mem_range.1 hi, h.1, h.2⟩
  · rintro ⟨i, hi, h1, h2⟩
    exact ⟨i, List.mem_range.2 hi, by rw [h1, h2]; rfl⟩
/-- Adding x to the smaller set s raises its capacity at least as much as adding it to t. -/
theorem capQ_sub {X : List It} {owed : List RR} (hp : Pos owed) {s t sx tx : Nat → Bool} {x : Nat} (hst : ∀ c, c < owed.length → s c = true → t c = true) (hsx : ∀ c, c < owed.length → (sx c = true ↔ s c = true ∨ c = x)) (htx : ∀ c, c < owed.length → (tx c = true ↔ t c = true ∨ c = x)) :
    capQ X owed tx + capQ X owed s ≤ capQ X owed sx + capQ X owed t := by
  unfold capQ
  obtain ⟨i, hi, ei⟩ := mins_at (capF X owed sx) (2 ^ X.length)
  obtain ⟨j, hj, ej⟩ := mins_at (capF X owed t) (2 ^ X.length)
  have hpos : 0 < 2 ^ X.length := Nat.two_pow_pos _
  have hi2 : i < 2 ^ X.length := by omega
  have hj2 : j < 2 ^ X.length := by omega
  rw [ei, ej]
  have h1 : mins (capF X owed tx) (2 ^ X.length) ≤ capF X owed tx (i ||| j) := mins_le _ _ _ (.inl (Nat.or_lt_two_pow hi2 hj2))
  have h2 : mins (capF X owed s) (2 ^ X.length) ≤ capF X owed s (i &&& j) := mins_le _ _ _ (.inl (Nat.lt_of_le_of_lt Nat.and_le_left hi2))
  have h3 : payF X (i ||| j) + payF X (i &&& j) ≤ payF X i + payF X j := by
    unfold payF
    refine sumIf_four fun k _ => ?_
    rw [Nat.testBit_or, Nat.testBit_and]
    cases i.testBit k <;> cases j.testBit k <;> simp <;> grind
  have h4 : sumIf owed.length (fun c => tx c && outs X (i ||| j) c) (owF owed) + sumIf owed.length (fun c => s c && outs X (i &&& j) c) (owF owed) ≤ sumIf owed.length (fun c => sx c && outs X i c) (owF owed) + sumIf owed.length (fun c => t c && outs X j c) (owF owed) := by
    refine sumIf_four fun c hc => ?_
    have hpc := hp c hc
    have a1 : outs X (i ||| j) c = true → outs X i c = true ∧ outs X j c = true := by
      rw [outs_iff, outs_iff, outs_iff]
      rintro ⟨k, hk, h, h'⟩
      rw [Nat.testBit_or, Bool.or_eq_false_iff] at h
      exact ⟨⟨k, hk, h.1, h'⟩, ⟨k, hk, h.2, h'⟩⟩
    have a2 : outs X (i &&& j) c = true → outs X i c = true ∨ outs X j c = true := by
      rw [outs_iff, outs_iff, outs_iff]
      rintro ⟨k, hk, h, h'⟩
      rw [Nat.testBit_and, Bool.and_eq_false_iff] at h
      rcases h with h | h
      · exact .inl ⟨k, hk, h, h'⟩
      · exact .inr ⟨k, hk, h, h'⟩
    have b1 := hst c hc
    have b2 := hsx c hc
    have b3 := htx c hc
    generalize outs X (i ||| j) c = o1 at *
    generalize outs X (i &&& j) c = o2 at *
    generalize outs X i c = o3 at *
    generalize outs X j c = o4 at *
    generalize owF owed c = q at *
    by_cases hx : c = x
    · have b2' := b2.2 (.inr hx)
      have b3' := b3.2 (.inr hx)
      rw [b2', b3']
      cases hs : s c with
      | true =>
        rw [b1 hs]
        cases o1 <;> cases o2 <;> cases o3 <;> cases o4 <;> simp at a1 a2 ⊢ <;> grind
      | false =>
        cases t c <;> cases o1 <;> cases o2 <;> cases o3 <;> cases o4 <;> simp at a1 a2 ⊢ <;> grind
    · have e2 : sx c = s c := Bool.eq_iff_iff.2 (b2.trans ⟨fun g => g.resolve_right hx, .inl⟩)
      have e3 : tx c = t c := Bool.eq_iff_iff.2 (b3.trans ⟨fun g => g.resolve_right hx, .inl⟩)
      rw [e2, e3]
      cases hs : s c with
      | true =>
        rw [b1 hs]
        cases o1 <;> cases o2 <;> cases o3 <;> cases o4 <;> simp at a1 a2 ⊢ <;> grind
      | false =>
        cases t c <;> cases o1 <;> cases o2 <;> cases o3 <;> cases o4 <;> simp at a1 a2 ⊢ <;> grind
  rw [capF_eq] at h1 h2
  rw [capF_eq, capF_eq]
  grind
end Go.Proofs.YtfocimgpahjkmaaDoor
namespace Go.Proofs.YtfocimgpahjkmaaDoor
open Go Go.RowKit Go.Sx

theorem set_gl (bits n : Nat) (w : World) (hb : bits < 256) (hn : n ≤ 8) :
    Ret Tryd.prog 14 #[.int .u8 bits, .int .i64 n] w fun r w' => ∃ LO, Gl enI 3 1 r (setL bits n) LO ∧ St w w' ([] ++ LO) := by
  have hS := St.init w
  refine enter Tryd.func14 rfl Tryd.ntmps14 rfl ?_
  repeat (with_reducible first | refine c_seq ?_ | refine c_block ?_ | refine c_skip ?_ | refine x_then ?_ | refine x_block ?_)
  refine c_reg ?_
  refine l_pure rfl (s_asg  rfl ?_)
  refine l_nil ?_
  repeat (with_reducible first | refine c_seq ?_ | refine c_block ?_ | refine c_skip ?_ | refine x_then ?_ | refine x_block ?_)
  refine c_reg ?_
  refine l_pure rfl (s_asg  rfl ?_)
  refine l_nil ?_
  repeat (with_reducible first | refine c_seq ?_ | refine c_block ?_ | refine c_skip ?_ | refine x_then ?_ | refine x_block ?_)
  refine c_reg ?_
  refine l_pure rfl (s_asg  rfl ?_)
  refine l_nil ?_
  repeat (with_reducible first | refine c_seq ?_ | refine c_block ?_ | refine c_skip ?_ | refine x_then ?_ | refine x_block ?_)
  refine c_loop (σ := Nat) (fun i ρ w' => i ≤ n ∧ ρ 0 = .int .u8 bits ∧ ρ 1 = .int .i64 n ∧ ρ 6 = .int .i64 i ∧ ∃ sO LO, ρ 5 = sO ∧ Gl enI 3 1 sO (setL bits i) LO ∧ St w w' ([] ++ LO)) (fun i => n - i) 0
    ⟨Nat.zero_le _, rfl, rfl, rfl, ⟨_, [], rfl, Gl.nil _ _ _, hS⟩⟩ ?_
  clear hS
  rintro i ρ w2 ⟨hi, h0, h1, h6, sO, LO, h5, hG, hS⟩
  have hal := setL_len bits i
  have hsu := setL_succ bits i
  repeat (with_reducible first | refine c_seq ?_ | refine c_block ?_ | refine c_skip ?_ | refine x_then ?_ | refine x_block ?_)
  refine c_reg ?_
  refine l_pure rfl (s_move  h6 ?_)
  refine l_pure rfl (s_move  h1 ?_)
  refine l_pure rfl (s_lss  rfl rfl ?_)
  refine l_nil ?_
  repeat (with_reducible first | refine c_seq ?_ | refine c_block ?_ | refine c_skip ?_ | refine x_then ?_ | refine x_block ?_)
  by_cases hlt : i < n
  · refine c_yes rfl (decide_eq_true (by omega)) ?_
    repeat (with_reducible first | refine c_seq ?_ | refine c_block ?_ | refine c_skip ?_ | refine x_then ?_ | refine x_block ?_)
    refine c_reg ?_
    refine l_pure rfl (s_move  h0 ?_)
    refine l_pure rfl (s_move  h6 ?_)
    refine l_pure rfl (s_conv  rfl Tryd.underlying59 ⟨_, Tryd.underlying3⟩ (r := ((i : Nat) : Int)) (by exact wr_u64 _ ⟨rfl, by omega, by omega⟩) ?_)
    refine l_pure rfl (s_shr  rfl rfl (by omega) (shr_v bits i (by show _ ≤ 8; omega)) ?_)
    refine l_pure rfl (s_and  rfl rfl (r := (((bits.testBit i).toNat : Nat) : Int)) (by exact bit_u8 hb) ?_)
    refine l_pure rfl (s_eql  rfl rfl ?_)
    refine l_nil ?_
    repeat (with_reducible first | refine c_seq ?_ | refine c_block ?_ | refine c_skip ?_ | refine x_then ?_ | refine x_block ?_)
    by_cases hbt : bits.testBit i = true
    · refine c_yes rfl (decide_eq_true (by rw [hbt]; rfl)) ?_
      repeat (with_reducible first | refine c_seq ?_ | refine c_block ?_ | refine c_skip ?_ | refine x_then ?_ | refine x_block ?_)
      rw [if_pos hbt] at hsu
      repeat (with_reducible first | refine c_seq ?_ | refine c_block ?_ | refine c_skip ?_ | refine x_then ?_ | refine x_block ?_)
      refine c_reg ?_
      refine l_pure rfl (s_move  h5 ?_)
      refine l_pure rfl (s_move  h6 ?_)
      refine l_heavy rfl (s_bsl (vs := [.int .i64 (i : Int)])  rfl si_39 rfl (by decide) (by decide) (by decide) (by simp [Value.cells]) rfl hS ?_)
      intro bx wz1 hS hBz1
      refine l_heavy rfl (s_appl [(i : Int)]  rfl rfl si_39 (by decide) hG hS rfl rfl enI_len (enI_one [(i : Int)]) (by first | omega | (simp only [List.length_cons, List.length_nil]; omega)) (by first | omega | (simp only [List.length_cons, List.length_nil]; omega)) ?_)
      intro va2 La2 wa2 hG hS hga2
      refine l_pure rfl (s_asg  rfl ?_)
      refine l_nil ?_
      repeat (with_reducible first | refine c_seq ?_ | refine c_block ?_ | refine c_skip ?_ | refine x_then ?_ | refine x_block ?_)
      rw [← hsu] at hG
      repeat (with_reducible first | refine c_seq ?_ | refine c_block ?_ | refine c_skip ?_ | refine x_then ?_ | refine x_block ?_)
      refine c_reg ?_
      refine l_pure rfl (s_move  h6 ?_)
      refine l_pure rfl (s_add  rfl rfl (IntWalk.i64_in _ (by omega)) ?_)
      refine l_pure rfl (s_asg  rfl ?_)
      refine l_nil ?_
      repeat (with_reducible first | refine c_seq ?_ | refine c_block ?_ | refine c_skip ?_ | refine x_then ?_ | refine x_block ?_)
      exact ⟨i + 1, _, rfl, ⟨hlt, h0, h1, vi rfl (by omega), ⟨_, _, rfl, hG, hS⟩⟩, by omega⟩
    · refine c_no rfl (decide_eq_false (by rw [Bool.eq_false_iff.2 hbt]; decide)) ?_
      repeat (with_reducible first | refine c_seq ?_ | refine c_block ?_ | refine c_skip ?_ | refine x_then ?_ | refine x_block ?_)
      rw [if_neg hbt] at hsu
      rw [← hsu] at hG
      repeat (with_reducible first | refine c_seq ?_ | refine c_block ?_ | refine c_skip ?_ | refine x_then ?_ | refine x_block ?_)
      refine c_reg ?_
      refine l_pure rfl (s_move  h6 ?_)
      refine l_pure rfl (s_add  rfl rfl (IntWalk.i64_in _ (by omega)) ?_)
      refine l_pure rfl (s_asg  rfl ?_)
      refine l_nil ?_
      repeat (with_reducible first | refine c_seq ?_ | refine c_block ?_ | refine c_skip ?_ | refine x_then ?_ | refine x_block ?_)
      exact ⟨i + 1, _, rfl, ⟨hlt, h0, h1, vi rfl (by omega), ⟨_, _, h5, hG, hS⟩⟩, by omega⟩
  · refine c_no rfl (decide_eq_false (by omega)) ?_
    repeat (with_reducible first | refine c_seq ?_ | refine c_block ?_ | refine c_skip ?_ | refine x_then ?_ | refine x_block ?_)
    refine c_exit ?_
    repeat (with_reducible first | refine x_then_exit ?_ | refine x_block_exit ?_ | refine x_block_pass rfl ?_)
    repeat (with_reducible first | refine c_seq ?_ | refine c_block ?_ | refine c_skip ?_ | refine x_then ?_ | refine x_block ?_)
    obtain rfl : i = n := by omega
    repeat (with_reducible first | refine c_seq ?_ | refine c_block ?_ | refine c_skip ?_ | refine x_then ?_ | refine x_block ?_)
    refine c_reg ?_
    refine l_pure rfl (s_move  h5 ?_)
    refine l_pure rfl (s_asg  rfl ?_)
    refine l_nil ?_
    repeat (with_reducible first | refine c_seq ?_ | refine c_block ?_ | refine c_skip ?_ | refine x_then ?_ | refine x_block ?_)
    refine c_ret ?_
    repeat (with_reducible first | refine x_then_ret ?_ | refine x_block_ret ?_)
    refine r_one rfl rfl ?_
    exact ⟨LO, hG, hS⟩
end Go.Proofs.YtfocimgpahjkmaaDoor
namespace Go.Proofs.YtfocimgpahjkmaaDoor
open Go Go.RowKit Go.Sx

theorem capS_setL {bits n c : Nat} (hc : c < n) : capS (setL bits n) c = bits.testBit c := by
  have h : capS (setL bits n) c = true ↔ bits.testBit c = true := by
    unfold capS setL
    rw [List.any_eq_true]
    constructor
    · rintro ⟨x, hx, h⟩
      obtain ⟨y, hy, rfl⟩ := List.mem_map.1 hx
      have h1 := (List.mem_filter.1 hy).2
      have h2 := of_decide_eq_true h
      obtain rfl : y = c := by omega
      exact h1
    · intro h
      exact ⟨(c : Int), List.mem_map.2 ⟨c, List.mem_filter.2 ⟨List.mem_range.2 hc, h⟩, rfl⟩, decide_eq_true rfl⟩
  exact Bool.eq_iff_iff.2 h
theorem capS_add {L : List Int} {x c : Nat} : capS (L ++ [(x : Int)]) c = true ↔ capS L c = true ∨ c = x := by
  unfold capS
  rw [List.any_append, Bool.or_eq_true]
  simp only [List.any_cons, List.any_nil, Bool.or_false, decide_eq_true_eq]
  constructor
  · rintro (h | h)
    · exact .inl h
    · exact .inr (by omega)
  · rintro (h | h)
    · exact .inl h
    · exact .inr (by omega)
theorem capE_add (l : List (Nat → Nat)) (a : List Nat) (n k bits x : Nat) (hn : n ≤ 8) (hk : k ≤ 24) (hx : x < (amts a k).length) : capE (itemsL l (amts a k).length n) (amts a k) (setL bits (amts a k).length ++ [(x : Int)]) = 0 := by
  have h1 := capE_setL l a n k bits hn hk
  unfold capE at h1 ⊢
  rw [if_pos (items_check l a n k hn hk)] at h1 ⊢
  rw [List.any_append]
  by_cases g : (setL bits (amts a k).length).any (fun c => decide (c < 0 ∨ ((amts a k).length : Int) ≤ c)) = true
  · rw [if_pos g] at h1; cases h1
  · rw [Bool.eq_false_iff.2 g, if_neg]
    simp only [List.any_cons, List.any_nil, Bool.or_false, Bool.false_or, decide_eq_true_eq]
    omega
theorem amts_pos (a : List Nat) (n : Nat) : Pos (amts a n) := by
  intro c hc
  have h := getD_mem (amts a n) c zRR hc
  obtain ⟨x, _, e⟩ := List.mem_map.1 h
  unfold owF
  rw [← e]
  exact Rat.not_lt.1 toQ_amR
theorem capR_Q {X : List It} {owed : List RR} {L : List Int} (h : capE X owed L = 0) : capR X owed L = ofQ (capQ X owed (capS L)) := if_pos h
end Go.Proofs.YtfocimgpahjkmaaDoor
namespace Go.Proofs.YtfocimgpahjkmaaDoor
open Go Go.RowKit Go.Sx

set_option maxHeartbeats 2000000 in
theorem MarshalSubmodular_ok (vl va : Value) (l : List (Nat → Nat)) (a : List Nat) (small more one : Nat) (w : World) (hl : Sl enc6 6 w vl l) (ha : Sl (uk .u16) 1 w va a) (hlb : ∀ x ∈ l, ∀ i, i < 6 → x i < 65536) (hab : ∀ x ∈ a, x < 65536) (hsm : small < 256) (hmo : more < 256) (hon : one < 256)
    (hT : At w ⟨2, 0, none⟩ (Kr .u8 tzTab)) :
    Ret Tryd.prog 4 #[vl, va, .int .u8 small, .int .u8 more, .int .u8 one] w fun v w' => v = .bool true ∧ Below w.heap.size w w' := by
  have hM : MX = 1099511627776 := rfl
  have hK1 : 80 * 1 + 90 ≤ MX := by rw [hM]; decide
  have hS := St.init w
  refine enter Tryd.func4 rfl Tryd.ntmps4 rfl ?_
  repeat (with_reducible first | refine c_seq ?_ | refine c_block ?_ | refine c_skip ?_ | refine x_then ?_ | refine x_block ?_)
  refine c_reg ?_
  refine l_pure rfl (s_asg  rfl ?_)
  refine l_nil ?_
  repeat (with_reducible first | refine c_seq ?_ | refine c_block ?_ | refine c_skip ?_ | refine x_then ?_ | refine x_block ?_)
  refine c_reg ?_
  refine l_pure rfl (s_move  rfl ?_)
  refine l_heavy rfl (s_call Tryd.call6 rfl (Amounts_ok va a 6 _ ha hab (by decide)) ?_)
  rintro vo w1 ⟨ho, hB1⟩
  replace hS := hS.grow hB1
  have hm6 : (amts a 6).length ≤ 6 := by rw [amts_len]; omega
  refine l_pure rfl (s_asg  rfl ?_)
  refine l_nil ?_
  repeat (with_reducible first | refine c_seq ?_ | refine c_block ?_ | refine c_skip ?_ | refine x_then ?_ | refine x_block ?_)
  refine c_reg ?_
  refine l_pure rfl (s_move  rfl ?_)
  refine l_pure rfl (s_lenr  rfl ho ⟨_, Tryd.underlying24⟩ ?_)
  refine l_pure rfl (s_eql  rfl rfl ?_)
  refine l_nil ?_
  repeat (with_reducible first | refine c_seq ?_ | refine c_block ?_ | refine c_skip ?_ | refine x_then ?_ | refine x_block ?_)
  by_cases hz : (amts a 6).length = 0
  · refine c_yes rfl (decide_eq_true (by omega)) ?_
    repeat (with_reducible first | refine c_seq ?_ | refine c_block ?_ | refine c_skip ?_ | refine x_then ?_ | refine x_block ?_)
    refine c_reg ?_
    refine l_heavy rfl (s_call Tryd.call12 rfl (awake_ok _ (hT.below hS.below)) ?_)
    rintro r w2 ⟨rfl, hB2⟩
    replace hS := hS.grow hB2
    refine l_pure rfl (s_asg  rfl ?_)
    refine l_nil ?_
    repeat (with_reducible first | refine c_seq ?_ | refine c_block ?_ | refine c_skip ?_ | refine x_then ?_ | refine x_block ?_)
    refine c_ret ?_
    repeat (with_reducible first | refine x_then_ret ?_ | refine x_block_ret ?_)
    refine r_one rfl rfl ?_
    exact ⟨rfl, hS.below⟩
  refine c_no rfl (decide_eq_false (by omega)) ?_
  repeat (with_reducible first | refine c_seq ?_ | refine c_block ?_ | refine c_skip ?_ | refine x_then ?_ | refine x_block ?_)
  refine c_reg ?_
  refine l_pure rfl (s_move  rfl ?_)
  refine l_pure rfl (s_move  rfl ?_)
  refine l_pure rfl (s_lenr  rfl ho ⟨_, Tryd.underlying24⟩ ?_)
  refine l_heavy rfl (s_call Tryd.call7 rfl (Items_ok vl l (amts a 6).length _ (hl.below hS.below) hlb (by omega)) ?_)
  rintro vit w2 ⟨⟨cvs, hI⟩, hB2⟩
  replace hS := hS.grow hB2
  replace ho := ho.below hB2
  have hIB := items_B l (amts a 6).length 4
  have hoB := amts_RB a 6
  have hW := hS.below
  replace hT := hT.below hW
  clear hS
  have hS := St.init w2
  refine l_pure rfl (s_asg  rfl ?_)
  refine l_nil ?_
  repeat (with_reducible first | refine c_seq ?_ | refine c_block ?_ | refine c_skip ?_ | refine x_then ?_ | refine x_block ?_)
  obtain ⟨x, hx⟩ : ∃ x, x = one % (amts a 6).length := ⟨_, rfl⟩
  have hxl : x < (amts a 6).length := by rw [hx]; exact Nat.mod_lt _ (by omega)
  repeat (with_reducible first | refine c_seq ?_ | refine c_block ?_ | refine c_skip ?_ | refine x_then ?_ | refine x_block ?_)
  refine c_forget (fun ρ' => ρ' 2 = .int .u8 small ∧ ρ' 3 = .int .u8 more ∧ ρ' 4 = .int .u8 one ∧ ρ' 11 = vo ∧ ρ' 12 = vit ∧ True) ⟨rfl, rfl, rfl, rfl, rfl, trivial⟩ ?_
  rintro ρk1 ⟨hk1_2, hk1_3, hk1_4, hk1_11, hk1_12, -⟩
  repeat (with_reducible first | refine c_seq ?_ | refine c_block ?_ | refine c_skip ?_ | refine x_then ?_ | refine x_block ?_)
  refine c_reg ?_
  refine l_pure rfl (s_move  hk1_4 ?_)
  refine l_pure rfl (s_conv  rfl Tryd.underlying3 ⟨_, Tryd.underlying5⟩ (r := ((one : Nat) : Int)) (by exact wr_i64 _ ⟨rfl, by omega, by omega⟩) ?_)
  refine l_pure rfl (s_move  hk1_11 ?_)
  refine l_pure rfl (s_lenr  rfl ho ⟨_, Tryd.underlying24⟩ ?_)
  refine l_pure rfl (s_rem  rfl rfl (by omega) (show _ = ((x : Nat) : Int) by rw [hx]; exact rem_nat one _) ?_)
  refine l_pure rfl (s_asg  rfl ?_)
  refine l_nil ?_
  repeat (with_reducible first | refine c_seq ?_ | refine c_block ?_ | refine c_skip ?_ | refine x_then ?_ | refine x_block ?_)
  refine c_forget (fun ρ' => ρ' 2 = .int .u8 small ∧ ρ' 3 = .int .u8 more ∧ ρ' 11 = vo ∧ ρ' 12 = vit ∧ ρ' 13 = .int .i64 x ∧ True) ⟨hk1_2, hk1_3, hk1_11, hk1_12, rfl, trivial⟩ ?_
  rintro ρk2 ⟨hk2_2, hk2_3, hk2_11, hk2_12, hk2_13, -⟩
  obtain ⟨X, hXe⟩ : ∃ X, X = itemsL l (amts a 6).length 4 := ⟨_, rfl⟩
  obtain ⟨O, hOe⟩ : ∃ O, O = amts a 6 := ⟨_, rfl⟩
  obtain ⟨big, hbig⟩ : ∃ big, big = small ||| more := ⟨_, rfl⟩
  have hbb : big < 256 := by rw [hbig]; exact Nat.or_lt_two_pow (n := 8) hsm hmo
  have e1 := capE_setL l a 4 6 small (by decide) (by decide)
  have e2 := capE_add l a 4 6 small x (by decide) (by decide) hxl
  have e3 := capE_setL l a 4 6 big (by decide) (by decide)
  have e4 := capE_add l a 4 6 big x (by decide) (by decide) hxl
  have hpos := amts_pos a 6
  have hl8 : X.length ≤ 8 := by rw [hXe, itemsL_len]; omega
  have hl24 : O.length ≤ 24 := by rw [hOe]; omega
  have hXi : ItB 1 X := by rw [hXe]; exact hIB
  have hOi : RB 1 O := by rw [hOe]; exact hoB
  rw [← hXe, ← hOe] at e1 e2 e3 e4
  rw [← hOe] at hpos
  have r1 := capR_Q e1
  have r2 := capR_Q e2
  have r3 := capR_Q e3
  have r4 := capR_Q e4
  have hmono : capQ X O (capS (setL small O.length)) ≤ capQ X O (capS (setL big O.length)) := capQ_mono hpos fun c hc h => by
    rw [capS_setL hc] at h ⊢
    rw [hbig, Nat.testBit_or, h]; rfl
  have hsub := capQ_sub (X := X) (x := x) hpos (s := capS (setL small O.length)) (t := capS (setL big O.length)) (sx := capS (setL small O.length ++ [(x : Int)])) (tx := capS (setL big O.length ++ [(x : Int)])) (fun c hc h => by
    rw [capS_setL hc] at h ⊢
    rw [hbig, Nat.testBit_or, h]; rfl) (fun c _ => capS_add) (fun c _ => capS_add)
  have hL1 := L_capQ hXi hOi hl8 hl24 (capS (setL small O.length))
  have hL2 := L_capQ hXi hOi hl8 hl24 (capS (setL small O.length ++ [(x : Int)]))
  have hL3 := L_capQ hXi hOi hl8 hl24 (capS (setL big O.length))
  have hL4 := L_capQ hXi hOi hl8 hl24 (capS (setL big O.length ++ [(x : Int)]))
  obtain ⟨q1, hq1⟩ : ∃ q, q = capQ X O (capS (setL small O.length)) := ⟨_, rfl⟩
  obtain ⟨q2, hq2⟩ : ∃ q, q = capQ X O (capS (setL small O.length ++ [(x : Int)])) := ⟨_, rfl⟩
  obtain ⟨q3, hq3⟩ : ∃ q, q = capQ X O (capS (setL big O.length)) := ⟨_, rfl⟩
  obtain ⟨q4, hq4⟩ : ∃ q, q = capQ X O (capS (setL big O.length ++ [(x : Int)])) := ⟨_, rfl⟩
  rw [← hq1] at r1 hmono hsub hL1
  rw [← hq2] at r2 hsub hL2
  rw [← hq3] at r3 hmono hsub hL3
  rw [← hq4] at r4 hsub hL4
  rw [← hXe] at hI
  rw [← hOe] at ho hm6 hxl
  repeat (with_reducible first | refine c_seq ?_ | refine c_block ?_ | refine c_skip ?_ | refine x_then ?_ | refine x_block ?_)
  refine c_reg ?_
  refine l_pure rfl (s_move  hk2_12 ?_)
  refine l_pure rfl (s_move  hk2_11 ?_)
  refine l_pure rfl (s_move  hk2_2 ?_)
  refine l_pure rfl (s_move  hk2_11 ?_)
  refine l_pure rfl (s_lenr  rfl (ho.below hS.below) ⟨_, Tryd.underlying24⟩ ?_)
  refine l_heavy rfl (s_call Tryd.call14 rfl (set_ok small O.length _ hsm (by omega)) ?_)
  rintro vs w3 ⟨hs, hB3⟩
  replace hS := hS.grow hB3
  refine l_heavy rfl (s_call Tryd.call13 rfl (Capacity_ok _ _ _ X cvs O (setL small O.length) 1 _ (hI.below hS.below) (ho.below hS.below) hs hXi hOi hK1 (hT.below hS.below)) ?_)
  rintro r w4 ⟨rfl, hB4⟩
  rw [e1, r1]
  replace hS := hS.grow hB4
  refine l_pure rfl (s_move  rfl ?_)
  refine l_pure rfl (s_ext  rfl rfl ?_)
  refine l_pure rfl (s_ext  rfl rfl ?_)
  refine l_heavy rfl (s_alloc  vi_32 hS ?_)
  intro b14 wz3 hS hBz3
  refine l_heavy rfl (s_sta (k := 0)  rfl rfl vi_32 hS rfl rfl rfl (Nat.le_of_ble_eq_true rfl) rfl ?_)
  intro wz4 hS
  refine l_pure rfl (s_asg  rfl ?_)
  refine l_nil ?_
  repeat (with_reducible first | refine c_seq ?_ | refine c_block ?_ | refine c_skip ?_ | refine x_then ?_ | refine x_block ?_)
  replace hS : St w2 _ [(b14, 32, encR (ofQ q1))] := hS
  repeat (with_reducible first | refine c_seq ?_ | refine c_block ?_ | refine c_skip ?_ | refine x_then ?_ | refine x_block ?_)
  refine c_forget (fun ρ' => ρ' 2 = .int .u8 small ∧ ρ' 3 = .int .u8 more ∧ ρ' 11 = vo ∧ ρ' 12 = vit ∧ ρ' 13 = .int .i64 x ∧ ρ' 14 = .pointer (some ⟨b14, 0, none⟩) ∧ ρ' 15 = .int .i64 0 ∧ True) ⟨hk2_2, hk2_3, hk2_11, hk2_12, hk2_13, rfl, rfl, trivial⟩ ?_
  rintro ρk5 ⟨hk5_2, hk5_3, hk5_11, hk5_12, hk5_13, hk5_14, hk5_15, -⟩
  repeat (with_reducible first | refine c_seq ?_ | refine c_block ?_ | refine c_skip ?_ | refine x_then ?_ | refine x_block ?_)
  refine c_reg ?_
  refine l_pure rfl (s_move  hk5_12 ?_)
  refine l_pure rfl (s_move  hk5_11 ?_)
  refine l_pure rfl (s_move  hk5_2 ?_)
  refine l_pure rfl (s_move  hk5_11 ?_)
  refine l_pure rfl (s_lenr  rfl (ho.below hS.below) ⟨_, Tryd.underlying24⟩ ?_)
  refine l_heavy rfl (s_call Tryd.call14 rfl (set_gl small O.length _ hsm (by omega)) ?_)
  rintro vs2 w5 ⟨LS, hG, hS5⟩
  have hsl := setL_len small O.length
  replace hS := (hS.join hS5).perm List.perm_append_comm
  replace hS : St w2 _ ([(b14, 32, encR (ofQ q1))] ++ LS) := hS
  refine l_pure rfl (s_move  hk5_13 ?_)
  refine l_heavy rfl (s_bsl (vs := [.int .i64 (x : Int)])  rfl si_39 rfl (by decide) (by decide) (by decide) (by simp [Value.cells]) rfl hS ?_)
  intro bx wz6 hS hBz6
  refine l_heavy rfl (s_appl [(x : Int)]  rfl rfl si_39 (by decide) hG hS rfl rfl enI_len (enI_one [(x : Int)]) (by first | omega | (simp only [List.length_cons, List.length_nil]; omega)) (by first | omega | (simp only [List.length_cons, List.length_nil]; omega)) ?_)
  intro va7 La7 wa7 hG hS hga7
  have hG2 := hG.sl hS enI_len
  replace hS : St w2 _ [(b14, 32, encR (ofQ q1))] := hS.drop (List.sublist_append_left _ _)
  refine l_heavy rfl (s_call Tryd.call13 rfl (Capacity_ok _ _ _ X cvs O (setL small O.length ++ [(x : Int)]) 1 _ (hI.below hS.below) (ho.below hS.below) hG2 hXi hOi hK1 (hT.below hS.below)) ?_)
  rintro r w6 ⟨rfl, hB6⟩
  rw [e2, r2]
  replace hS := hS.grow hB6
  refine l_pure rfl (s_move  rfl ?_)
  refine l_pure rfl (s_ext  rfl rfl ?_)
  refine l_pure rfl (s_ext  rfl rfl ?_)
  refine l_heavy rfl (s_alloc  vi_32 hS ?_)
  intro b16 wz8 hS hBz8
  refine l_heavy rfl (s_sta (k := 0)  rfl rfl vi_32 hS rfl rfl rfl (Nat.le_of_ble_eq_true rfl) rfl ?_)
  intro wz9 hS
  refine l_pure rfl (s_asg  rfl ?_)
  refine l_nil ?_
  repeat (with_reducible first | refine c_seq ?_ | refine c_block ?_ | refine c_skip ?_ | refine x_then ?_ | refine x_block ?_)
  replace hS : St w2 _ [(b16, 32, encR (ofQ q2)), (b14, 32, encR (ofQ q1))] := hS
  repeat (with_reducible first | refine c_seq ?_ | refine c_block ?_ | refine c_skip ?_ | refine x_then ?_ | refine x_block ?_)
  refine c_forget (fun ρ' => ρ' 2 = .int .u8 small ∧ ρ' 3 = .int .u8 more ∧ ρ' 11 = vo ∧ ρ' 12 = vit ∧ ρ' 13 = .int .i64 x ∧ ρ' 14 = .pointer (some ⟨b14, 0, none⟩) ∧ ρ' 15 = .int .i64 0 ∧ ρ' 16 = .pointer (some ⟨b16, 0, none⟩) ∧ ρ' 17 = .int .i64 0 ∧ True) ⟨hk5_2, hk5_3, hk5_11, hk5_12, hk5_13, hk5_14, hk5_15, rfl, rfl, trivial⟩ ?_
  rintro ρk10 ⟨hk10_2, hk10_3, hk10_11, hk10_12, hk10_13, hk10_14, hk10_15, hk10_16, hk10_17, -⟩
  repeat (with_reducible first | refine c_seq ?_ | refine c_block ?_ | refine c_skip ?_ | refine x_then ?_ | refine x_block ?_)
  refine c_reg ?_
  refine l_pure rfl (s_move  hk10_12 ?_)
  refine l_pure rfl (s_move  hk10_11 ?_)
  refine l_pure rfl (s_move  hk10_2 ?_)
  refine l_pure rfl (s_move  hk10_3 ?_)
  refine l_pure rfl (s_or  rfl rfl (r := ((big : Nat) : Int)) (by rw [hbig]; exact or_nat rfl _ _ hsm hmo) ?_)
  refine l_pure rfl (s_move  hk10_11 ?_)
  refine l_pure rfl (s_lenr  rfl (ho.below hS.below) ⟨_, Tryd.underlying24⟩ ?_)
  refine l_heavy rfl (s_call Tryd.call14 rfl (set_ok big O.length _ hbb (by omega)) ?_)
  rintro vs3 w7 ⟨hs3, hB7⟩
  replace hS := hS.grow hB7
  refine l_heavy rfl (s_call Tryd.call13 rfl (Capacity_ok _ _ _ X cvs O (setL big O.length) 1 _ (hI.below hS.below) (ho.below hS.below) hs3 hXi hOi hK1 (hT.below hS.below)) ?_)
  rintro r w8 ⟨rfl, hB8⟩
  rw [e3, r3]
  replace hS := hS.grow hB8
  refine l_pure rfl (s_move  rfl ?_)
  refine l_pure rfl (s_ext  rfl rfl ?_)
  refine l_pure rfl (s_ext  rfl rfl ?_)
  refine l_heavy rfl (s_alloc  vi_32 hS ?_)
  intro b18 wz11 hS hBz11
  refine l_heavy rfl (s_sta (k := 0)  rfl rfl vi_32 hS rfl rfl rfl (Nat.le_of_ble_eq_true rfl) rfl ?_)
  intro wz12 hS
  refine l_pure rfl (s_asg  rfl ?_)
  refine l_nil ?_
  repeat (with_reducible first | refine c_seq ?_ | refine c_block ?_ | refine c_skip ?_ | refine x_then ?_ | refine x_block ?_)
  replace hS : St w2 _ [(b18, 32, encR (ofQ q3)), (b16, 32, encR (ofQ q2)), (b14, 32, encR (ofQ q1))] := hS
  repeat (with_reducible first | refine c_seq ?_ | refine c_block ?_ | refine c_skip ?_ | refine x_then ?_ | refine x_block ?_)
  refine c_forget (fun ρ' => ρ' 2 = .int .u8 small ∧ ρ' 3 = .int .u8 more ∧ ρ' 11 = vo ∧ ρ' 12 = vit ∧ ρ' 13 = .int .i64 x ∧ ρ' 14 = .pointer (some ⟨b14, 0, none⟩) ∧ ρ' 15 = .int .i64 0 ∧ ρ' 16 = .pointer (some ⟨b16, 0, none⟩) ∧ ρ' 17 = .int .i64 0 ∧ ρ' 18 = .pointer (some ⟨b18, 0, none⟩) ∧ ρ' 19 = .int .i64 0 ∧ True) ⟨hk10_2, hk10_3, hk10_11, hk10_12, hk10_13, hk10_14, hk10_15, hk10_16, hk10_17, rfl, rfl, trivial⟩ ?_
  rintro ρk13 ⟨hk13_2, hk13_3, hk13_11, hk13_12, hk13_13, hk13_14, hk13_15, hk13_16, hk13_17, hk13_18, hk13_19, -⟩
  repeat (with_reducible first | refine c_seq ?_ | refine c_block ?_ | refine c_skip ?_ | refine x_then ?_ | refine x_block ?_)
  refine c_reg ?_
  refine l_pure rfl (s_move  hk13_12 ?_)
  refine l_pure rfl (s_move  hk13_11 ?_)
  refine l_pure rfl (s_move  hk13_2 ?_)
  refine l_pure rfl (s_move  hk13_3 ?_)
  refine l_pure rfl (s_or  rfl rfl (r := ((big : Nat) : Int)) (by rw [hbig]; exact or_nat rfl _ _ hsm hmo) ?_)
  refine l_pure rfl (s_move  hk13_11 ?_)
  refine l_pure rfl (s_lenr  rfl (ho.below hS.below) ⟨_, Tryd.underlying24⟩ ?_)
  refine l_heavy rfl (s_call Tryd.call14 rfl (set_gl big O.length _ hbb (by omega)) ?_)
  rintro vs4 w9 ⟨LS4, hG4, hS9⟩
  have hsl4 := setL_len big O.length
  replace hS := (hS.join hS9).perm List.perm_append_comm
  replace hS : St w2 _ ([(b18, 32, encR (ofQ q3)), (b16, 32, encR (ofQ q2)), (b14, 32, encR (ofQ q1))] ++ LS4) := hS
  refine l_pure rfl (s_move  hk13_13 ?_)
  refine l_heavy rfl (s_bsl (vs := [.int .i64 (x : Int)])  rfl si_39 rfl (by decide) (by decide) (by decide) (by simp [Value.cells]) rfl hS ?_)
  intro by_ wz14 hS hBz14
  refine l_heavy rfl (s_appl [(x : Int)]  rfl rfl si_39 (by decide) hG4 hS rfl rfl enI_len (enI_one [(x : Int)]) (by first | omega | (simp only [List.length_cons, List.length_nil]; omega)) (by first | omega | (simp only [List.length_cons, List.length_nil]; omega)) ?_)
  intro va15 La15 wa15 hG4 hS hga15
  have hG5 := hG4.sl hS enI_len
  replace hS : St w2 _ [(b18, 32, encR (ofQ q3)), (b16, 32, encR (ofQ q2)), (b14, 32, encR (ofQ q1))] := hS.drop (List.sublist_append_left _ _)
  refine l_heavy rfl (s_call Tryd.call13 rfl (Capacity_ok _ _ _ X cvs O (setL big O.length ++ [(x : Int)]) 1 _ (hI.below hS.below) (ho.below hS.below) hG5 hXi hOi hK1 (hT.below hS.below)) ?_)
  rintro r w10 ⟨rfl, hB10⟩
  rw [e4, r4]
  replace hS := hS.grow hB10
  refine l_pure rfl (s_move  rfl ?_)
  refine l_pure rfl (s_ext  rfl rfl ?_)
  refine l_pure rfl (s_ext  rfl rfl ?_)
  refine l_heavy rfl (s_alloc  vi_32 hS ?_)
  intro b20 wz16 hS hBz16
  refine l_heavy rfl (s_sta (k := 0)  rfl rfl vi_32 hS rfl rfl rfl (Nat.le_of_ble_eq_true rfl) rfl ?_)
  intro wz17 hS
  refine l_pure rfl (s_asg  rfl ?_)
  refine l_nil ?_
  repeat (with_reducible first | refine c_seq ?_ | refine c_block ?_ | refine c_skip ?_ | refine x_then ?_ | refine x_block ?_)
  replace hS : St w2 _ [(b20, 32, encR (ofQ q4)), (b18, 32, encR (ofQ q3)), (b16, 32, encR (ofQ q2)), (b14, 32, encR (ofQ q1))] := hS
  repeat (with_reducible first | refine c_seq ?_ | refine c_block ?_ | refine c_skip ?_ | refine x_then ?_ | refine x_block ?_)
  refine c_forget (fun ρ' => ρ' 14 = .pointer (some ⟨b14, 0, none⟩) ∧ ρ' 15 = .int .i64 0 ∧ ρ' 16 = .pointer (some ⟨b16, 0, none⟩) ∧ ρ' 17 = .int .i64 0 ∧ ρ' 18 = .pointer (some ⟨b18, 0, none⟩) ∧ ρ' 19 = .int .i64 0 ∧ ρ' 20 = .pointer (some ⟨b20, 0, none⟩) ∧ ρ' 21 = .int .i64 0 ∧ True) ⟨hk13_14, hk13_15, hk13_16, hk13_17, hk13_18, hk13_19, rfl, rfl, trivial⟩ ?_
  rintro ρk18 ⟨hk18_14, hk18_15, hk18_16, hk18_17, hk18_18, hk18_19, hk18_20, hk18_21, -⟩
  repeat (with_reducible first | refine c_seq ?_ | refine c_block ?_ | refine c_skip ?_ | refine x_then ?_ | refine x_block ?_)
  refine c_reg ?_
  refine l_pure rfl (s_move  hk18_15 ?_)
  refine l_pure rfl (s_eql  rfl rfl ?_)
  refine l_pure rfl (s_move  rfl ?_)
  refine l_pure (gd_yes 90 (by kernel_rfl) rfl rfl) (s_move  hk18_17 ?_)
  refine l_pure (gd_yes 90 (by kernel_rfl) rfl rfl) (s_eql  rfl rfl ?_)
  refine l_pure rfl (s_pick (vb rfl rfl) rfl ?_)
  refine l_pure rfl (s_move  rfl ?_)
  refine l_pure (gd_yes 94 (by kernel_rfl) rfl rfl) (s_move  hk18_19 ?_)
  refine l_pure (gd_yes 94 (by kernel_rfl) rfl rfl) (s_eql  rfl rfl ?_)
  refine l_pure rfl (s_pick (vb rfl rfl) rfl ?_)
  refine l_pure rfl (s_move  rfl ?_)
  refine l_pure (gd_yes 98 (by kernel_rfl) rfl rfl) (s_move  hk18_21 ?_)
  refine l_pure (gd_yes 98 (by kernel_rfl) rfl rfl) (s_eql  rfl rfl ?_)
  refine l_pure rfl (s_pick (vb rfl rfl) rfl ?_)
  refine l_pure rfl (s_asg  rfl ?_)
  refine l_nil ?_
  repeat (with_reducible first | refine c_seq ?_ | refine c_block ?_ | refine c_skip ?_ | refine x_then ?_ | refine x_block ?_)
  refine c_forget (fun ρ' => ρ' 22 = .bool true ∧ ρ' 14 = .pointer (some ⟨b14, 0, none⟩) ∧ ρ' 16 = .pointer (some ⟨b16, 0, none⟩) ∧ ρ' 18 = .pointer (some ⟨b18, 0, none⟩) ∧ ρ' 20 = .pointer (some ⟨b20, 0, none⟩) ∧ True) ⟨rfl, hk18_14, hk18_16, hk18_18, hk18_20, trivial⟩ ?_
  rintro ρk19 ⟨hk19_22, hk19_14, hk19_16, hk19_18, hk19_20, -⟩
  have hge : 0 ≤ cmpQ (q2 - q1) (q4 - q3) := cmpQ_ge.2 (by grind)
  have hle : cmpQ q1 q3 ≤ 0 := cmpQ_le.2 hmono
  have hs1 := L_sub q2 q1
  have hs2 := L_sub q4 q3
  repeat (with_reducible first | refine c_seq ?_ | refine c_block ?_ | refine c_skip ?_ | refine x_then ?_ | refine x_block ?_)
  refine c_draw [(0, .grow), (1, .pure), (2, .pure), (3, .pure), (4, .pure), (5, .read), (6, .read), (8, .read), (9, .read), (7, .grow), (10, .grow), (11, .grow), (12, .pure), (13, .pure), (14, .pure), (15, .read), (16, .read), (17, .grow), (18, .pure), (19, .pure), (20, .pure)] (by kernel_rfl) (by kernel_rfl) hS ?_
  intro wz20 hS hBz20
  refine w_grow rfl rfl (s_call Tryd.call12 rfl (awake_ok _ (hT.below hS.below)) ?_)
  rintro r w11 ⟨rfl, hB11⟩
  refine ⟨hB11, ?_⟩
  replace hS := hS.grow hB11
  refine w_pure rfl rfl (s_move  rfl ?_)
  refine w_pure rfl (gd_yes 103 (by kernel_rfl) rfl rfl) (s_move  hk19_22 ?_)
  refine w_pure rfl rfl (s_pick (vb rfl rfl) rfl ?_)
  refine w_pure rfl rfl (s_move  rfl ?_)
  refine w_read rfl (gd_yes 106 (by kernel_rfl) rfl rfl) (s_ldo (k := 2)  hk19_16 vi_32 hS rfl rfl rfl (.inl rfl) ?_)
  refine w_read rfl (gd_yes 106 (by kernel_rfl) rfl rfl) (s_ldo (k := 3)  hk19_14 vi_32 hS rfl rfl rfl (.inl rfl) ?_)
  refine w_read rfl (gd_yes 106 (by kernel_rfl) rfl rfl) (s_ldo (k := 0)  hk19_20 vi_32 hS rfl rfl rfl (.inl rfl) ?_)
  refine w_read rfl (gd_yes 106 (by kernel_rfl) rfl rfl) (s_ldo (k := 1)  hk19_18 vi_32 hS rfl rfl rfl (.inl rfl) ?_)
  refine w_grow rfl (gd_yes 106 (by kernel_rfl) rfl rfl) (s_call Tryd.call15 rfl (QSubtract_ok (ofQ q2) (ofQ q1) _ (by rw [Lr_ofQ, Lr_ofQ]; omega)) ?_)
  rintro r w12 ⟨rfl, hB12⟩
  refine ⟨hB12, ?_⟩
  rw [toQ_ofQ, toQ_ofQ]
  replace hS := hS.grow hB12
  refine w_grow rfl (gd_yes 106 (by kernel_rfl) rfl rfl) (s_call Tryd.call15 rfl (QSubtract_ok (ofQ q4) (ofQ q3) _ (by rw [Lr_ofQ, Lr_ofQ]; omega)) ?_)
  rintro r w13 ⟨rfl, hB13⟩
  refine ⟨hB13, ?_⟩
  rw [toQ_ofQ, toQ_ofQ]
  replace hS := hS.grow hB13
  refine w_grow rfl (gd_yes 106 (by kernel_rfl) rfl rfl) (s_call Tryd.call11 rfl (QCompare_ok (ofQ (q2 - q1)) (ofQ (q4 - q3)) _ (by rw [Lr_ofQ, Lr_ofQ]; omega)) ?_)
  rintro r w14 ⟨rfl, hB14⟩
  refine ⟨hB14, ?_⟩
  rw [toQ_ofQ, toQ_ofQ]
  replace hS := hS.grow hB14
  refine w_pure rfl (gd_yes 106 (by kernel_rfl) rfl rfl) (s_geq  rfl rfl ?_)
  refine w_pure rfl rfl (s_pick (vb rfl rfl) rfl ?_)
  refine w_pure rfl rfl (s_move  rfl ?_)
  refine w_read rfl (gd_yes 116 (by kernel_rfl) rfl (decide_eq_true hge)) (s_ldo (k := 3)  hk19_14 vi_32 hS rfl rfl rfl (.inl rfl) ?_)
  refine w_read rfl (gd_yes 116 (by kernel_rfl) rfl (decide_eq_true hge)) (s_ldo (k := 1)  hk19_18 vi_32 hS rfl rfl rfl (.inl rfl) ?_)
  refine w_grow rfl (gd_yes 116 (by kernel_rfl) rfl (decide_eq_true hge)) (s_call Tryd.call11 rfl (QCompare_ok (ofQ q1) (ofQ q3) _ (by rw [Lr_ofQ, Lr_ofQ]; omega)) ?_)
  rintro r w15 ⟨rfl, hB15⟩
  refine ⟨hB15, ?_⟩
  rw [toQ_ofQ, toQ_ofQ]
  replace hS := hS.grow hB15
  refine w_pure rfl (gd_yes 116 (by kernel_rfl) rfl (decide_eq_true hge)) (s_leq  rfl rfl ?_)
  refine w_pure rfl rfl (s_pick (vb rfl (decide_eq_true hge)) rfl ?_)
  refine w_pure rfl rfl (s_asg  rfl ?_)
  refine w_end ?_
  repeat (with_reducible first | refine c_seq ?_ | refine c_block ?_ | refine c_skip ?_ | refine x_then ?_ | refine x_block ?_)
  refine c_ret ?_
  repeat (with_reducible first | refine x_then_ret ?_ | refine x_block_ret ?_)
  refine r_one rfl rfl ?_
  exact ⟨vb rfl (decide_eq_true hle), bt hW hS.below⟩
end Go.Proofs.YtfocimgpahjkmaaDoor
namespace Go.Proofs.YtfocimgpahjkmaaDoor
open Go Go.RowKit Go.Sx Go.ChangeShapes Go.WideShapes Go.ChangeAt

set_option maxRecDepth 100000 in
theorem submodular_lifted (os : Os) (started : os.Started) (H : Type) (enc : TypeId × Value → H) :
    ReturnsInHanded {} Tryd.checked os 4 .any (fun w args => (Rows.marshalSubmodularSpec.pre enc Tryd.prog Tryd.f4 Rows.marshalSubmodularRow.domain false w args ∧ laidMetH Tryd.prog Rows.marshalSubmodularRow.laid w) ∧ sizedMet enc Tryd.prog Tryd.f4 (OpenSpec.ofChange Rows.marshalSubmodularSpec) false w args)
      (Rows.marshalSubmodularSpec.post enc Tryd.prog Tryd.f4 false true false false) := by
  refine returnsInHanded_of_change_and (C := Tryd.checked) (X := fun w _ => laidMetH Tryd.prog Rows.marshalSubmodularRow.laid w) (fun _ _ _ hh h => h.of_heap hh) ownNone started (by kernel_rfl) Tryd.func4
    (ChangeSpec.witness_shaped (enc := enc) (C := Tryd.checked) (os := os) (X := fun w _ => laidMetH Tryd.prog Rows.marshalSubmodularRow.laid w) false (World.laidAll Tryd.prog os Rows.marshalSubmodularRow.laid) #[.slice none 0 0, .slice none 0 0, .int .u8 0, .int .u8 0, .int .u8 0] 8 (World.laidAll_os _ _ _)
      (World.shaped_of_ZipB (by kernel_rfl) (by kernel_rfl)) (by kernel_rfl) (by kernel_rfl) (by kernel_rfl)
      (by rw [MakeChecks.laidMetH_plain _ _ _ (by kernel_rfl)]; exact laidMet_laidAll _ (by kernel_rfl) (by kernel_rfl))) ?_
  intro W base args ds gs before hval0 hW hc _ hL _
  have hval : ∀ (j : Nat) t v, Tryd.f4.params[j]? = some t → args[j]? = some v → Value.okWide Tryd.prog W .any base t v := hval0
  have hW' := hW
  obtain ⟨p, q, hA0, hV, rfl, _, _⟩ := hW
  have hA : DataW.TrodAll enc Tryd.prog W 0 (fun _ => true) true Tryd.f4.params.toList args.toList ds p := hA0
  rw [Tryd.params4] at hA hval
  obtain ⟨v0, r0, d0, e0, p0, q0, ha0, rfl, rfl, h0, hA1⟩ := trodAll_cons hA
  obtain ⟨v1, r1, d1, e1, p1, q1, rfl, rfl, rfl, h1, hA2⟩ := trodAll_cons hA1
  obtain ⟨v2, v3, v4, d2, d3, d4, p2, p3, p4, ha2, rfl, rfl, h2, h3, h4⟩ := trodAll_three (args := r1.toArray) (by simpa using hA2)
  obtain rfl : r1 = [v2, v3, v4] := by simpa using congrArg Array.toList ha2
  obtain rfl : args = #[v0, v1, v2, v3, v4] := by cases args; simp_all
  obtain ⟨rfl, rfl⟩ := trodVars_none hV
  obtain ⟨l, hl, hlb⟩ := open_u16rows Tryd.underlying22 Tryd.underlying46 Tryd.underlying45 (by kernel_rfl) (by kernel_rfl) (hval 0 22 v0 rfl rfl) h0
  obtain ⟨a, ha, hab⟩ := open_u16s Tryd.underlying23 Tryd.underlying45 (by kernel_rfl) (hval 1 23 v1 rfl rfl) h1
  obtain ⟨x2, rfl, rfl, rfl, wx2⟩ := open_int Tryd.underlying5 (hval 2 5 v2 rfl rfl) h2
  have hx2 := bounds_u8 wx2
  obtain ⟨b2, rfl⟩ : ∃ b : Nat, x2 = b := ⟨x2.toNat, by omega⟩
  obtain ⟨x3, rfl, rfl, rfl, wx3⟩ := open_int Tryd.underlying5 (hval 3 5 v3 rfl rfl) h3
  have hx3 := bounds_u8 wx3
  obtain ⟨b3, rfl⟩ : ∃ b : Nat, x3 = b := ⟨x3.toNat, by omega⟩
  obtain ⟨x4, rfl, rfl, rfl, wx4⟩ := open_int Tryd.underlying5 (hval 4 5 v4 rfl rfl) h4
  have hx4 := bounds_u8 wx4
  obtain ⟨b4, rfl⟩ : ∃ b : Nat, x4 = b := ⟨x4.toNat, by omega⟩
  have hT := tz_at hL (by kernel_rfl)
  refine (MarshalSubmodular_ok v0 v1 l a b2 b3 b4 W hl ha hlb hab (by omega) (by omega) (by omega) hT).mono ?_
  rintro v W' ⟨rfl, hB⟩
  exact law_post (f := Tryd.f4) (s := Rows.marshalSubmodularSpec) laidOut hW' (fun t ht => by
    have hm : t ∈ [22, 23, 5, 5, 5] := by rw [Tryd.params4] at ht; simpa using ht
    have hall : ([22, 23, 5, 5, 5].all fun t => Tryd.prog.readableRec t && decide (t < Tryd.prog.types.size)) = true := by kernel_rfl
    have h2 := List.all_eq_true.1 hall t hm
    rw [Bool.and_eq_true, decide_eq_true_eq] at h2
    exact h2) rfl hB (trodAll_mk1 (shut_bool Tryd.underlying4 _)) rfl rfl

theorem submodular_holds : Rows.MarshalSubmodularSaid :=
  OpenClaim.holds_of_wide 4 Tryd.f4 rfl rfl rfl rfl rfl rfl rfl ⟨rfl, rfl, rfl, rfl, rfl⟩ rfl rfl rfl rfl rfl (by kernel_rfl) Tryd.func4 (by kernel_rfl)
    (of_decide_eq_true (by kernel_rfl)) (by unfold Func.isWrapper; first | (rw [if_pos (by decide +kernel)]; kernel_rfl) | (rw [if_neg (by decide +kernel)]; exact ⟨rfl, rfl⟩))
    (fun os started H enc _ => submodular_lifted os started H enc)
theorem submodular_card : Rows.MarshalSubmodularCardSaid :=
  Claim7.holds_tied_plain_at .later [] [.data, .data, .data, .pinned] true (true, "4e78065e193f7809e73563622f2ce4b4a7e1f379312a80489bd453d1f3a2aa90") false submodular_holds (fun _ h => by cases h) (by kernel_rfl) (fun _ h => by cases h) marshalSubmodular_row_tie rfl ⟨rfl, rfl⟩ (by kernel_rfl) rfl
    (fun f fn hf hfn => by
      obtain rfl : f = 4 := Option.some.inj ((show Tryd.prog.funcNamed "insolvency/insolvencylaw16.MarshalSubmodular" = some 4 by kernel_rfl).symm.trans hf) |>.symm
      obtain rfl : fn = Tryd.f4 := (Option.some.inj (Tryd.func4.symm.trans hfn)).symm
      exact ⟨by kernel_rfl, fun j t ht => by
        rw [Tryd.params4] at ht
        have hm : t ∈ [22, 23, 5, 5, 5] := by simpa using Array.mem_of_getElem? ht
        have hall : ([22, 23, 5, 5, 5].all fun u => !Tryd.prog.wantsStandIn u) = true := by kernel_rfl
        exact (show Tryd.prog.wantsStandIn t = false by simpa using List.all_eq_true.1 hall t hm)⟩)
    (by kernel_rfl)
#print axioms submodular_holds
#print axioms submodular_card
end Go.Proofs.YtfocimgpahjkmaaDoor
