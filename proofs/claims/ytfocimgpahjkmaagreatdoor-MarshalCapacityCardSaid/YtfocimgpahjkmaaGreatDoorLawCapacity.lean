/-
  PROVED: for every input MarshalCapacity returns true, and each argument reads afterwards as it read before; the tables that its row lists read as the program's text lays them.
-/
import Derived.Test.YtfocimgpahjkmaaGreatDoorPart8
import Derived.Test.YtfocimgpahjkmaaGreatDoorCards
namespace Go.Proofs.YtfocimgpahjkmaaGreatDoor
open Go Go.RowKit Go.Sx

/-- A list's members from the last one on, each twice, n of them from the end. -/
def rdup (L : List Int) : Nat → List Int
  | 0 => []
  | n + 1 => rdup L n ++ [L.getD (L.length - 1 - n) 0, L.getD (L.length - 1 - n) 0]
theorem rdup_len (L : List Int) (n : Nat) : (rdup L n).length = 2 * n := by
  induction n with
  | zero => rfl
  | succ n ih => rw [rdup, List.length_append, ih]; rfl
theorem rdup_any (L : List Int) (p : Int → Bool) (n : Nat) (hn : n ≤ L.length) : (rdup L n).any p = (L.drop (L.length - n)).any p := by
  induction n with
  | zero => rw [rdup, Nat.sub_zero, List.drop_length]
  | succ n ih =>
    have hk : L.length - (n + 1) < L.length := by omega
    have e : L.getD (L.length - 1 - n) 0 = L[L.length - (n + 1)] := by
      rw [List.getD_eq_getElem?_getD, show L.length - 1 - n = L.length - (n + 1) by omega, List.getElem?_eq_getElem hk]; rfl
    rw [rdup, List.any_append, ih (by omega), List.drop_eq_getElem_cons hk, show L.length - (n + 1) + 1 = L.length - n by omega, e]
    simp only [List.any_cons, List.any_nil, Bool.or_false, Bool.or_self]
    rw [Bool.or_comm]
theorem rdup_all (L : List Int) (p : Int → Bool) : (rdup L L.length).any p = L.any p := by
  rw [rdup_any L p _ (Nat.le_refl _), Nat.sub_self, List.drop_zero]
theorem capE_rdup (X : List It) (owed : List RR) (L : List Int) : capE X owed (rdup L L.length) = capE X owed L := by
  unfold capE
  rw [rdup_all]
theorem capR_rdup (X : List It) (owed : List RR) (L : List Int) : capR X owed (rdup L L.length) = capR X owed L := by
  have h : capS (rdup L L.length) = capS L := by funext c; exact rdup_all L _
  unfold capR
  rw [capE_rdup, h]
theorem capE_setL (l : List (Nat → Nat)) (a : List Nat) (n k bits : Nat) (hn : n ≤ 8) (hk : k ≤ 24) : capE (itemsL l (amts a k).length n) (amts a k) (setL bits (amts a k).length) = 0 := by
  unfold capE
  rw [if_pos (items_check l a n k hn hk), if_neg]
  rw [List.any_eq_true]
  rintro ⟨x, hx, h⟩
  obtain ⟨y, hy, rfl⟩ := List.mem_map.1 hx
  have hy2 := List.mem_range.1 (List.mem_filter.1 hy).1
  have := of_decide_eq_true h
  omega

set_option maxHeartbeats 1000000 in
theorem MarshalCapacity_ok (vl va : Value) (l : List (Nat → Nat)) (a : List Nat) (bits : Nat) (w : World) (hl : Sl enc6 6 w vl l) (ha : Sl (uk .u16) 1 w va a) (hlb : ∀ x ∈ l, ∀ i, i < 6 → x i < 65536) (hab : ∀ x ∈ a, x < 65536) (hbits : bits < 256)
    (hT : At w ⟨1, 0, none⟩ (Kr .u8 tzTab)) :
    Ret Tryz.prog 4 #[vl, va, .int .u8 bits] w fun v w' => v = .bool true ∧ Below w.heap.size w w' := by
  have hM : MX = 1099511627776 := rfl
  have hK1 : 80 * 1 + 90 ≤ MX := by rw [hM]; decide
  have hK2 : 100 * 1 + 100 ≤ MX := by rw [hM]; decide
  have hS := St.init w
  refine enter Tryz.func4 rfl Tryz.ntmps4 rfl ?_
  repeat (with_reducible first | refine c_seq ?_ | refine c_block ?_ | refine c_skip ?_ | refine x_then ?_ | refine x_block ?_)
  refine c_reg ?_
  refine l_pure rfl (s_asg  rfl ?_)
  refine l_nil ?_
  repeat (with_reducible first | refine c_seq ?_ | refine c_block ?_ | refine c_skip ?_ | refine x_then ?_ | refine x_block ?_)
  refine c_reg ?_
  refine l_pure rfl (s_move  rfl ?_)
  refine l_heavy rfl (s_call Tryz.call7 rfl (Amounts_ok va a 6 _ ha hab (by decide)) ?_)
  rintro vo w1 ⟨ho, hB1⟩
  replace hS := hS.grow hB1
  have hm6 : (amts a 6).length ≤ 6 := by rw [amts_len]; omega
  refine l_pure rfl (s_asg  rfl ?_)
  refine l_nil ?_
  repeat (with_reducible first | refine c_seq ?_ | refine c_block ?_ | refine c_skip ?_ | refine x_then ?_ | refine x_block ?_)
  refine c_reg ?_
  refine l_pure rfl (s_move  rfl ?_)
  refine l_pure rfl (s_move  rfl ?_)
  refine l_pure rfl (s_lenr  rfl ho ⟨_, Tryz.underlying24⟩ ?_)
  refine l_heavy rfl (s_call Tryz.call8 rfl (Items_ok vl l (amts a 6).length _ (hl.below hS.below) hlb (by omega)) ?_)
  rintro vit w2 ⟨⟨cvs, hI⟩, hB2⟩
  replace hS := hS.grow hB2
  replace ho := ho.below hB2
  have hIB := items_B l (amts a 6).length 4
  have hoB := amts_RB a 6
  refine l_pure rfl (s_asg  rfl ?_)
  refine l_nil ?_
  repeat (with_reducible first | refine c_seq ?_ | refine c_block ?_ | refine c_skip ?_ | refine x_then ?_ | refine x_block ?_)
  refine c_forget (fun ρ' => ρ' 2 = .int .u8 bits ∧ ρ' 7 = vo ∧ ρ' 8 = vit ∧ True) ⟨rfl, rfl, rfl, trivial⟩ ?_
  rintro ρk1 ⟨hk1_2, hk1_7, hk1_8, -⟩
  repeat (with_reducible first | refine c_seq ?_ | refine c_block ?_ | refine c_skip ?_ | refine x_then ?_ | refine x_block ?_)
  refine c_reg ?_
  refine l_pure rfl (s_move  hk1_2 ?_)
  refine l_pure rfl (s_move  hk1_7 ?_)
  refine l_pure rfl (s_lenr  rfl ho ⟨_, Tryz.underlying24⟩ ?_)
  refine l_heavy rfl (s_call Tryz.call15 rfl (set_ok bits (amts a 6).length _ hbits (by omega)) ?_)
  rintro vs w3 ⟨hs, hB3⟩
  replace hS := hS.grow hB3
  replace ho := ho.below hB3
  replace hI := hI.below hB3
  obtain ⟨L, hL⟩ : ∃ L, L = setL bits (amts a 6).length := ⟨_, rfl⟩
  have hLl := setL_len bits (amts a 6).length
  rw [← hL] at hs hLl
  have hcE := capE_setL l a 4 6 bits (by decide) (by decide)
  rw [← hL] at hcE
  refine l_pure rfl (s_asg  rfl ?_)
  refine l_nil ?_
  repeat (with_reducible first | refine c_seq ?_ | refine c_block ?_ | refine c_skip ?_ | refine x_then ?_ | refine x_block ?_)
  refine c_forget (fun ρ' => ρ' 7 = vo ∧ ρ' 8 = vit ∧ ρ' 9 = vs ∧ True) ⟨hk1_7, hk1_8, rfl, trivial⟩ ?_
  rintro ρk2 ⟨hk2_7, hk2_8, hk2_9, -⟩
  repeat (with_reducible first | refine c_seq ?_ | refine c_block ?_ | refine c_skip ?_ | refine x_then ?_ | refine x_block ?_)
  refine c_reg ?_
  refine l_pure rfl (s_asg  rfl ?_)
  refine l_nil ?_
  repeat (with_reducible first | refine c_seq ?_ | refine c_block ?_ | refine c_skip ?_ | refine x_then ?_ | refine x_block ?_)
  refine c_reg ?_
  refine l_pure rfl (s_move  hk2_9 ?_)
  refine l_pure rfl (s_lenr  rfl hs ⟨_, Tryz.underlying36⟩ ?_)
  refine l_pure rfl (s_sub  rfl rfl (r := ((L.length : Nat) : Int) - 1) (by exact IntWalk.i64_in _ (by omega)) ?_)
  refine l_pure rfl (s_asg  rfl ?_)
  refine l_nil ?_
  repeat (with_reducible first | refine c_seq ?_ | refine c_skip ?_ | refine x_then ?_ | refine x_block ?_)
  refine c_cut1 (fun ρ w' => ρ 7 = vo ∧ ρ 8 = vit ∧ ρ 9 = vs ∧ ∃ sR LR, ρ 10 = sR ∧ Gl enI 3 1 sR (rdup L L.length) LR ∧ St w3 w' ([] ++ LR)) ?_ ?_
  · have hW := hS.below
    replace hS := St.init w3
    repeat (with_reducible first | refine c_seq ?_ | refine c_block ?_ | refine c_skip ?_ | refine x_then ?_ | refine x_block ?_)
    refine c_loop (σ := Nat) (fun k ρ w' => k ≤ L.length ∧ ρ 7 = vo ∧ ρ 8 = vit ∧ ρ 9 = vs ∧ ρ 11 = .int .i64 ((L.length : Int) - 1 - k) ∧ ∃ sR LR, ρ 10 = sR ∧ Gl enI 3 1 sR (rdup L k) LR ∧ St w3 w' ([] ++ LR)) (fun k => L.length - k) 0
      ⟨Nat.zero_le _, by assumption, by assumption, by assumption, vi rfl (by omega), ⟨_, [], rfl, Gl.nil _ _ _, hS⟩⟩ ?_
    clear hS
    rintro k ρ w4 ⟨hk, h7, h8, h9, h11, sR, LR, h10, hG, hS⟩
    have hrl := rdup_len L k
    repeat (with_reducible first | refine c_seq ?_ | refine c_block ?_ | refine c_skip ?_ | refine x_then ?_ | refine x_block ?_)
    refine c_reg ?_
    refine l_pure rfl (s_move  h11 ?_)
    refine l_pure rfl (s_geq  rfl rfl ?_)
    refine l_nil ?_
    repeat (with_reducible first | refine c_seq ?_ | refine c_block ?_ | refine c_skip ?_ | refine x_then ?_ | refine x_block ?_)
    by_cases hlt : k < L.length
    · refine c_yes rfl (decide_eq_true (by omega)) ?_
      repeat (with_reducible first | refine c_seq ?_ | refine c_block ?_ | refine c_skip ?_ | refine x_then ?_ | refine x_block ?_)
      obtain ⟨x, hx⟩ : ∃ x, x = L.getD (L.length - 1 - k) 0 := ⟨_, rfl⟩
      repeat (with_reducible first | refine c_seq ?_ | refine c_block ?_ | refine c_skip ?_ | refine x_then ?_ | refine x_block ?_)
      refine c_draw [(0, .pure), (1, .pure), (2, .pure), (3, .pure), (4, .read), (5, .pure), (6, .pure), (7, .pure), (8, .read), (9, .grow), (10, .free), (11, .pure)] (by kernel_rfl) (by kernel_rfl) hS ?_
      intro wz3 hS hBz3
      refine w_pure rfl rfl (s_move  h10 ?_)
      refine w_pure rfl rfl (s_move  h9 ?_)
      refine w_pure rfl rfl (s_move  h11 ?_)
      refine w_pure rfl rfl (s_ixr (i := L.length - 1 - k)  rfl rfl (hs.below hS.below) (by omega) (by first | omega | (simp; done) | (simp; omega)) si_36 ?_)
      refine w_read rfl rfl (s_lde (v := .int .i64 x) (i := L.length - 1 - k) 0  rfl vi_3 (hs.below hS.below) (by omega) rfl (by rw [← hx]; rfl) (.inr rfl) ?_)
      refine w_pure rfl rfl (s_move  h9 ?_)
      refine w_pure rfl rfl (s_move  h11 ?_)
      refine w_pure rfl rfl (s_ixr (i := L.length - 1 - k)  rfl rfl (hs.below hS.below) (by omega) (by first | omega | (simp; done) | (simp; omega)) si_36 ?_)
      refine w_read rfl rfl (s_lde (v := .int .i64 x) (i := L.length - 1 - k) 0  rfl vi_3 (hs.below hS.below) (by omega) rfl (by rw [← hx]; rfl) (.inr rfl) ?_)
      refine w_grow rfl rfl (s_bsl (vs := [.int .i64 x, .int .i64 x])  rfl si_36 rfl (by decide) (by decide) (by decide) (by simp [Value.cells]) rfl hS ?_)
      intro bx wz4 hS hBz4
      refine ⟨hBz4, ?_⟩
      refine w_free rfl rfl (s_appl [x, x]  rfl rfl si_36 (by decide) hG hS rfl rfl enI_len (enI_one [x, x]) (by first | omega | (simp only [List.length_cons, List.length_nil]; omega)) (by first | omega | (simp only [List.length_cons, List.length_nil]; omega)) ?_)
      intro va5 La5 wa5 hG hS hga5
      refine w_pure rfl rfl (s_asg  rfl ?_)
      refine w_end ?_
      repeat (with_reducible first | refine c_seq ?_ | refine c_block ?_ | refine c_skip ?_ | refine x_then ?_ | refine x_block ?_)
      have hd : rdup L k ++ [x, x] = rdup L (k + 1) := by rw [rdup, ← hx]
      rw [hd] at hG
      repeat (with_reducible first | refine c_seq ?_ | refine c_block ?_ | refine c_skip ?_ | refine x_then ?_ | refine x_block ?_)
      refine c_reg ?_
      refine l_pure rfl (s_move  h11 ?_)
      refine l_pure rfl (s_sub  rfl rfl (IntWalk.i64_in _ (by omega)) ?_)
      refine l_pure rfl (s_asg  rfl ?_)
      refine l_nil ?_
      repeat (with_reducible first | refine c_seq ?_ | refine c_block ?_ | refine c_skip ?_ | refine x_then ?_ | refine x_block ?_)
      exact ⟨k + 1, _, rfl, ⟨hlt, h7, h8, h9, vi rfl (by omega), ⟨_, _, rfl, hG, hS⟩⟩, by omega⟩
    · refine c_no rfl (decide_eq_false (by omega)) ?_
      repeat (with_reducible first | refine c_seq ?_ | refine c_block ?_ | refine c_skip ?_ | refine x_then ?_ | refine x_block ?_)
      refine c_exit ?_
      repeat (with_reducible first | refine x_then_exit ?_ | refine x_block_exit ?_ | refine x_block_pass rfl ?_)
      repeat (with_reducible first | refine c_seq ?_ | refine c_block ?_ | refine c_skip ?_ | refine x_then ?_ | refine x_block ?_)
      obtain rfl : k = L.length := by omega
      exact ⟨_, rfl, h7, h8, h9, ⟨_, _, h10, hG, hS⟩⟩
  have hW := hS.below
  clear hS
  rintro ρ w4 ⟨h7, h8, h9, sR, LR, h10, hG, hS⟩
  have hB4 := hS.below
  have hr := hG.sl hS enI_len
  replace hS := (St.init w).grow (bt hW hB4)
  replace ho := ho.below hB4
  replace hI := hI.below hB4
  replace hs := hs.below hB4
  repeat (with_reducible first | refine c_seq ?_ | refine c_block ?_ | refine c_skip ?_ | refine x_then ?_ | refine x_block ?_)
  obtain ⟨C, hC⟩ : ∃ C, C = capR (itemsL l (amts a 6).length 4) (amts a 6) L := ⟨_, rfl⟩
  have hC2 := capR_rdup (itemsL l (amts a 6).length 4) (amts a 6) L
  have hE2 := capE_rdup (itemsL l (amts a 6).length 4) (amts a 6) L
  rw [← hC] at hC2
  rw [hcE] at hE2
  repeat (with_reducible first | refine c_seq ?_ | refine c_block ?_ | refine c_skip ?_ | refine x_then ?_ | refine x_block ?_)
  refine c_reg ?_
  refine l_pure rfl (s_move  h8 ?_)
  refine l_pure rfl (s_move  h7 ?_)
  refine l_pure rfl (s_move  h9 ?_)
  refine l_heavy rfl (s_call Tryz.call16 rfl (Capacity_ok _ _ _ _ cvs _ L 1 _ hI ho hs hIB hoB hK1 (hT.below hS.below)) ?_)
  rintro r w5 ⟨rfl, hB5⟩
  rw [hcE, ← hC]
  replace hS := hS.grow hB5
  replace ho := ho.below hB5
  replace hI := hI.below hB5
  replace hs := hs.below hB5
  replace hr := hr.below hB5
  have hW5 := hS.below
  clear hS
  have hS := St.init w5
  refine l_pure rfl (s_move  rfl ?_)
  refine l_pure rfl (s_ext  rfl rfl ?_)
  refine l_pure rfl (s_ext  rfl rfl ?_)
  refine l_heavy rfl (s_alloc  vi_39 hS ?_)
  intro b12 wz6 hS hBz6
  refine l_heavy rfl (s_sta (k := 0)  rfl rfl vi_39 hS rfl rfl rfl (Nat.le_of_ble_eq_true rfl) rfl ?_)
  intro wz7 hS
  refine l_pure rfl (s_asg  rfl ?_)
  refine l_nil ?_
  repeat (with_reducible first | refine c_seq ?_ | refine c_block ?_ | refine c_skip ?_ | refine x_then ?_ | refine x_block ?_)
  replace hS : St w5 _ [(b12, 39, encR C)] := hS
  repeat (with_reducible first | refine c_seq ?_ | refine c_block ?_ | refine c_skip ?_ | refine x_then ?_ | refine x_block ?_)
  refine c_forget (fun ρ' => ρ' 7 = vo ∧ ρ' 8 = vit ∧ ρ' 9 = vs ∧ ρ' 10 = sR ∧ ρ' 12 = .pointer (some ⟨b12, 0, none⟩) ∧ ρ' 13 = .int .i64 0 ∧ True) ⟨h7, h8, h9, h10, rfl, rfl, trivial⟩ ?_
  rintro ρk8 ⟨hk8_7, hk8_8, hk8_9, hk8_10, hk8_12, hk8_13, -⟩
  repeat (with_reducible first | refine c_seq ?_ | refine c_block ?_ | refine c_skip ?_ | refine x_then ?_ | refine x_block ?_)
  refine c_reg ?_
  refine l_pure rfl (s_move  hk8_8 ?_)
  refine l_pure rfl (s_move  hk8_7 ?_)
  refine l_pure rfl (s_move  hk8_10 ?_)
  refine l_heavy rfl (s_call Tryz.call16 rfl (Capacity_ok _ _ _ _ cvs _ (rdup L L.length) 1 _ (hI.below hS.below) (ho.below hS.below) (hr.below hS.below) hIB hoB hK1 ((hT.below hW5).below hS.below)) ?_)
  rintro r w6 ⟨rfl, hB6⟩
  rw [hE2, hC2]
  replace hS := hS.grow hB6
  refine l_pure rfl (s_move  rfl ?_)
  refine l_pure rfl (s_ext  rfl rfl ?_)
  refine l_pure rfl (s_ext  rfl rfl ?_)
  refine l_heavy rfl (s_alloc  vi_39 hS ?_)
  intro b14 wz9 hS hBz9
  refine l_heavy rfl (s_sta (k := 0)  rfl rfl vi_39 hS rfl rfl rfl (Nat.le_of_ble_eq_true rfl) rfl ?_)
  intro wz10 hS
  refine l_pure rfl (s_asg  rfl ?_)
  refine l_nil ?_
  repeat (with_reducible first | refine c_seq ?_ | refine c_block ?_ | refine c_skip ?_ | refine x_then ?_ | refine x_block ?_)
  replace hS : St w5 _ [(b14, 39, encR C), (b12, 39, encR C)] := hS
  repeat (with_reducible first | refine c_seq ?_ | refine c_block ?_ | refine c_skip ?_ | refine x_then ?_ | refine x_block ?_)
  refine c_forget (fun ρ' => ρ' 7 = vo ∧ ρ' 8 = vit ∧ ρ' 9 = vs ∧ ρ' 12 = .pointer (some ⟨b12, 0, none⟩) ∧ ρ' 13 = .int .i64 0 ∧ ρ' 14 = .pointer (some ⟨b14, 0, none⟩) ∧ ρ' 15 = .int .i64 0 ∧ True) ⟨hk8_7, hk8_8, hk8_9, hk8_12, hk8_13, rfl, rfl, trivial⟩ ?_
  rintro ρk11 ⟨hk11_7, hk11_8, hk11_9, hk11_12, hk11_13, hk11_14, hk11_15, -⟩
  repeat (with_reducible first | refine c_seq ?_ | refine c_block ?_ | refine c_skip ?_ | refine x_then ?_ | refine x_block ?_)
  refine c_reg ?_
  refine l_pure rfl (s_move  hk11_8 ?_)
  refine l_pure rfl (s_move  hk11_7 ?_)
  refine l_pure rfl (s_move  hk11_9 ?_)
  refine l_heavy rfl (s_call Tryz.call17 rfl (rCapacity_ok _ _ _ _ cvs _ L 1 _ (hI.below hS.below) (ho.below hS.below) (hs.below hS.below) hIB hoB hK2) ?_)
  rintro r w7 ⟨rfl, hB7⟩
  rw [hcE, ← hC]
  replace hS := hS.grow hB7
  refine l_pure rfl (s_move  rfl ?_)
  refine l_pure rfl (s_ext  rfl rfl ?_)
  refine l_pure rfl (s_ext  rfl rfl ?_)
  refine l_heavy rfl (s_alloc  vi_39 hS ?_)
  intro b16 wz12 hS hBz12
  refine l_heavy rfl (s_sta (k := 0)  rfl rfl vi_39 hS rfl rfl rfl (Nat.le_of_ble_eq_true rfl) rfl ?_)
  intro wz13 hS
  refine l_pure rfl (s_asg  rfl ?_)
  refine l_nil ?_
  repeat (with_reducible first | refine c_seq ?_ | refine c_block ?_ | refine c_skip ?_ | refine x_then ?_ | refine x_block ?_)
  replace hS : St w5 _ [(b16, 39, encR C), (b14, 39, encR C), (b12, 39, encR C)] := hS
  repeat (with_reducible first | refine c_seq ?_ | refine c_block ?_ | refine c_skip ?_ | refine x_then ?_ | refine x_block ?_)
  refine c_forget (fun ρ' => ρ' 12 = .pointer (some ⟨b12, 0, none⟩) ∧ ρ' 13 = .int .i64 0 ∧ ρ' 14 = .pointer (some ⟨b14, 0, none⟩) ∧ ρ' 15 = .int .i64 0 ∧ ρ' 16 = .pointer (some ⟨b16, 0, none⟩) ∧ True) ⟨hk11_12, hk11_13, hk11_14, hk11_15, rfl, trivial⟩ ?_
  rintro ρk14 ⟨hk14_12, hk14_13, hk14_14, hk14_15, hk14_16, -⟩
  repeat (with_reducible first | refine c_seq ?_ | refine c_block ?_ | refine c_skip ?_ | refine x_then ?_ | refine x_block ?_)
  refine c_reg ?_
  refine l_heavy rfl (s_call Tryz.call13 rfl (awake_ok _ ((hT.below hW5).below hS.below)) ?_)
  rintro r w8 ⟨rfl, hB8⟩
  replace hS := hS.grow hB8
  refine l_pure rfl (s_move  rfl ?_)
  refine l_pure (gd_yes 68 (by kernel_rfl) rfl rfl) (s_move  hk14_13 ?_)
  refine l_pure (gd_yes 68 (by kernel_rfl) rfl rfl) (s_eql  rfl rfl ?_)
  refine l_pure rfl (s_pick (vb rfl rfl) rfl ?_)
  refine l_pure rfl (s_move  rfl ?_)
  refine l_pure (gd_yes 72 (by kernel_rfl) rfl rfl) (s_move  hk14_15 ?_)
  refine l_pure (gd_yes 72 (by kernel_rfl) rfl rfl) (s_eql  rfl rfl ?_)
  refine l_pure rfl (s_pick (vb rfl rfl) rfl ?_)
  refine l_pure rfl (s_move  rfl ?_)
  refine l_read (gd_yes 76 (by kernel_rfl) rfl rfl) (s_ldo (k := 2)  hk14_12 vi_39 hS rfl rfl rfl (.inl rfl) ?_)
  refine l_read (gd_yes 76 (by kernel_rfl) rfl rfl) (s_ldo (k := 0)  hk14_16 vi_39 hS rfl rfl rfl (.inl rfl) ?_)
  refine l_pure (gd_yes 76 (by kernel_rfl) rfl rfl) (s_eqR  rfl rfl (r := C) (s := C) ?_)
  refine l_pure rfl (s_pick (vb rfl rfl) rfl ?_)
  refine l_pure rfl (s_move  rfl ?_)
  refine l_read (gd_yes 81 (by kernel_rfl) rfl (decide_eq_true rfl)) (s_ldo (k := 1)  hk14_14 vi_39 hS rfl rfl rfl (.inl rfl) ?_)
  refine l_read (gd_yes 81 (by kernel_rfl) rfl (decide_eq_true rfl)) (s_ldo (k := 0)  hk14_16 vi_39 hS rfl rfl rfl (.inl rfl) ?_)
  refine l_pure (gd_yes 81 (by kernel_rfl) rfl (decide_eq_true rfl)) (s_eqR  rfl rfl (r := C) (s := C) ?_)
  refine l_pure rfl (s_pick (vb rfl (decide_eq_true rfl)) rfl ?_)
  refine l_pure rfl (s_asg  rfl ?_)
  refine l_nil ?_
  repeat (with_reducible first | refine c_seq ?_ | refine c_block ?_ | refine c_skip ?_ | refine x_then ?_ | refine x_block ?_)
  refine c_ret ?_
  repeat (with_reducible first | refine x_then_ret ?_ | refine x_block_ret ?_)
  refine r_one rfl rfl ?_
  exact ⟨vb rfl (decide_eq_true rfl), bt hW5 hS.below⟩
end Go.Proofs.YtfocimgpahjkmaaGreatDoor
namespace Go.Proofs.YtfocimgpahjkmaaGreatDoor
open Go Go.RowKit Go.Sx Go.ChangeShapes Go.WideShapes Go.ChangeAt

set_option maxRecDepth 100000 in
theorem capacity_lifted (os : Os) (started : os.Started) (H : Type) (enc : TypeId × Value → H) :
    ReturnsInHanded {} Tryz.checked os 4 .any (fun w args => (Rows.marshalCapacitySpec.pre enc Tryz.prog Tryz.f4 Rows.marshalCapacityRow.domain false w args ∧ laidMetH Tryz.prog Rows.marshalCapacityRow.laid w) ∧ sizedMet enc Tryz.prog Tryz.f4 (OpenSpec.ofChange Rows.marshalCapacitySpec) false w args)
      (Rows.marshalCapacitySpec.post enc Tryz.prog Tryz.f4 false true false false) := by
  refine returnsInHanded_of_change_and (C := Tryz.checked) (X := fun w _ => laidMetH Tryz.prog Rows.marshalCapacityRow.laid w) (fun _ _ _ hh h => h.of_heap hh) ownNone started (by kernel_rfl) Tryz.func4
    (ChangeSpec.witness_shaped (enc := enc) (C := Tryz.checked) (os := os) (X := fun w _ => laidMetH Tryz.prog Rows.marshalCapacityRow.laid w) false (World.laidAll Tryz.prog os Rows.marshalCapacityRow.laid) #[.slice none 0 0, .slice none 0 0, .int .u8 0] 8 (World.laidAll_os _ _ _)
      (World.shaped_of_ZipB (by kernel_rfl) (by kernel_rfl)) (by kernel_rfl) (by kernel_rfl) (by kernel_rfl)
      (by rw [MakeChecks.laidMetH_plain _ _ _ (by kernel_rfl)]; exact laidMet_laidAll _ (by kernel_rfl) (by kernel_rfl))) ?_
  intro W base args ds gs before hval0 hW hc _ hL _
  have hval : ∀ (j : Nat) t v, Tryz.f4.params[j]? = some t → args[j]? = some v → Value.okWide Tryz.prog W .any base t v := hval0
  have hW' := hW
  obtain ⟨p, q, hA0, hV, rfl, _, _⟩ := hW
  have hA : DataW.TrodAll enc Tryz.prog W 0 (fun _ => true) true Tryz.f4.params.toList args.toList ds p := hA0
  rw [Tryz.params4] at hA hval
  obtain ⟨v0, v1, v2, d0, d1, d2, p0, p1, p2, rfl, rfl, rfl, h0, h1, h2⟩ := trodAll_three hA
  obtain ⟨rfl, rfl⟩ := trodVars_none hV
  obtain ⟨l, hl, hlb⟩ := open_u16rows Tryz.underlying22 Tryz.underlying61 Tryz.underlying60 (by kernel_rfl) (by kernel_rfl) (hval 0 22 v0 rfl rfl) h0
  obtain ⟨a, ha, hab⟩ := open_u16s Tryz.underlying23 Tryz.underlying60 (by kernel_rfl) (hval 1 23 v1 rfl rfl) h1
  obtain ⟨x, rfl, rfl, rfl, wx⟩ := open_int Tryz.underlying5 (hval 2 5 v2 rfl rfl) h2
  have hx := bounds_u8 wx
  obtain ⟨b, rfl⟩ : ∃ b : Nat, x = b := ⟨x.toNat, by omega⟩
  have hT := tz_at hL (by kernel_rfl)
  refine (MarshalCapacity_ok v0 v1 l a b W hl ha hlb hab (by omega) hT).mono ?_
  rintro v W' ⟨rfl, hB⟩
  exact law_post (f := Tryz.f4) (s := Rows.marshalCapacitySpec) laidOut hW' (fun t ht => by
    have hm : t ∈ [22, 23, 5] := by rw [Tryz.params4] at ht; simpa using ht
    have hall : ([22, 23, 5].all fun t => Tryz.prog.readableRec t && decide (t < Tryz.prog.types.size)) = true := by kernel_rfl
    have h2 := List.all_eq_true.1 hall t hm
    rw [Bool.and_eq_true, decide_eq_true_eq] at h2
    exact h2) rfl hB (trodAll_mk1 (shut_bool Tryz.underlying4 _)) rfl rfl

theorem capacity_holds : Rows.MarshalCapacitySaid :=
  OpenClaim.holds_of_wide 4 Tryz.f4 rfl rfl rfl rfl rfl rfl rfl ⟨rfl, rfl, rfl, rfl, rfl⟩ rfl rfl rfl rfl rfl (by kernel_rfl) Tryz.func4 (by kernel_rfl)
    (of_decide_eq_true (by kernel_rfl)) (by unfold Func.isWrapper; first | (rw [if_pos (by decide +kernel)]; kernel_rfl) | (rw [if_neg (by decide +kernel)]; exact ⟨rfl, rfl⟩))
    (fun os started H enc _ => capacity_lifted os started H enc)
theorem capacity_card : Rows.MarshalCapacityCardSaid :=
  Claim7.holds_tied_plain_at .later [] [.data, .data, .data, .pinned] true (true, "0ee06cfeec55d39842426603277484ad49ccfea1a0f777917e14af3ee60495c6") false capacity_holds (fun _ h => by cases h) (by kernel_rfl) (fun _ h => by cases h) marshalCapacity_row_tie rfl ⟨rfl, rfl⟩ (by kernel_rfl) rfl
    (fun f fn hf hfn => by
      obtain rfl : f = 4 := Option.some.inj ((show Tryz.prog.funcNamed "insolvency/insolvencylaw16.MarshalCapacity" = some 4 by kernel_rfl).symm.trans hf) |>.symm
      obtain rfl : fn = Tryz.f4 := (Option.some.inj (Tryz.func4.symm.trans hfn)).symm
      exact ⟨by kernel_rfl, fun j t ht => by
        rw [Tryz.params4] at ht
        have hm : t ∈ [22, 23, 5] := by simpa using Array.mem_of_getElem? ht
        have hall : ([22, 23, 5].all fun u => !Tryz.prog.wantsStandIn u) = true := by kernel_rfl
        exact (show Tryz.prog.wantsStandIn t = false by simpa using List.all_eq_true.1 hall t hm)⟩)
    (by kernel_rfl)
#print axioms capacity_holds
#print axioms capacity_card
end Go.Proofs.YtfocimgpahjkmaaGreatDoor
