/-
  Part 7 of the texts that the laws' proofs share: the framework and the walks.
-/
import Derived.Test.YtdafaibhiobpaabGreatDoorPart6
import Derived.ProofKit
import Derived.OpenShut
import Derived.LaidMore
import Derived.Lay
import Derived.ChangeSlices
import Derived.Carry
import Derived.WideShapes
import Derived.Test.YtdafaibhiobpaabGreatDoorTie
import Derived.SevenTiedAt
import Derived.Stop.Joined
namespace Go.Proofs.YtdafaibhiobpaabGreatDoor
open Go Go.RowKit Go.Sx

def enc6 (x : Nat → Nat) : List Value := Kr .u16 (tab 6 x)
theorem enc6_len : ∀ x, (enc6 x).length = 6 := fun _ => rfl
def chOf (claims y : Nat) : Ch := ⟨((y / 4 % claims : Nat) : Int), ((y / 32 % 3 : Nat) : Int), decide (y % 4 = 1), if y % 4 = 1 then ofQ (((y / 96 % 12 : Nat) : Int) : Rat) else zRR⟩
def chs (claims : Nat) (x : Nat → Nat) (k : Nat) : List Ch := if claims = 0 then [] else ((List.range k).filter fun j : Nat => decide (x (2 + j) % 4 ≠ 0)).map fun j : Nat => chOf claims (x (2 + j))
def itOf (claims : Nat) (x : Nat → Nat) : It := ⟨amR (x 0), ofQ (((x 1 % 4 : Nat) : Int) : Rat), chs claims x 4⟩
def itemsL (l : List (Nat → Nat)) (claims n : Nat) : List It := (l.take n).map (itOf claims)
theorem chs_succ (claims : Nat) (x : Nat → Nat) (k : Nat) (hc : claims ≠ 0) : chs claims x (k + 1) = if x (2 + k) % 4 = 0 then chs claims x k else chs claims x k ++ [chOf claims (x (2 + k))] := by
  unfold chs
  rw [if_neg hc, if_neg hc, List.range_succ, List.filter_append, List.map_append]
  by_cases h : x (2 + k) % 4 = 0
  · simp [h]
  · simp [h]
theorem chs_len (claims : Nat) (x : Nat → Nat) (k : Nat) : (chs claims x k).length ≤ k := by
  unfold chs
  split
  · exact Nat.zero_le _
  · rw [List.length_map]
    have h := List.length_filter_le (fun j : Nat => decide (x (2 + j) % 4 ≠ 0)) (List.range k)
    rwa [List.length_range] at h
theorem itemsL_len (l : List (Nat → Nat)) (claims n : Nat) : (itemsL l claims n).length = min n l.length := by simp [itemsL]
theorem itemsL_succ (l : List (Nat → Nat)) (claims : Nat) {i : Nat} (h : i < l.length) : itemsL l claims (i + 1) = itemsL l claims i ++ [itOf claims (l.getD i fun _ => 0)] := by
  unfold itemsL; rw [take_succ' l i (fun _ => 0) h, List.map_append]; rfl
theorem encCh_len : ∀ c, (encCh c).length = 6 := fun _ => rfl
theorem encIt_len : ∀ c, (encIt c).length = 7 := fun _ => rfl
theorem encCh_one (xs : List Ch) : ∀ u ∈ xs.flatMap encCh, u.oneCell' = true := by
  intro u hu
  obtain ⟨x, _, hx⟩ := List.mem_flatMap.1 hu
  simp only [encCh, List.mem_cons, List.not_mem_nil, or_false] at hx
  rcases hx with rfl | rfl | rfl | rfl | rfl | rfl <;> rfl
theorem encIt_one (x : It) (a : Option Addr) (n c : Nat) : ∀ u ∈ [(x, Value.slice a n c)].flatMap encIt, u.oneCell' = true := by
  intro u hu
  obtain ⟨y, hy, hx⟩ := List.mem_flatMap.1 hu
  rw [List.mem_singleton.1 hy] at hx
  simp only [encIt, List.mem_cons, List.not_mem_nil, or_false] at hx
  rcases hx with rfl | rfl | rfl | rfl | rfl | rfl | rfl <;> rfl
theorem built_It (p c : RR) : Tryz.prog.built 32 [(0, aggR p), (1, aggR c)] = some #[.bool p.neg, .string p.num, .string p.den, .bool c.neg, .string c.num, .string c.den, .slice none 0 0] := by kernel_rfl
theorem built_Ch (a b : Int) : Tryz.prog.built 38 [(0, .int .i64 a), (1, .int .i64 b)] = some #[.int .i64 a, .int .i64 b, .bool false, .bool false, .string ⟨#[]⟩, .string ⟨#[]⟩] := by kernel_rfl
/-- The items' charges can be read, whatever else comes. -/
def RdC (w0 : World) (LC : List Blk) (cvs : List Value) (X : List It) : Prop := ∀ w' H, St w0 w' (H ++ LC) → ∀ j, j < X.length → Sl encCh 6 w' (cvs.getD j undef) (X.getD j zIt).charges
theorem RdC.add {w0 : World} {LC LCh : List Blk} {cvs : List Value} {X : List It} {x : It} {s : Value} {T : TypeId} (h : RdC w0 LC cvs X) (hl : cvs.length = X.length) (hG : Gl encCh T 6 s x.charges LCh) : RdC w0 (LC ++ LCh) (cvs ++ [s]) (X ++ [x]) := by
  intro w' H hS j hj
  rw [List.length_append] at hj
  by_cases e : j < X.length
  · have h1 : (cvs ++ [s]).getD j undef = cvs.getD j undef := by rw [List.getD_eq_getElem?_getD, List.getElem?_append_left (by omega), List.getD_eq_getElem?_getD]
    have h2 : (X ++ [x]).getD j zIt = X.getD j zIt := by rw [List.getD_eq_getElem?_getD, List.getElem?_append_left e, List.getD_eq_getElem?_getD]
    rw [h1, h2]
    refine h w' H (hS.drop ?_) j e
    rw [← List.append_assoc]
    exact List.sublist_append_left _ _
  · obtain rfl : j = X.length := by simp only [List.length_cons, List.length_nil] at hj; omega
    have h1 : (cvs ++ [s]).getD X.length undef = s := by rw [List.getD_eq_getElem?_getD, List.getElem?_append_right (by omega), hl, Nat.sub_self]; rfl
    have h2 : (X ++ [x]).getD X.length zIt = x := by rw [List.getD_eq_getElem?_getD, List.getElem?_append_right (Nat.le_refl _), Nat.sub_self]; rfl
    rw [h1, h2]
    exact hG.sl (H := H ++ LC) (by rw [List.append_assoc]; exact hS) encCh_len

set_option maxHeartbeats 2000000 in
theorem Items_ok (v : Value) (l : List (Nat → Nat)) (claims : Nat) (w : World) (hv : Sl enc6 6 w v l) (hl : ∀ x ∈ l, ∀ i, i < 6 → x i < 65536) (hcl : claims ≤ 24) :
    Ret Tryz.prog 8 #[v, .int .i64 claims] w fun r w' => (∃ cvs, Its w' r (itemsL l claims 4) cvs) ∧ Below w.heap.size w w' := by
  have hmax := hv.maxLen
  have hS := St.init w
  refine enter Tryz.func8 rfl Tryz.ntmps8 rfl ?_
  repeat (with_reducible first | refine c_seq ?_ | refine c_block ?_ | refine c_skip ?_ | refine x_then ?_ | refine x_block ?_)
  refine c_reg ?_
  refine l_pure rfl (s_asg  rfl ?_)
  refine l_nil ?_
  repeat (with_reducible first | refine c_seq ?_ | refine c_block ?_ | refine c_skip ?_ | refine x_then ?_ | refine x_block ?_)
  refine c_reg ?_
  refine l_pure rfl (s_asg  rfl ?_)
  refine l_nil ?_
  repeat (with_reducible first | refine c_seq ?_ | refine c_block ?_ | refine c_skip ?_ | refine x_then ?_ | refine x_block ?_)
  refine c_reg ?_
  refine l_pure rfl (s_asg  rfl ?_)
  refine l_nil ?_
  repeat (with_reducible first | refine c_seq ?_ | refine c_block ?_ | refine c_skip ?_ | refine x_then ?_ | refine x_block ?_)
  refine c_loop (σ := Nat) (fun i ρ w' => i ≤ l.length ∧ i ≤ 4 ∧ ρ 0 = v ∧ ρ 1 = .int .i64 claims ∧ ρ 6 = .int .i64 i ∧ ∃ sO LO LC cvs, ρ 5 = sO ∧ cvs.length = i ∧ Gl encIt 32 7 sO ((itemsL l claims i).zip cvs) LO ∧ RdC w LC cvs (itemsL l claims i) ∧ St w w' (LO ++ LC)) (fun i => l.length - i) 0
    ⟨Nat.zero_le _, Nat.zero_le _, rfl, rfl, rfl, ⟨_, [], [], [], rfl, rfl, Gl.nil _ _ _, fun w' H h j hj => absurd hj (Nat.not_lt_zero _), hS⟩⟩ ?_
  clear hS
  rintro i ρ w2 ⟨hi, hi4, h0, h1, h6, sO, LO, LC, cvs, h5, hcv, hO, hRd, hS⟩
  have hxl := itemsL_len l claims i
  repeat (with_reducible first | refine c_seq ?_ | refine c_block ?_ | refine c_skip ?_ | refine x_then ?_ | refine x_block ?_)
  by_cases hlt : i < l.length
  · by_cases hlt4 : i < 4
    · repeat (with_reducible first | refine c_seq ?_ | refine c_block ?_ | refine c_skip ?_ | refine x_then ?_ | refine x_block ?_)
      refine c_reg ?_
      refine l_pure rfl (s_move  h6 ?_)
      refine l_pure rfl (s_move  h0 ?_)
      refine l_pure rfl (s_lenr  rfl (hv.below hS.below) ⟨_, Tryz.underlying22⟩ ?_)
      refine l_pure rfl (s_lss  rfl rfl ?_)
      refine l_pure rfl (s_move  rfl ?_)
      refine l_pure (gd_yes 16 (by kernel_rfl) rfl (decide_eq_true (by omega))) (s_move  h6 ?_)
      refine l_pure (gd_yes 16 (by kernel_rfl) rfl (decide_eq_true (by omega))) (s_lss  rfl rfl ?_)
      refine l_pure rfl (s_pick (vb rfl (decide_eq_true (by omega))) rfl ?_)
      refine l_nil ?_
      repeat (with_reducible first | refine c_seq ?_ | refine c_block ?_ | refine c_skip ?_ | refine x_then ?_ | refine x_block ?_)
      refine c_yes rfl (decide_eq_true (by omega)) ?_
      repeat (with_reducible first | refine c_seq ?_ | refine c_block ?_ | refine c_skip ?_ | refine x_then ?_ | refine x_block ?_)
      obtain ⟨x, hx⟩ : ∃ x, x = l.getD i fun _ => 0 := ⟨_, rfl⟩
      have hxb := hl x (by rw [hx]; exact getD_mem l i _ hlt)
      repeat (with_reducible first | refine c_seq ?_ | refine c_block ?_ | refine c_skip ?_ | refine x_then ?_ | refine x_block ?_)
      refine c_reg ?_
      refine l_pure rfl (s_move  h0 ?_)
      refine l_pure rfl (s_move  h6 ?_)
      refine l_pure rfl (s_ixr (i := i)  rfl rfl (hv.below hS.below) (by omega) (by first | omega | (simp; done) | (simp; omega)) si_22 ?_)
      refine l_read rfl (s_lde (i := i) (fun _ => 0)  rfl vi_56 (hv.below hS.below) (by first | omega | (simp; done) | (simp; omega)) rfl rfl (.inl rfl) ?_)
      refine l_heavy rfl (s_alloc  vi_56 hS ?_)
      intro b7 wz1 hS hBz1
      refine l_heavy rfl (s_sta (k := 0)  rfl rfl vi_56 hS rfl rfl rfl (Nat.le_of_ble_eq_true rfl) rfl ?_)
      intro wz2 hS
      refine l_nil ?_
      repeat (with_reducible first | refine c_seq ?_ | refine c_block ?_ | refine c_skip ?_ | refine x_then ?_ | refine x_block ?_)
      rw [← hx] at hS
      replace hS : St w _ ([(b7, 56, Kr .u16 (tab 6 x))] ++ LO ++ LC) := hS
      have hx0 := hxb 0 (by decide)
      have hx1 := hxb 1 (by decide)
      refine c_cut1 (fun ρ w' => ρ 0 = v ∧ ρ 1 = .int .i64 claims ∧ ρ 6 = .int .i64 i ∧ ρ 5 = sO ∧ ρ 7 = .pointer (some ⟨b7, 0, none⟩) ∧ ∃ b8, ρ 8 = .pointer (some ⟨b8, 0, none⟩) ∧
        St w w' ([(b8, 32, encIt (itOf claims x, .slice none 0 0)), (b7, 56, Kr .u16 (tab 6 x))] ++ LO ++ LC)) ?_ ?_
      · repeat (with_reducible first | refine c_seq ?_ | refine c_block ?_ | refine c_skip ?_ | refine x_then ?_ | refine x_block ?_)
        refine c_float 9 [(0, .pure), (1, .read), (3, .pure), (4, .read), (5, .pure), (6, .pure), (2, .grow), (7, .grow), (8, .pure), (10, .free)] (by kernel_rfl) (by kernel_rfl) hS ?_
        intro wz3 hS hBz3
        refine wx_pure (by kernel_rfl) rfl rfl (s_ixg (n := 6) (i := 0) rfl rfl rfl (by decide) Tryz.underlying56 vi_55 ?_)
        refine wx_read (by kernel_rfl) rfl rfl (s_ldk (k := 0) (i := 0)  rfl vi_55 hS rfl rfl (by rw [tab_len]; decide) ?_)
        refine wx_pure (by kernel_rfl) rfl rfl (s_ixg (n := 6) (i := 1) rfl rfl rfl (by decide) Tryz.underlying56 vi_55 ?_)
        refine wx_read (by kernel_rfl) rfl rfl (s_ldk (k := 0) (i := 1)  rfl vi_55 hS rfl rfl (by rw [tab_len]; decide) ?_)
        refine wx_pure (by kernel_rfl) rfl rfl (s_rem  rfl rfl (by omega) (r := ((x 1 % 4 : Nat) : Int)) (by exact rem_nat (x 1) 4) ?_)
        refine wx_pure (by kernel_rfl) rfl rfl (s_conv  rfl Tryz.underlying3 ⟨_, Tryz.underlying55⟩ (r := ((x 1 % 4 : Nat) : Int)) (by exact wr_i64 _ ⟨rfl, by omega, by omega⟩) ?_)
        refine wx_fork rfl rfl ?_ ?_
        · refine w_grow rfl rfl (s_alloc  vi_32 hS ?_)
          intro b8 wz4 hS hBz4
          refine ⟨hBz4, ?_⟩
          refine w_grow rfl rfl (s_call Tryz.call22 rfl (Amount_ok (x 0) _ hx0) ?_)
          rintro r w3 ⟨rfl, hB3⟩
          refine ⟨hB3, ?_⟩
          replace hS := hS.grow hB3
          refine w_grow rfl rfl (s_call Tryz.call23 rfl (Whole_ok ((x 1 % 4 : Nat) : Int) _ (by omega) (by omega)) ?_)
          rintro r w4 ⟨rfl, hB4⟩
          refine ⟨hB4, ?_⟩
          replace hS := hS.grow hB4
          refine w_pure rfl rfl (s_build  rfl (built_It _ _) ?_)
          refine w_free rfl rfl (s_sta (k := 0)  rfl rfl vi_32 hS rfl rfl rfl (Nat.le_of_ble_eq_true rfl) rfl ?_)
          intro wz5 hS
          refine w_end ?_
          repeat (with_reducible first | refine c_seq ?_ | refine c_block ?_ | refine c_skip ?_ | refine x_then ?_ | refine x_block ?_)
          replace hS : St w _ ([(b8, 32, encIt (itOf claims x, .slice none 0 0)), (b7, 56, Kr .u16 (tab 6 x))] ++ LO ++ LC) := hS
          exact ⟨_, rfl, h0, h1, h6, h5, rfl, b8, rfl, hS⟩
        · refine s_call Tryz.call22 rfl (Amount_ok (x 0) _ hx0) ?_
          rintro r w3 ⟨rfl, hB3⟩
          refine ⟨hB3, ?_⟩
          replace hS := hS.grow hB3
          refine wx_fork rfl rfl ?_ ?_
          · refine w_grow rfl rfl (s_alloc  vi_32 hS ?_)
            intro b8 wz6 hS hBz6
            refine ⟨hBz6, ?_⟩
            refine w_grow rfl rfl (s_call Tryz.call23 rfl (Whole_ok ((x 1 % 4 : Nat) : Int) _ (by omega) (by omega)) ?_)
            rintro r w4 ⟨rfl, hB4⟩
            refine ⟨hB4, ?_⟩
            replace hS := hS.grow hB4
            refine w_pure rfl rfl (s_build  rfl (built_It _ _) ?_)
            refine w_free rfl rfl (s_sta (k := 0)  rfl rfl vi_32 hS rfl rfl rfl (Nat.le_of_ble_eq_true rfl) rfl ?_)
            intro wz7 hS
            refine w_end ?_
            repeat (with_reducible first | refine c_seq ?_ | refine c_block ?_ | refine c_skip ?_ | refine x_then ?_ | refine x_block ?_)
            replace hS : St w _ ([(b8, 32, encIt (itOf claims x, .slice none 0 0)), (b7, 56, Kr .u16 (tab 6 x))] ++ LO ++ LC) := hS
            exact ⟨_, rfl, h0, h1, h6, h5, rfl, b8, rfl, hS⟩
          · refine s_call Tryz.call23 rfl (Whole_ok ((x 1 % 4 : Nat) : Int) _ (by omega) (by omega)) ?_
            rintro r w4 ⟨rfl, hB4⟩
            refine ⟨hB4, ?_⟩
            replace hS := hS.grow hB4
            refine wx_pure (by kernel_rfl) rfl rfl (s_build  rfl (built_It _ _) ?_)
            refine wx_now (by kernel_rfl) ?_
            refine w_grow rfl rfl (s_alloc  vi_32 hS ?_)
            intro b8 wz8 hS hBz8
            refine ⟨hBz8, ?_⟩
            refine w_free rfl rfl (s_sta (k := 0)  rfl rfl vi_32 hS rfl rfl rfl (Nat.le_of_ble_eq_true rfl) rfl ?_)
            intro wz9 hS
            refine w_end ?_
            repeat (with_reducible first | refine c_seq ?_ | refine c_block ?_ | refine c_skip ?_ | refine x_then ?_ | refine x_block ?_)
            replace hS : St w _ ([(b8, 32, encIt (itOf claims x, .slice none 0 0)), (b7, 56, Kr .u16 (tab 6 x))] ++ LO ++ LC) := hS
            exact ⟨_, rfl, h0, h1, h6, h5, rfl, b8, rfl, hS⟩
      clear hS h0 h1 h6 h5
      rintro ρ w3 ⟨h0, h1, h6, h5, h7, b8, h8, hS⟩
      repeat (with_reducible first | refine c_seq ?_ | refine c_block ?_ | refine c_skip ?_ | refine x_then ?_ | refine x_block ?_)
      refine c_reg ?_
      refine l_pure rfl (s_asg  rfl ?_)
      refine l_nil ?_
      repeat (with_reducible first | refine c_seq ?_ | refine c_skip ?_ | refine x_then ?_ | refine x_block ?_)
      refine c_cut1 (fun ρ w' => ρ 0 = v ∧ ρ 1 = .int .i64 claims ∧ ρ 6 = .int .i64 i ∧ ρ 5 = sO ∧ ρ 8 = .pointer (some ⟨b8, 0, none⟩) ∧ ∃ sC LH, Gl encCh 38 6 sC (chs claims x 4) LH ∧
        St w w' ([(b8, 32, encIt (itOf claims x, sC)), (b7, 56, Kr .u16 (tab 6 x))] ++ LO ++ LC ++ LH)) ?_ ?_
      · repeat (with_reducible first | refine c_seq ?_ | refine c_block ?_ | refine c_skip ?_ | refine x_then ?_ | refine x_block ?_)
        refine c_loop (σ := Nat) (fun k ρ w' => k ≤ 4 ∧ ρ 0 = v ∧ ρ 1 = .int .i64 claims ∧ ρ 6 = .int .i64 i ∧ ρ 5 = sO ∧ ρ 7 = .pointer (some ⟨b7, 0, none⟩) ∧ ρ 8 = .pointer (some ⟨b8, 0, none⟩) ∧ ρ 9 = .int .i64 k ∧ ∃ sC LH, Gl encCh 38 6 sC (chs claims x k) LH ∧
            St w w' ([(b8, 32, encIt (itOf claims x, sC)), (b7, 56, Kr .u16 (tab 6 x))] ++ LO ++ LC ++ LH)) (fun k => 4 - k) 0
          ⟨Nat.zero_le _, h0, h1, h6, h5, h7, h8, rfl, ⟨_, [], by rw [show chs claims x 0 = [] from List.eq_nil_of_length_eq_zero (Nat.le_zero.1 (chs_len claims x 0))]; exact Gl.nil _ _ _, by rw [List.append_nil]; exact hS⟩⟩ ?_
        clear hS h0 h1 h6 h5 h7 h8
        rintro k ρ w4 ⟨hk, h0, h1, h6, h5, h7, h8, h9, sC, LH, hC, hS⟩
        have hchl := chs_len claims x k
        obtain ⟨aC, cC, hsC⟩ := hC.len
        subst hsC
        repeat (with_reducible first | refine c_seq ?_ | refine c_block ?_ | refine c_skip ?_ | refine x_then ?_ | refine x_block ?_)
        by_cases hk4 : k < 4
        · by_cases hc0 : 0 < claims
          · repeat (with_reducible first | refine c_seq ?_ | refine c_block ?_ | refine c_skip ?_ | refine x_then ?_ | refine x_block ?_)
            refine c_reg ?_
            refine l_pure rfl (s_move  h9 ?_)
            refine l_pure rfl (s_lss  rfl rfl ?_)
            refine l_pure rfl (s_move  rfl ?_)
            refine l_pure (gd_yes 37 (by kernel_rfl) rfl (decide_eq_true (by omega))) (s_move  h1 ?_)
            refine l_pure (gd_yes 37 (by kernel_rfl) rfl (decide_eq_true (by omega))) (s_gtr  rfl rfl ?_)
            refine l_pure rfl (s_pick (vb rfl (decide_eq_true (by omega))) rfl ?_)
            refine l_nil ?_
            repeat (with_reducible first | refine c_seq ?_ | refine c_block ?_ | refine c_skip ?_ | refine x_then ?_ | refine x_block ?_)
            refine c_yes rfl (decide_eq_true (by omega)) ?_
            repeat (with_reducible first | refine c_seq ?_ | refine c_block ?_ | refine c_skip ?_ | refine x_then ?_ | refine x_block ?_)
            have hcs := chs_succ claims x k (by omega)
            obtain ⟨y, hy⟩ : ∃ y, y = x (2 + k) := ⟨_, rfl⟩
            have hyb := hxb (2 + k) (by omega)
            have hyg : (tab 6 x).getD (2 + k) 0 = y := by rw [tab_get _ _ (by omega), hy]
            rw [← hy] at hyb hcs
            repeat (with_reducible first | refine c_seq ?_ | refine c_block ?_ | refine c_skip ?_ | refine x_then ?_ | refine x_block ?_)
            refine c_reg ?_
            refine l_pure rfl (s_move  h9 ?_)
            refine l_pure rfl (s_add  rfl rfl (r := ((2 + k : Nat) : Int)) (by exact wr_i64 _ ⟨by omega, by omega, by omega⟩) ?_)
            refine l_pure rfl (s_ixg (n := 6) (i := 2 + k) h7 rfl rfl (by omega) Tryz.underlying56 vi_55 ?_)
            refine l_read rfl (s_ldk (k := 1) (i := 2 + k)  rfl vi_55 hS rfl (by omega) (by rw [tab_len]; omega) ?_)
            refine l_pure rfl (s_conv  rfl Tryz.underlying3 ⟨_, Tryz.underlying55⟩ (r := ((y : Nat) : Int)) (by rw [hyg]; exact wr_i64 _ ⟨rfl, by omega, by omega⟩) ?_)
            refine l_pure rfl (s_asg  rfl ?_)
            refine l_nil ?_
            repeat (with_reducible first | refine c_seq ?_ | refine c_block ?_ | refine c_skip ?_ | refine x_then ?_ | refine x_block ?_)
            refine c_reg ?_
            refine l_pure rfl (s_move  rfl ?_)
            refine l_pure rfl (s_rem  rfl rfl (by omega) (rem_nat y 4) ?_)
            refine l_pure rfl (s_eql  rfl rfl ?_)
            refine l_nil ?_
            repeat (with_reducible first | refine c_seq ?_ | refine c_block ?_ | refine c_skip ?_ | refine x_then ?_ | refine x_block ?_)
            by_cases hy4 : y % 4 = 0
            · refine c_yes rfl (decide_eq_true (by omega)) ?_
              repeat (with_reducible first | refine c_seq ?_ | refine c_block ?_ | refine c_skip ?_ | refine x_then ?_ | refine x_block ?_)
              rw [if_pos hy4] at hcs
              rw [← hcs] at hC hS
              refine c_exit ?_
              repeat (with_reducible first | refine x_then_exit ?_ | refine x_block_exit ?_ | refine x_block_pass rfl ?_)
              repeat (with_reducible first | refine c_seq ?_ | refine c_block ?_ | refine c_skip ?_ | refine x_then ?_ | refine x_block ?_)
              refine c_reg ?_
              refine l_pure rfl (s_move  h9 ?_)
              refine l_pure rfl (s_add  rfl rfl (IntWalk.i64_in _ (by omega)) ?_)
              refine l_pure rfl (s_asg  rfl ?_)
              refine l_nil ?_
              repeat (with_reducible first | refine c_seq ?_ | refine c_block ?_ | refine c_skip ?_ | refine x_then ?_ | refine x_block ?_)
              exact ⟨k + 1, _, rfl, ⟨hk4, h0, h1, h6, h5, h7, h8, vi rfl (by omega), ⟨_, LH, hC, hS⟩⟩, by omega⟩
            · refine c_no rfl (decide_eq_false (by omega)) ?_
              repeat (with_reducible first | refine c_seq ?_ | refine c_block ?_ | refine c_skip ?_ | refine x_then ?_ | refine x_block ?_)
              rw [if_neg hy4] at hcs
              repeat (with_reducible first | refine c_seq ?_ | refine c_block ?_ | refine c_skip ?_ | refine x_then ?_ | refine x_block ?_)
              refine c_reg ?_
              refine l_pure rfl (s_move  rfl ?_)
              refine l_pure rfl (s_quo  rfl rfl (by omega) (quo_i64 y 4 (by omega)) ?_)
              refine l_pure rfl (s_move  h1 ?_)
              refine l_pure rfl (s_rem  rfl rfl (by omega) (rem_nat (y / 4) claims) ?_)
              refine l_pure rfl (s_move  rfl ?_)
              refine l_pure rfl (s_quo  rfl rfl (by omega) (quo_i64 y 32 (by omega)) ?_)
              refine l_pure rfl (s_rem  rfl rfl (by omega) (rem_nat (y / 32) 3) ?_)
              refine l_pure rfl (s_build  rfl (built_Ch _ _) ?_)
              refine l_heavy rfl (s_alloc  vi_38 hS ?_)
              intro b11 wz10 hS hBz10
              refine l_heavy rfl (s_sta (k := 0)  rfl rfl vi_38 hS rfl rfl rfl (Nat.le_of_ble_eq_true rfl) rfl ?_)
              intro wz11 hS
              refine l_nil ?_
              repeat (with_reducible first | refine c_seq ?_ | refine c_block ?_ | refine c_skip ?_ | refine x_then ?_ | refine x_block ?_)
              replace hS : St w _ ([(b11, 38, encCh ⟨((y / 4 % claims : Nat) : Int), ((y / 32 % 3 : Nat) : Int), false, zRR⟩), (b8, 32, encIt (itOf claims x, .slice aC (chs claims x k).length cC)), (b7, 56, Kr .u16 (tab 6 x))] ++ LO ++ LC ++ LH) := hS
              repeat (with_reducible first | refine c_seq ?_ | refine c_block ?_ | refine c_skip ?_ | refine x_then ?_ | refine x_block ?_)
              refine c_reg ?_
              refine l_pure rfl (s_move  rfl ?_)
              refine l_pure rfl (s_rem  rfl rfl (by omega) (rem_nat y 4) ?_)
              refine l_pure rfl (s_eql  rfl rfl ?_)
              refine l_nil ?_
              repeat (with_reducible first | refine c_seq ?_ | refine c_skip ?_ | refine x_then ?_ | refine x_block ?_)
              refine c_cut1 (fun ρ w' => ρ 0 = v ∧ ρ 1 = .int .i64 claims ∧ ρ 6 = .int .i64 i ∧ ρ 5 = sO ∧ ρ 7 = .pointer (some ⟨b7, 0, none⟩) ∧ ρ 8 = .pointer (some ⟨b8, 0, none⟩) ∧ ρ 9 = .int .i64 k ∧ ρ 11 = .pointer (some ⟨b11, 0, none⟩) ∧
                St w w' ([(b11, 38, encCh (chOf claims y)), (b8, 32, encIt (itOf claims x, .slice aC (chs claims x k).length cC)), (b7, 56, Kr .u16 (tab 6 x))] ++ LO ++ LC ++ LH)) ?_ ?_
              · repeat (with_reducible first | refine c_seq ?_ | refine c_block ?_ | refine c_skip ?_ | refine x_then ?_ | refine x_block ?_)
                by_cases hy1 : y % 4 = 1
                · refine c_yes rfl (decide_eq_true (by omega)) ?_
                  repeat (with_reducible first | refine c_seq ?_ | refine c_block ?_ | refine c_skip ?_ | refine x_then ?_ | refine x_block ?_)
                  have e : chOf claims y = ⟨((y / 4 % claims : Nat) : Int), ((y / 32 % 3 : Nat) : Int), true, ofQ (((y / 96 % 12 : Nat) : Int) : Rat)⟩ := by unfold chOf; rw [if_pos hy1, decide_eq_true hy1]
                  rw [e]
                  repeat (with_reducible first | refine c_seq ?_ | refine c_block ?_ | refine c_skip ?_ | refine x_then ?_ | refine x_block ?_)
                  refine c_reg ?_
                  refine l_pure rfl (s_fld  rfl fo_38_2 ?_)
                  refine l_heavy rfl (s_stc (k := 0)  rfl rfl vi_4 hS rfl (Nat.le_of_ble_eq_true rfl) rfl ?_)
                  intro wz12 hS
                  refine l_nil ?_
                  repeat (with_reducible first | refine c_seq ?_ | refine c_block ?_ | refine c_skip ?_ | refine x_then ?_ | refine x_block ?_)
                  replace hS : St w _ ([(b11, 38, encCh ⟨((y / 4 % claims : Nat) : Int), ((y / 32 % 3 : Nat) : Int), true, zRR⟩), (b8, 32, encIt (itOf claims x, .slice aC (chs claims x k).length cC)), (b7, 56, Kr .u16 (tab 6 x))] ++ LO ++ LC ++ LH) := hS
                  repeat (with_reducible first | refine c_seq ?_ | refine c_block ?_ | refine c_skip ?_ | refine x_then ?_ | refine x_block ?_)
                  refine c_reg ?_
                  refine l_pure rfl (s_move  rfl ?_)
                  refine l_pure rfl (s_quo  rfl rfl (by omega) (quo_i64 y 96 (by omega)) ?_)
                  refine l_pure rfl (s_rem  rfl rfl (by omega) (rem_nat (y / 96) 12) ?_)
                  refine l_heavy rfl (s_call Tryz.call23 rfl (Whole_ok ((y / 96 % 12 : Nat) : Int) _ (by omega) (by omega)) ?_)
                  rintro r w5 ⟨rfl, hB5⟩
                  replace hS := hS.grow hB5
                  refine l_pure rfl (s_fld  rfl fo_38_3 ?_)
                  refine l_heavy rfl (s_sta (k := 0)  rfl rfl vi_29 hS rfl rfl rfl (Nat.le_of_ble_eq_true rfl) rfl ?_)
                  intro wz13 hS
                  refine l_nil ?_
                  repeat (with_reducible first | refine c_seq ?_ | refine c_block ?_ | refine c_skip ?_ | refine x_then ?_ | refine x_block ?_)
                  exact ⟨_, rfl, h0, h1, h6, h5, h7, h8, h9, rfl, hS⟩
                · refine c_no rfl (decide_eq_false (by omega)) ?_
                  repeat (with_reducible first | refine c_seq ?_ | refine c_block ?_ | refine c_skip ?_ | refine x_then ?_ | refine x_block ?_)
                  have e : chOf claims y = ⟨((y / 4 % claims : Nat) : Int), ((y / 32 % 3 : Nat) : Int), false, zRR⟩ := by unfold chOf; rw [if_neg hy1, decide_eq_false hy1]
                  rw [e]
                  exact ⟨_, rfl, h0, h1, h6, h5, h7, h8, h9, rfl, hS⟩
              clear hS h0 h1 h6 h5 h7 h8 h9
              rintro ρ w5 ⟨h0, h1, h6, h5, h7, h8, h9, h11, hS⟩
              repeat (with_reducible first | refine c_seq ?_ | refine c_block ?_ | refine c_skip ?_ | refine x_then ?_ | refine x_block ?_)
              refine c_reg ?_
              refine l_pure rfl (s_fld  h8 fo_32_2 ?_)
              refine l_read rfl (s_ldo (k := 1)  rfl vi_30 hS rfl rfl rfl (.inr rfl) ?_)
              refine l_read rfl (s_ldo (k := 0)  h11 vi_38 hS rfl rfl rfl (.inl rfl) ?_)
              refine l_heavy rfl (s_bsl (vs := [.agg (encCh (chOf claims y)).toArray])  rfl si_30 rfl (by decide) (by decide) (by decide) (by simp [Value.cells, encCh]) rfl hS ?_)
              intro bx wz14 hS hBz14
              refine l_heavy rfl (s_appl [chOf claims y]  rfl rfl si_30 (by decide) hC hS rfl rfl encCh_len (encCh_one [chOf claims y]) (by first | omega | (simp only [List.length_cons, List.length_nil]; omega)) (by first | omega | (simp only [List.length_cons, List.length_nil]; omega)) ?_)
              intro va15 La15 wa15 hC hS hga15
              refine l_pure rfl (s_fld  h8 fo_32_2 ?_)
              refine l_heavy rfl (s_stc (k := 1)  rfl rfl vi_30 hS rfl (Nat.le_of_ble_eq_true rfl) (by obtain ⟨a, c, h⟩ := hC.len; rw [h]; rfl) ?_)
              intro wz16 hS
              refine l_nil ?_
              repeat (with_reducible first | refine c_seq ?_ | refine c_block ?_ | refine c_skip ?_ | refine x_then ?_ | refine x_block ?_)
              rw [← hcs] at hC
              repeat (with_reducible first | refine c_seq ?_ | refine c_block ?_ | refine c_skip ?_ | refine x_then ?_ | refine x_block ?_)
              refine c_reg ?_
              refine l_pure rfl (s_move  h9 ?_)
              refine l_pure rfl (s_add  rfl rfl (IntWalk.i64_in _ (by omega)) ?_)
              refine l_pure rfl (s_asg  rfl ?_)
              refine l_nil ?_
              repeat (with_reducible first | refine c_seq ?_ | refine c_block ?_ | refine c_skip ?_ | refine x_then ?_ | refine x_block ?_)
              replace hS : St w _ ((b11, 38, encCh (chOf claims y)) :: ([(b8, 32, encIt (itOf claims x, va15)), (b7, 56, Kr .u16 (tab 6 x))] ++ LO ++ LC ++ La15)) := hS
              exact ⟨k + 1, _, rfl, ⟨hk4, h0, h1, h6, h5, h7, h8, vi rfl (by omega), ⟨_, _, hC, hS.drop (List.sublist_cons_self _ _)⟩⟩, by omega⟩
          · repeat (with_reducible first | refine c_seq ?_ | refine c_block ?_ | refine c_skip ?_ | refine x_then ?_ | refine x_block ?_)
            refine c_reg ?_
            refine l_pure rfl (s_move  h9 ?_)
            refine l_pure rfl (s_lss  rfl rfl ?_)
            refine l_pure rfl (s_move  rfl ?_)
            refine l_pure (gd_yes 37 (by kernel_rfl) rfl (decide_eq_true (by omega))) (s_move  h1 ?_)
            refine l_pure (gd_yes 37 (by kernel_rfl) rfl (decide_eq_true (by omega))) (s_gtr  rfl rfl ?_)
            refine l_pure rfl (s_pick (vb rfl (decide_eq_true (by omega))) rfl ?_)
            refine l_nil ?_
            repeat (with_reducible first | refine c_seq ?_ | refine c_block ?_ | refine c_skip ?_ | refine x_then ?_ | refine x_block ?_)
            refine c_no rfl (decide_eq_false (by omega)) ?_
            repeat (with_reducible first | refine c_seq ?_ | refine c_block ?_ | refine c_skip ?_ | refine x_then ?_ | refine x_block ?_)
            refine c_exit ?_
            repeat (with_reducible first | refine x_then_exit ?_ | refine x_block_exit ?_ | refine x_block_pass rfl ?_)
            repeat (with_reducible first | refine c_seq ?_ | refine c_block ?_ | refine c_skip ?_ | refine x_then ?_ | refine x_block ?_)
            have e : chs claims x k = chs claims x 4 := by unfold chs; rw [if_pos (by omega), if_pos (by omega)]
            rw [e] at hC hS
            exact ⟨_, rfl, h0, h1, h6, h5, h8, ⟨_, _, hC, hS⟩⟩
        · repeat (with_reducible first | refine c_seq ?_ | refine c_block ?_ | refine c_skip ?_ | refine x_then ?_ | refine x_block ?_)
          refine c_reg ?_
          refine l_pure rfl (s_move  h9 ?_)
          refine l_pure rfl (s_lss  rfl rfl ?_)
          refine l_pure rfl (s_move  rfl ?_)
          refine l_no (gno_yes 37 (by kernel_rfl) rfl (decide_eq_false (by omega))) ?_
          refine l_no (gno_yes 37 (by kernel_rfl) rfl (decide_eq_false (by omega))) ?_
          refine l_pure rfl (s_pick (vb rfl (decide_eq_false (by omega))) rfl ?_)
          refine l_nil ?_
          repeat (with_reducible first | refine c_seq ?_ | refine c_block ?_ | refine c_skip ?_ | refine x_then ?_ | refine x_block ?_)
          refine c_no rfl (rfl) ?_
          repeat (with_reducible first | refine c_seq ?_ | refine c_block ?_ | refine c_skip ?_ | refine x_then ?_ | refine x_block ?_)
          refine c_exit ?_
          repeat (with_reducible first | refine x_then_exit ?_ | refine x_block_exit ?_ | refine x_block_pass rfl ?_)
          repeat (with_reducible first | refine c_seq ?_ | refine c_block ?_ | refine c_skip ?_ | refine x_then ?_ | refine x_block ?_)
          obtain rfl : k = 4 := by omega
          exact ⟨_, rfl, h0, h1, h6, h5, h8, ⟨_, _, hC, hS⟩⟩
      clear hS h0 h1 h6 h5 h7 h8
      rintro ρ w4 ⟨h0, h1, h6, h5, h8, sC, LH, hC, hS⟩
      obtain ⟨aC, cC, hsC⟩ := hC.len
      subst hsC
      have e7 : (List.zip (itemsL l claims i) cvs).length = i := by rw [List.length_zip]; omega
      have hz : (itemsL l claims (i + 1)).zip (cvs ++ [.slice aC (chs claims x 4).length cC]) = (itemsL l claims i).zip cvs ++ [(itOf claims x, .slice aC (chs claims x 4).length cC)] := by
        rw [itemsL_succ l claims hlt, List.zip_append (by omega), ← hx]; rfl
      replace hS : St w _ ([(b8, 32, encIt (itOf claims x, .slice aC (chs claims x 4).length cC)), (b7, 56, Kr .u16 (tab 6 x))] ++ (LC ++ LH) ++ LO) := hS.perm (by
        rw [List.append_assoc, List.append_assoc, List.append_assoc]
        exact List.Perm.append_left _ List.perm_append_comm)
      repeat (with_reducible first | refine c_seq ?_ | refine c_block ?_ | refine c_skip ?_ | refine x_then ?_ | refine x_block ?_)
      refine c_reg ?_
      refine l_pure rfl (s_move  h5 ?_)
      refine l_read rfl (s_ldo (k := 0)  h8 vi_32 hS rfl rfl rfl (.inl rfl) ?_)
      refine l_heavy rfl (s_bsl (vs := [.agg (encIt (itOf claims x, .slice aC (chs claims x 4).length cC)).toArray])  rfl si_26 rfl (by decide) (by decide) (by decide) (by simp [Value.cells, encIt]) rfl hS ?_)
      intro bx wz17 hS hBz17
      refine l_heavy rfl (s_appl [(itOf claims x, .slice aC (chs claims x 4).length cC)]  rfl rfl si_26 (by decide) hO hS rfl rfl encIt_len (encIt_one (itOf claims x) aC (chs claims x 4).length cC) (by first | omega | (simp only [List.length_cons, List.length_nil]; omega)) (by first | omega | (simp only [List.length_cons, List.length_nil]; omega)) ?_)
      intro va18 La18 wa18 hO hS hga18
      refine l_pure rfl (s_asg  rfl ?_)
      refine l_nil ?_
      repeat (with_reducible first | refine c_seq ?_ | refine c_block ?_ | refine c_skip ?_ | refine x_then ?_ | refine x_block ?_)
      rw [← hz] at hO
      repeat (with_reducible first | refine c_seq ?_ | refine c_block ?_ | refine c_skip ?_ | refine x_then ?_ | refine x_block ?_)
      refine c_reg ?_
      refine l_pure rfl (s_move  h6 ?_)
      refine l_pure rfl (s_add  rfl rfl (IntWalk.i64_in _ (by omega)) ?_)
      refine l_pure rfl (s_asg  rfl ?_)
      refine l_nil ?_
      repeat (with_reducible first | refine c_seq ?_ | refine c_block ?_ | refine c_skip ?_ | refine x_then ?_ | refine x_block ?_)
      refine ⟨i + 1, _, rfl, ⟨hlt, hlt4, h0, h1, vi rfl (by omega), ⟨_, _, LC ++ LH, _, rfl, ?_, hO, ?_, (hS.drop (H' := (LC ++ LH) ++ _) (.cons _ (.cons _ (List.Sublist.refl _)))).perm List.perm_append_comm⟩⟩, by omega⟩
      · rw [List.length_append, hcv]; rfl
      · rw [itemsL_succ l claims hlt, ← hx]
        exact hRd.add (by omega) hC
    · repeat (with_reducible first | refine c_seq ?_ | refine c_block ?_ | refine c_skip ?_ | refine x_then ?_ | refine x_block ?_)
      refine c_reg ?_
      refine l_pure rfl (s_move  h6 ?_)
      refine l_pure rfl (s_move  h0 ?_)
      refine l_pure rfl (s_lenr  rfl (hv.below hS.below) ⟨_, Tryz.underlying22⟩ ?_)
      refine l_pure rfl (s_lss  rfl rfl ?_)
      refine l_pure rfl (s_move  rfl ?_)
      refine l_pure (gd_yes 16 (by kernel_rfl) rfl (decide_eq_true (by omega))) (s_move  h6 ?_)
      refine l_pure (gd_yes 16 (by kernel_rfl) rfl (decide_eq_true (by omega))) (s_lss  rfl rfl ?_)
      refine l_pure rfl (s_pick (vb rfl (decide_eq_true (by omega))) rfl ?_)
      refine l_nil ?_
      repeat (with_reducible first | refine c_seq ?_ | refine c_block ?_ | refine c_skip ?_ | refine x_then ?_ | refine x_block ?_)
      refine c_no rfl (decide_eq_false (by omega)) ?_
      repeat (with_reducible first | refine c_seq ?_ | refine c_block ?_ | refine c_skip ?_ | refine x_then ?_ | refine x_block ?_)
      refine c_exit ?_
      repeat (with_reducible first | refine x_then_exit ?_ | refine x_block_exit ?_ | refine x_block_pass rfl ?_)
      repeat (with_reducible first | refine c_seq ?_ | refine c_block ?_ | refine c_skip ?_ | refine x_then ?_ | refine x_block ?_)
      obtain rfl : i = 4 := by omega
      repeat (with_reducible first | refine c_seq ?_ | refine c_block ?_ | refine c_skip ?_ | refine x_then ?_ | refine x_block ?_)
      refine c_reg ?_
      refine l_pure rfl (s_move  h5 ?_)
      refine l_pure rfl (s_asg  rfl ?_)
      refine l_nil ?_
      repeat (with_reducible first | refine c_seq ?_ | refine c_block ?_ | refine c_skip ?_ | refine x_then ?_ | refine x_block ?_)
      refine c_ret ?_
      repeat (with_reducible first | refine x_then_ret ?_ | refine x_block_ret ?_)
      refine r_one rfl rfl ?_
      refine ⟨⟨cvs, ?_, hO.sl (H := LC) (hS.perm List.perm_append_comm) encIt_len, fun j hj => hRd _ _ hS j hj⟩, hS.below⟩
      omega
  · repeat (with_reducible first | refine c_seq ?_ | refine c_block ?_ | refine c_skip ?_ | refine x_then ?_ | refine x_block ?_)
    refine c_reg ?_
    refine l_pure rfl (s_move  h6 ?_)
    refine l_pure rfl (s_move  h0 ?_)
    refine l_pure rfl (s_lenr  rfl (hv.below hS.below) ⟨_, Tryz.underlying22⟩ ?_)
    refine l_pure rfl (s_lss  rfl rfl ?_)
    refine l_pure rfl (s_move  rfl ?_)
    refine l_no (gno_yes 16 (by kernel_rfl) rfl (decide_eq_false (by omega))) ?_
    refine l_no (gno_yes 16 (by kernel_rfl) rfl (decide_eq_false (by omega))) ?_
    refine l_pure rfl (s_pick (vb rfl (decide_eq_false (by omega))) rfl ?_)
    refine l_nil ?_
    repeat (with_reducible first | refine c_seq ?_ | refine c_block ?_ | refine c_skip ?_ | refine x_then ?_ | refine x_block ?_)
    refine c_no rfl (rfl) ?_
    repeat (with_reducible first | refine c_seq ?_ | refine c_block ?_ | refine c_skip ?_ | refine x_then ?_ | refine x_block ?_)
    refine c_exit ?_
    repeat (with_reducible first | refine x_then_exit ?_ | refine x_block_exit ?_ | refine x_block_pass rfl ?_)
    repeat (with_reducible first | refine c_seq ?_ | refine c_block ?_ | refine c_skip ?_ | refine x_then ?_ | refine x_block ?_)
    have e : itemsL l claims i = itemsL l claims 4 := by unfold itemsL; rw [List.take_of_length_le (by omega), List.take_of_length_le (by omega)]
    rw [e] at hO hRd hxl
    repeat (with_reducible first | refine c_seq ?_ | refine c_block ?_ | refine c_skip ?_ | refine x_then ?_ | refine x_block ?_)
    refine c_reg ?_
    refine l_pure rfl (s_move  h5 ?_)
    refine l_pure rfl (s_asg  rfl ?_)
    refine l_nil ?_
    repeat (with_reducible first | refine c_seq ?_ | refine c_block ?_ | refine c_skip ?_ | refine x_then ?_ | refine x_block ?_)
    refine c_ret ?_
    repeat (with_reducible first | refine x_then_ret ?_ | refine x_block_ret ?_)
    refine r_one rfl rfl ?_
    refine ⟨⟨cvs, ?_, hO.sl (H := LC) (hS.perm List.perm_append_comm) encIt_len, fun j hj => hRd _ _ hS j hj⟩, hS.below⟩
    omega
end Go.Proofs.YtdafaibhiobpaabGreatDoor
namespace Go.Proofs.YtdafaibhiobpaabGreatDoor
open Go Go.RowKit Go.Sx

def q50 : Rat := ((50 : Int) : Rat)
def q00 : Rat := ((0 : Int) : Rat)
def Q50 : RR := ofQ q50
def Q00 : RR := ofQ q00
theorem toQ_Q50 : toQ Q50 = q50 := toQ_ofQ q50
theorem Lr_Q50 : Lr Q50 = L q50 := Lr_ofQ q50
theorem int50 : ofQ ((50 : Int) : Rat) = Q50 := rfl
theorem int00 : ofQ ((0 : Int) : Rat) = Q00 := rfl
def c0_ : Ch := ⟨0, 0, false, zRR⟩
def c1_ : Ch := ⟨1, 0, false, zRR⟩
def X2 : List It := [⟨Q50, zRR, [c0_, c1_]⟩, ⟨Q50, zRR, [c0_]⟩]
def O2 : List RR := [Q50, Q50]
def k50 (i : Nat) : Rat := if i < 2 then q50 else 0
def secK (i c : Nat) : Bool := (decide (i = 0) && decide (c ≤ 1)) || (decide (i = 1) && decide (c = 0))
theorem prF_X2 : prF X2 = k50 := by
  have h1 : procQ ⟨Q50, zRR, [c0_, c1_]⟩ = q50 := by
    unfold procQ
    simp only [toQ_Q50, toQ_zRR]
    decide +kernel
  have h2 : procQ ⟨Q50, zRR, [c0_]⟩ = q50 := by
    unfold procQ
    simp only [toQ_Q50, toQ_zRR]
    decide +kernel
  have h3 : procQ zIt = 0 := by
    have e : zIt = ⟨zRR, zRR, []⟩ := rfl
    rw [e]
    unfold procQ
    simp only [toQ_zRR]
    decide +kernel
  funext i
  match i with
  | 0 => exact h1
  | 1 => exact h2
  | n + 2 => exact h3
theorem owF_O2 : owF O2 = k50 := by
  funext i
  match i with
  | 0 => exact toQ_Q50
  | 1 => exact toQ_Q50
  | n + 2 => exact toQ_zRR
theorem sec_X2 (i c : Nat) : secures (X2.getD i zIt) c = secK i c := by
  match i with
  | 0 =>
    show ([c0_, c1_].any fun k => decide (k.claim = (c : Int))) = secK 0 c
    match c with
    | 0 => rfl
    | 1 => rfl
    | c + 2 =>
      have h1 : ¬ c0_.claim = ((c + 2 : Nat) : Int) := by show ¬ (0 : Int) = _; omega
      have h2 : ¬ c1_.claim = ((c + 2 : Nat) : Int) := by show ¬ (1 : Int) = _; omega
      have h3 : secK 0 (c + 2) = false := by unfold secK; rw [decide_eq_false (show ¬ c + 2 ≤ 1 by omega), decide_eq_false (show ¬ c + 2 = 0 by omega), Bool.and_false, Bool.and_false]; rfl
      rw [h3, List.any_cons, List.any_cons, decide_eq_false h1, decide_eq_false h2]; rfl
  | 1 =>
    show ([c0_].any fun k => decide (k.claim = (c : Int))) = secK 1 c
    match c with
    | 0 => rfl
    | c + 1 =>
      have h1 : ¬ c0_.claim = ((c + 1 : Nat) : Int) := by show ¬ (0 : Int) = _; omega
      have h3 : secK 1 (c + 1) = false := by unfold secK; rw [decide_eq_false (show ¬ (1 : Nat) = 0 by omega), decide_eq_false (show ¬ c + 1 = 0 by omega), Bool.and_false]; rfl
      rw [h3, List.any_cons, decide_eq_false h1]; rfl
  | i + 2 =>
    show false = _
    simp [secK]
def capK (k cut : Nat) : Rat := sumIf 2 (fun i => cut.testBit i) k50 + sumIf 2 (fun c => decide (c < k) && ((List.range 2).any fun i => !cut.testBit i && secK i c)) k50
theorem capF_X2 (k : Nat) : capF X2 O2 (fun i => decide (i < k)) = capK k := by
  funext cut
  unfold capF outs capK
  rw [prF_X2, owF_O2]
  simp only [sec_X2]
  rfl
theorem preQ_X2 (k : Nat) (hk : k ≠ 0) : preQ X2 O2 k = mins (capK k) 4 := by
  unfold preQ capQ
  rw [if_neg hk, capF_X2]
  rfl
theorem check_X2 : checkE X2 O2 = 0 := by
  have h : ¬ q50 < 0 := by decide +kernel
  have hl1 : ¬ c0_.lim = true := by decide
  have hl2 : ¬ c1_.lim = true := by decide
  have e1 : chErr 2 c0_ = 0 := by
    unfold chErr
    rw [if_neg (by show ¬ ((0 : Int) < 0 ∨ (2 : Int) ≤ 0); omega), if_neg (fun g => hl1 g.1)]
  have e2 : chErr 2 c1_ = 0 := by
    unfold chErr
    rw [if_neg (by show ¬ ((1 : Int) < 0 ∨ (2 : Int) ≤ 1); omega), if_neg (fun g => hl2 g.1)]
  have i1 : itErr 2 ⟨Q50, zRR, [c0_, c1_]⟩ = 0 := by
    unfold itErr
    rw [if_neg (by show ¬ 8 < 2; omega), if_neg]
    · simp [firstE, e1, e2]
    · rw [toQ_Q50, toQ_zRR]
      rintro (g | g)
      · exact h g
      · exact absurd g (by decide +kernel)
  have i2 : itErr 2 ⟨Q50, zRR, [c0_]⟩ = 0 := by
    unfold itErr
    rw [if_neg (by show ¬ 8 < 1; omega), if_neg]
    · simp [firstE, e1]
    · rw [toQ_Q50, toQ_zRR]
      rintro (g | g)
      · exact h g
      · exact absurd g (by decide +kernel)
  unfold checkE
  rw [if_neg (by show ¬ (8 < 2 ∨ 24 < 2); omega), if_neg]
  · show firstE (itErr 2) X2 = 0
    simp [X2, firstE, i1, i2]
  · unfold negs O2
    simp [toQ_Q50, h]
theorem tot_X2 : totL X2 O2 = [Q50, Q50] := by
  unfold totL
  rw [if_pos check_X2]
  have h1 : preQ X2 O2 1 - preQ X2 O2 0 = q50 := by
    rw [preQ_X2 1 (by decide)]
    show mins (capK 1) 4 - 0 = q50
    decide +kernel
  have h2 : preQ X2 O2 2 - preQ X2 O2 1 = q50 := by
    rw [preQ_X2 1 (by decide), preQ_X2 2 (by decide)]
    decide +kernel
  show [ofQ (preQ X2 O2 1 - preQ X2 O2 0), ofQ (preQ X2 O2 2 - preQ X2 O2 1)] = _
  rw [h1, h2]; rfl
def gstZ (s : GS) (c i : Nat) : GS :=
  if secK i c = true then
    ⟨fun k => if k = c then s.out c + minQ (k50 c - s.out c) (s.p i) else s.out k, fun k => if k = i then s.p i - minQ (k50 c - s.out c) (s.p i) else s.p k⟩
  else s
theorem gst_X2 (s : GS) (c i : Nat) : gst X2 O2 s c i = gstZ s c i := by
  unfold gst gstZ pay
  rw [sec_X2, owF_O2]
def growZ (c : Nat) (s : GS) : Nat → GS
  | 0 => s
  | i + 1 => gstZ (growZ c s i) c i
theorem grow_X2 (c : Nat) (s : GS) (i : Nat) : grow X2 O2 c s i = growZ c s i := by
  induction i with
  | zero => rfl
  | succ i ih => show gst X2 O2 (grow X2 O2 c s i) c i = _; rw [ih, gst_X2]; rfl
def gallZ : Nat → GS
  | 0 => ⟨fun _ => 0, k50⟩
  | c + 1 => growZ c (gallZ c) 2
theorem gall_X2 (c : Nat) : gall X2 O2 c = gallZ c := by
  induction c with
  | zero => show GS.mk _ (prF X2) = _; rw [prF_X2]; rfl
  | succ c ih => show grow X2 O2 c (gall X2 O2 c) 2 = _; rw [ih, grow_X2]; rfl
theorem gre_X2 : gL X2 O2 = [Q50, Q00] := by
  unfold gL
  rw [if_pos check_X2]
  show [ofQ ((gall X2 O2 2).out 0), ofQ ((gall X2 O2 2).out 1)] = _
  rw [gall_X2]
  have h1 : (gallZ 2).out 0 = q50 := by decide +kernel
  have h2 : (gallZ 2).out 1 = q00 := by decide +kernel
  rw [h1, h2]; rfl
theorem its_B : ItB 1 X2 ∧ RB 1 O2 := by
  have h : L q50 ≤ 1 := L_small (n := 50) (by decide)
  have h2 := Lr_zRR
  constructor
  · intro x hx
    rcases List.mem_cons.1 hx with rfl | hx
    · refine ⟨by show Lr (Q50) ≤ 1; rw [Lr_Q50]; exact h, by show Lr zRR ≤ 1; omega, fun c hc => ?_⟩
      rcases List.mem_cons.1 hc with rfl | hc
      · show Lr zRR ≤ 1; omega
      · rw [List.mem_singleton.1 hc]; show Lr zRR ≤ 1; omega
    · rw [List.mem_singleton.1 hx]
      refine ⟨by show Lr (Q50) ≤ 1; rw [Lr_Q50]; exact h, by show Lr zRR ≤ 1; omega, fun c hc => ?_⟩
      rw [List.mem_singleton.1 hc]; show Lr zRR ≤ 1; omega
  · intro r hr
    have : r = Q50 := by
      rcases List.mem_cons.1 hr with g | g
      · exact g
      · exact List.mem_singleton.1 g
    rw [this, Lr_Q50]; exact h
end Go.Proofs.YtdafaibhiobpaabGreatDoor
namespace Go.Sx
open Go Go.RowKit
section
variable {P : Program} {ops : Array Oper}
def maskOr (M : List Nat) : List Edge → Nat
  | [] => 0
  | e :: l => bif Region.binds .any e then (2 ^ e.on ||| M.getD e.on 0) ||| maskOr M l else maskOr M l
def lowEdges (i : Nat) : List Edge → Bool
  | [] => true
  | e :: l => (!Region.binds .any e || Nat.blt e.on i) && lowEdges i l
def masksOk (M : List Nat) : List Oper → Nat → Bool
  | [], _ => true
  | o :: l, i => lowEdges i o.after.toList && Nat.beq (M.getD i 0) (maskOr M o.after.toList) && masksOk M l (i + 1)
theorem tdep_succ : ∀ n i h, tdep ops n i h = true → tdep ops (n + 1) i h = true
  | 0, i, h, ht => by cases ht
  | n + 1, i, h, ht => by
    unfold tdep at ht ⊢
    cases ho : ops[i]? with
    | none => rw [ho] at ht; cases ht
    | some o =>
      rw [ho] at ht
      simp only [Array.any_eq_true', Bool.and_eq_true, Bool.or_eq_true] at ht ⊢
      obtain ⟨e, he, hb, h1⟩ := ht
      exact ⟨e, he, hb, h1.imp id (tdep_succ n e.on h)⟩
theorem tdep_mono {n m i h : Nat} (hnm : n ≤ m) (ht : tdep ops n i h = true) : tdep ops m i h = true := by
  induction hnm with
  | refl => exact ht
  | step _ ih => exact tdep_succ _ _ _ ih
theorem maskOr_bit {M : List Nat} {h : Nat} : ∀ {l : List Edge}, (maskOr M l).testBit h = true → ∃ e ∈ l, Region.binds .any e = true ∧ (e.on = h ∨ (M.getD e.on 0).testBit h = true)
  | [], hb => by simp [maskOr] at hb
  | e :: l, hb => by
    unfold maskOr at hb
    cases hbi : Region.binds .any e with
    | false =>
      rw [hbi] at hb
      obtain ⟨e', he', h'⟩ := maskOr_bit hb
      exact ⟨e', List.mem_cons_of_mem _ he', h'⟩
    | true =>
      rw [hbi] at hb
      simp only [cond_true, Nat.testBit_or, Bool.or_eq_true] at hb
      rcases hb with (hb | hb) | hb
      · rw [Nat.testBit_two_pow] at hb
        exact ⟨e, List.mem_cons_self .., hbi, .inl (of_decide_eq_true hb)⟩
      · exact ⟨e, List.mem_cons_self .., hbi, .inr hb⟩
      · obtain ⟨e', he', h'⟩ := maskOr_bit hb
        exact ⟨e', List.mem_cons_of_mem _ he', h'⟩
theorem lowEdges_lt {i : Nat} : ∀ {l : List Edge}, lowEdges i l = true → ∀ e ∈ l, Region.binds .any e = true → e.on < i
  | [], _, e, he, _ => by cases he
  | x :: l, h, e, he, hb => by
    simp only [lowEdges, Bool.and_eq_true, Bool.or_eq_true] at h
    rcases List.mem_cons.1 he with rfl | he
    · rcases h.1 with q | q
      · rw [hb] at q; cases q
      · rwa [Nat.blt_eq] at q
    · exact lowEdges_lt h.2 e he hb
theorem masksOk_at {M : List Nat} : ∀ {l : List Oper} {k : Nat}, masksOk M l k = true → ∀ j o, l[j]? = some o → lowEdges (k + j) o.after.toList = true ∧ M.getD (k + j) 0 = maskOr M o.after.toList
  | [], k, _, j, o, ho => by simp at ho
  | x :: l, k, h, j, o, ho => by
    simp only [masksOk, Bool.and_eq_true] at h
    cases j with
    | zero =>
      simp only [List.getElem?_cons_zero, Option.some.injEq] at ho
      subst ho
      exact ⟨h.1.1, Nat.eq_of_beq_eq_true h.1.2⟩
    | succ j =>
      have := masksOk_at h.2 j o (by simpa using ho)
      rw [show k + (j + 1) = k + 1 + j by omega]
      exact this
theorem masks_sound {l : List Oper} {M : List Nat} (hM : masksOk M l 0 = true) (hML : M.length = l.length) : ∀ i h, (M.getD i 0).testBit h = true → tdep l.toArray (i + 1) i h = true := by
  intro i
  induction i using Nat.strongRecOn with
  | _ i ih =>
    intro h hb
    have hil : i < l.length := by
      rcases Nat.lt_or_ge i l.length with q | q
      · exact q
      · rw [List.getD_eq_getElem?_getD, List.getElem?_eq_none (by omega)] at hb
        simp at hb
    have ho : l[i]? = some l[i] := List.getElem?_eq_getElem hil
    have hat := masksOk_at hM i _ ho
    rw [Nat.zero_add] at hat
    rw [hat.2] at hb
    obtain ⟨e, he, hbi, h1⟩ := maskOr_bit hb
    have hlt := lowEdges_lt hat.1 e he hbi
    unfold tdep
    rw [List.getElem?_toArray, ho]
    simp only [Array.any_eq_true', Bool.and_eq_true, Bool.or_eq_true]
    refine ⟨e, by simpa using he, hbi, ?_⟩
    rcases h1 with q | q
    · exact .inl (by rw [q]; exact Nat.beq_refl h)
    · exact .inr (tdep_mono (by omega) (ih e.on hlt h q))
def pairsOkM (ops : Array Oper) (M : List Nat) : List (Nat × Md) → Bool
  | [] => true
  | i :: σ => (σ.all fun j => !Nat.beq i.1 j.1 && ((M.getD j.1 0).testBit i.1 || swapOk ops i j)) && pairsOkM ops M σ
theorem pairsOk_of_M {l : List Oper} {M : List Nat} (hM : masksOk M l 0 = true) (hML : M.length = l.length) : ∀ {σ : List (Nat × Md)}, (∀ x ∈ σ, x.1 < l.length) → pairsOkM l.toArray M σ = true → pairsOk l.toArray l.length σ = true
  | [], _, _ => rfl
  | i :: σ, hlt, h => by
    simp only [pairsOkM, Bool.and_eq_true, List.all_eq_true, Bool.or_eq_true] at h
    simp only [pairsOk, Bool.and_eq_true, List.all_eq_true, Bool.or_eq_true]
    refine ⟨fun j hj => ⟨(h.1 j hj).1, (h.1 j hj).2.imp (fun q => ?_) id⟩, pairsOk_of_M hM hML (fun x hx => hlt x (List.mem_cons_of_mem _ hx)) h.2⟩
    have := hlt j (List.mem_cons_of_mem _ hj)
    exact tdep_mono (by omega) (masks_sound hM hML _ _ q)
def drawOkM (l : List Oper) (M : List Nat) (σ : List (Nat × Md)) : Bool :=
  Nat.ble σ.length l.length && (List.range l.length).all (fun i => σ.any fun x => Nat.beq x.1 i) && σ.all (fun x => Nat.blt x.1 l.length) && (Nat.beq M.length l.length && masksOk M l 0 && pairsOkM l.toArray M σ) && topoOk l.toArray σ &&
  l.all fun o => match o.op with | .select .. => false | _ => true
theorem drawOk_of_M {l : List Oper} {M : List Nat} {σ : List (Nat × Md)} (h : drawOkM l M σ = true) : drawOk l.toArray σ = true := by
  simp only [drawOkM, Bool.and_eq_true] at h
  obtain ⟨⟨⟨⟨⟨h1, h2⟩, h3⟩, ⟨⟨h4, h5⟩, h6⟩⟩, h7⟩, h8⟩ := h
  have hs : l.toArray.size = l.length := by simp
  simp only [drawOk, Bool.and_eq_true, hs]
  refine ⟨⟨⟨⟨⟨h1, h2⟩, h3⟩, pairsOk_of_M h5 (Nat.eq_of_beq_eq_true h4) (fun x hx => ?_) h6⟩, h7⟩, ?_⟩
  · have := List.all_eq_true.1 h3 x hx
    rwa [Nat.blt_eq] at this
  · rw [← hs, Array.all_eq_true']
    intro x hx
    have hx := List.all_eq_true.1 h8 x (by simpa using hx)
    cases hop : x.op <;> first | rfl | (rw [hop] at hx; cases hx)
end
section
variable {P : Program} {N : Nat} {ρ : Nat → Value} {w0 w : World} {Q : Exit → Act → World → Prop} {H : List Blk}
theorem c_forget {C : Code} {ρ : Nat → Value} {w : World} (M : (Nat → Value) → Prop) (h0 : M ρ) (h : ∀ ρ, M ρ → C.wp P Q (act N ρ) w) : C.wp P Q (act N ρ) w := h ρ h0
theorem c_drawM {id : Nat} {l : List Oper} (M : List Nat) (σ : List (Nat × Md)) (hm : P.follows .mixedOrders = true) (hchk : drawOkM l M σ = true) (hS : St w0 w H)
    (h : ∀ w', St w0 w' H → Below w.heap.size w w' → Wr P l.toArray (Q .normal) σ N ρ w') : (Code.region id l.toArray true).wp P Q (act N ρ) w :=
  c_draw σ hm (drawOk_of_M hchk) hS h
end
end Go.Sx
namespace Go.Proofs.YtdafaibhiobpaabGreatDoor
open Go Go.RowKit Go.Sx

theorem built_It2 (p : RR) (a : Option Addr) (n c : Nat) : Tryz.prog.built 32 [(0, aggR p), (2, .slice a n c)] = some #[.bool p.neg, .string p.num, .string p.den, .bool false, .string ⟨#[]⟩, .string ⟨#[]⟩, .slice a n c] := by kernel_rfl
theorem built_Ch1 (a : Int) : Tryz.prog.built 38 [(0, .int .i64 a)] = some #[.int .i64 a, .int .i64 0, .bool false, .bool false, .string ⟨#[]⟩, .string ⟨#[]⟩] := by kernel_rfl
theorem its_X2 {w0 w : World} {H : List Blk} {T T2 : TypeId} {bi b0 b1 : Nat} (hS : St w0 w ((bi, T, (X2.zip [.slice (some ⟨b0, 0, none⟩) 2 2, .slice (some ⟨b1, 0, none⟩) 1 1]).flatMap encIt) :: (b1, T2, [c0_].flatMap encCh) :: (b0, T2, [c0_, c1_].flatMap encCh) :: H)) :
    Its w (.slice (some ⟨bi, 0, none⟩) 2 2) X2 [.slice (some ⟨b0, 0, none⟩) 2 2, .slice (some ⟨b1, 0, none⟩) 1 1] := by
  have h2 : Sl encCh 6 w (.slice (some ⟨b0, 0, none⟩) 2 2) [c0_, c1_] := hS.sle (k := 2) (L := [c0_, c1_]) (n := 2) (cap := 2) rfl encCh_len (Nat.le_refl _) (Nat.le_refl _) (by decide)
  have h1 : Sl encCh 6 w (.slice (some ⟨b1, 0, none⟩) 1 1) [c0_] := hS.sle (k := 1) (L := [c0_]) (n := 1) (cap := 1) rfl encCh_len (Nat.le_refl _) (Nat.le_refl _) (by decide)
  refine ⟨rfl, hS.sle (k := 0) (L := X2.zip [.slice (some ⟨b0, 0, none⟩) 2 2, .slice (some ⟨b1, 0, none⟩) 1 1]) (n := 2) (cap := 2) rfl encIt_len (Nat.le_refl _) (Nat.le_refl _) (by decide), fun i hi => ?_⟩
  match i, hi with
  | 0, _ => exact h2
  | 1, _ => exact h1
  | n + 2, h => exact absurd h (by show ¬ n + 2 < 2; omega)
theorem int50_ok (w : World) : Ret Tryz.prog 33 #[.int .i64 50] w fun v w' => v = aggR Q50 ∧ Below w.heap.size w w' := QInt_ok 50 w (by decide) (by decide)
theorem int00_ok (w : World) : Ret Tryz.prog 33 #[.int .i64 0] w fun v w' => v = aggR Q00 ∧ Below w.heap.size w w' := QInt_ok 0 w (by decide) (by decide)
end Go.Proofs.YtdafaibhiobpaabGreatDoor
namespace Go.Proofs.YtdafaibhiobpaabGreatDoor
open Go Go.RowKit Go.Sx

theorem toQ_nat {n : Nat} : ¬ toQ (ofQ ((n : Int) : Rat)) < 0 := by
  rw [toQ_ofQ]
  exact Rat.not_lt.2 (Rat.intCast_nonneg.2 (Int.natCast_nonneg _))
theorem toQ_amR {x : Nat} : ¬ toQ (amR x) < 0 := by
  unfold amR
  rw [toQ_ofQ]
  exact Rat.not_lt.2 (amtQ_nonneg x)
theorem chs_mem {m : Nat} {x : Nat → Nat} {k : Nat} {c : Ch} (h : c ∈ chs m x k) : m ≠ 0 ∧ ∃ y, c = chOf m y := by
  unfold chs at h
  split at h
  · cases h
  · next hm =>
    obtain ⟨j, _, rfl⟩ := List.mem_map.1 h
    exact ⟨hm, _, rfl⟩
theorem Lr_chOf (m y : Nat) : Lr (chOf m y).limit ≤ 1 := by
  unfold chOf
  simp only
  split
  · rw [Lr_ofQ]; exact L_small (by omega)
  · rw [Lr_zRR]; exact Nat.le_refl _
theorem chErr_of {m y : Nat} (hm : m ≠ 0) : chErr m (chOf m y) = 0 := by
  unfold chErr
  have h1 : ¬ ((chOf m y).claim < 0 ∨ (m : Int) ≤ (chOf m y).claim) := by
    show ¬ (((y / 4 % m : Nat) : Int) < 0 ∨ (m : Int) ≤ ((y / 4 % m : Nat) : Int))
    have := Nat.mod_lt (y / 4) (Nat.pos_of_ne_zero hm)
    omega
  have h2 : ¬ ((chOf m y).lim = true ∧ toQ (chOf m y).limit < 0) := by
    rintro ⟨h, g⟩
    have hy : y % 4 = 1 := of_decide_eq_true h
    unfold chOf at g
    simp only [if_pos hy] at g
    exact toQ_nat g
  rw [if_neg h1, if_neg h2]
theorem firstE_none {α : Type} {f : α → Int} {l : List α} (h : ∀ x ∈ l, f x = 0) : firstE f l = 0 := by
  induction l with
  | nil => rfl
  | cons x l ih =>
    rw [firstE, if_pos (h x (List.mem_cons_self ..))]
    exact ih fun y hy => h y (List.mem_cons_of_mem _ hy)
theorem items_B (l : List (Nat → Nat)) (m n : Nat) : ItB 1 (itemsL l m n) := by
  intro x hx
  obtain ⟨y, _, rfl⟩ := List.mem_map.1 hx
  refine ⟨?_, ?_, fun c hc => ?_⟩
  · show Lr (amR (y 0)) ≤ 1
    unfold amR
    rw [Lr_ofQ]; exact L_amtQ _
  · show Lr (ofQ (((y 1 % 4 : Nat) : Int) : Rat)) ≤ 1
    rw [Lr_ofQ]; exact L_small (by omega)
  · obtain ⟨_, z, rfl⟩ := chs_mem hc
    exact Lr_chOf m z
theorem items_check (l : List (Nat → Nat)) (a : List Nat) (n k : Nat) (hn : n ≤ 8) (hk : k ≤ 24) : checkE (itemsL l (amts a k).length n) (amts a k) = 0 := by
  have h1 := itemsL_len l (amts a k).length n
  have h2 := amts_len a k
  unfold checkE
  rw [if_neg (by omega), if_neg]
  · refine firstE_none fun x hx => ?_
    obtain ⟨y, _, rfl⟩ := List.mem_map.1 hx
    unfold itErr
    have h3 := chs_len (amts a k).length y 4
    rw [if_neg (by show ¬ 8 < (chs (amts a k).length y 4).length; omega), if_neg]
    · refine firstE_none fun c hc => ?_
      obtain ⟨hm, z, rfl⟩ := chs_mem (show c ∈ chs (amts a k).length y 4 from hc)
      exact chErr_of hm
    · rintro (g | g)
      · exact toQ_amR g
      · exact toQ_nat g
  · rw [negs, List.any_eq_true]
    rintro ⟨r, hr, h⟩
    obtain ⟨y, _, rfl⟩ := List.mem_map.1 hr
    exact toQ_amR (of_decide_eq_true h)

end Go.Proofs.YtdafaibhiobpaabGreatDoor
namespace Go.Sx
open Go Go.RowKit Go.ChangeShapes Go.WideShapes Go.Proofs.YtdafaibhiobpaabGreatDoor
section
variable {H : Type} {enc : TypeId × Value → H} {P : Program} {w : World}
theorem add_add (a : Addr) (m n : Nat) : (a.add m).add n = a.add (m + n) := by
  obtain ⟨b, o, s⟩ := a
  unfold Addr.add
  by_cases hn : n = 0
  · subst hn; simp
  · by_cases hm : m = 0
    · subst hm; simp [hn]
    · simp [hn, hm, Nat.add_assoc]
theorem at_one {a : Addr} {u : Value} (h : w.cell? a = some u) : At w a [u] := At.one h
/-- An argument of type []uint16, read as a list of numbers. -/
theorem open_u16s {t e : TypeId} {v : Value} {d : DataW H} {ps : List MemPlace} {b0 : Nat} (ht : P.underlying t = some (.slice e)) (he : P.underlying e = some (.int .u16)) (hc : P.cellsOf e = 1)
    (hval : Value.okWide P w .any b0 t v) (h : DataW.Trod enc P w 0 (fun _ => true) true t v d ps) : ∃ l : List Nat, Sl (uk .u16) 1 w v l ∧ ∀ x ∈ l, x < 65536 := by
  obtain ⟨a0, len0, cap0, rfl⟩ := okWide_slice ht hval
  obtain ⟨fuel, hf⟩ := h
  rcases open_ints ht he hc hf with ⟨h1, _⟩ | ⟨a, len, cap, zs, h1, _, hlc, hm, hz, _, hcell, hw⟩
  · simp only [Value.cells, List.cons.injEq, and_true] at h1
    rw [h1]
    exact ⟨[], Sl.nil _ _ _, fun x hx => by cases hx⟩
  · simp only [Value.cells, List.cons.injEq, and_true] at h1
    rw [h1]
    have hzl : zs.length = cap := by simpa using hz
    have hb : ∀ n ∈ zs, 0 ≤ n ∧ n ≤ 65535 := fun n hn => bounds_u16 (hw n hn)
    have hl : ((zs.take len).map Int.toNat).length = len := by rw [List.length_map, List.length_take]; omega
    refine ⟨(zs.take len).map Int.toNat, ⟨⟨some a, cap, by rw [hl], by rw [hl]; exact hlc, hm, fun q => by cases q⟩, fun i hi => ?_⟩, fun x hx => ?_⟩
    · rw [hl] at hi
      have hi2 : i < zs.length := by omega
      have h2 := hcell i hi2
      have h3 : zs.getD i 0 = zs[i] := by rw [List.getD_eq_getElem?_getD, List.getElem?_eq_getElem hi2]; rfl
      have h4 := hb _ (List.getElem_mem hi2)
      rw [Nat.mul_one]
      refine at_one ?_
      show w.cell? (a.add i) = _
      rw [h2, h3, List.getElem_map, List.getElem_take, Int.toNat_of_nonneg h4.1]
    · obtain ⟨z, hz2, rfl⟩ := List.mem_map.1 hx
      have := hb z (List.mem_of_mem_take hz2)
      omega
/-- An argument of type [][6]uint16, read as a list of rows. -/
theorem open_u16rows {t e q : TypeId} {v : Value} {d : DataW H} {ps : List MemPlace} {b0 : Nat} (ht : P.underlying t = some (.slice e)) (he : P.underlying e = some (.array 6 q)) (hq : P.underlying q = some (.int .u16)) (hce : P.cellsOf e = 6) (hcq : P.cellsOf q = 1)
    (hval : Value.okWide P w .any b0 t v) (h : DataW.Trod enc P w 0 (fun _ => true) true t v d ps) : ∃ l : List (Nat → Nat), Sl enc6 6 w v l ∧ ∀ x ∈ l, ∀ i, i < 6 → x i < 65536 := by
  obtain ⟨a0, len0, cap0, rfl⟩ := okWide_slice ht hval
  obtain ⟨fuel, hf⟩ := h
  rcases DataW.trod_slice ht hf with ⟨h1, _⟩ | ⟨a, len, cap, elems, rest, n, _, h1, _, _, hlc, hm, hlen, hel, _, _⟩
  · simp only [Value.cells, List.cons.injEq, and_true] at h1
    rw [h1]
    exact ⟨[], Sl.nil _ _ _, fun x hx => by cases hx⟩
  · simp only [Value.cells, List.cons.injEq, and_true] at h1
    rw [h1]
    have each : ∀ i, i < len → ∃ x : Nat → Nat, (∀ j, j < 6 → x j < 65536) ∧ ∀ j, j < 6 → w.cell? (a.add (i * 6 + j)) = some (.int .u16 (x j)) := by
      intro i hi
      have h2 := hel i hi
      rw [hce, List.getElem?_eq_getElem (by omega : i < elems.length), Option.bind_eq_some_iff] at h2
      obtain ⟨cs, hcs, htr⟩ := h2
      obtain ⟨_, hcl, hcell⟩ := World.cells?_some hcs
      obtain ⟨xs, m, _, _, _, hxl, hxs⟩ := DataW.trod_array he htr
      have hone : ∀ j, j < 6 → ∃ z : Nat, z < 65536 ∧ cs[j]? = some (.int .u16 (z : Int)) := by
        intro j hj
        have h3 := hxs j hj
        rw [hcq, Nat.mul_one, List.getElem?_eq_getElem (by omega)] at h3
        obtain ⟨z, e1, _, hw⟩ := DataW.trod_int hq h3
        have hb := bounds_u16 hw
        refine ⟨z.toNat, by omega, ?_⟩
        have h0 : ((cs.drop j).take 1)[0]? = some (.int .u16 z) := by rw [e1]; rfl
        rw [Int.toNat_of_nonneg hb.1]
        simpa using h0
      refine ⟨fun j => if hj : j < 6 then Classical.choose (hone j hj) else 0, fun j hj => ?_, fun j hj => ?_⟩
      · simp only [hj, dite_true]
        exact (Classical.choose_spec (hone j hj)).1
      · simp only [hj, dite_true]
        rw [← (Classical.choose_spec (hone j hj)).2, ← hcell j hj, add_add]
    refine ⟨(List.range len).map fun i => if hi : i < len then Classical.choose (each i hi) else fun _ => 0, ⟨⟨some a, cap, by simp, by simp; exact hlc, hm, fun q => by cases q⟩, fun i hi => ?_⟩, fun x hx i hi => ?_⟩
    · have hil : i < len := by simpa using hi
      intro j u hu
      rw [List.getElem_map, List.getElem_range] at hu
      simp only [hil, dite_true] at hu
      have hj : j < 6 := by
        rcases Nat.lt_or_ge j 6 with q | q
        · exact q
        · rw [List.getElem?_eq_none (by rw [enc6_len]; exact q)] at hu; cases hu
      unfold enc6 at hu
      rw [Kr_get _ _ (by rw [tab_len]; exact hj), tab_get _ _ hj] at hu
      rw [← Option.some.inj hu]
      show w.cell? ((a.add (i * 6)).add j) = _
      rw [add_add]
      exact (Classical.choose_spec (each i hil)).2 j hj
    · obtain ⟨k, hk, rfl⟩ := List.mem_map.1 hx
      have hkl := List.mem_range.1 hk
      simp only [hkl, dite_true]
      exact (Classical.choose_spec (each k hkl)).1 i hi
/-- The arguments read behind the call as they did before. -/
theorem args_kept (hl : laidOutB P = true) {w' : World} (hb : Below w.heap.size w w') : ∀ {ts : List TypeId} {vs : List Value} {ds : List (DataW H)} {ps : List MemPlace}, (∀ t ∈ ts, P.readableRec t = true ∧ t < P.types.size) → (∀ x ∈ ps, x.block < w.heap.size) →
    DataW.TrodAll enc P w 0 (fun _ => true) true ts vs ds ps → DataW.TrodAll enc P w' 0 (fun b => decide (b < w.heap.size)) true ts vs ds ps
  | [], [], [], _, _, _, h => h
  | t :: ts, v :: vs, d :: ds, ps, hT, hlt, ⟨p, q, h1, h2, e⟩ => by
    subst e
    exact ⟨p, q, Below.trod hl (hT t (List.mem_cons_self ..)).1 (hT t (List.mem_cons_self ..)).2 h1 hb (fun x hx => hlt x (List.mem_append_left _ hx)),
      args_kept hl hb (fun t ht => hT t (List.mem_cons_of_mem _ ht)) (fun x hx => hlt x (List.mem_append_right _ hx)) h2, rfl⟩
  | [], [], _ :: _, _, _, _, h => h.elim
  | [], _ :: _, [], _, _, _, h => h.elim
  | [], _ :: _, _ :: _, _, _, _, h => h.elim
  | _ :: _, [], [], _, _, _, h => h.elim
  | _ :: _, [], _ :: _, _, _, _, h => h.elim
  | _ :: _, _ :: _, [], _, _, _, h => h.elim
/-- A law's last step: the call answers, and what was there is as it was. -/
theorem law_post {f : Func} {s : ChangeSpec} {w' : World} {args : Array Value} {v : Value} {ds gs : List (DataW H)} {before : List MemPlace} (hl : laidOutB P = true)
    (hW : DataW.Whole enc P f.params.toList s.vars false w args.toList ds gs before) (hT : ∀ t ∈ f.params.toList, P.readableRec t = true ∧ t < P.types.size) (hv : s.vars = []) (hb : Below w.heap.size w w')
    (hres : DataW.TrodAll enc P w' w.heap.size (fun _ => false) false f.resultTypes.toList (v.resultList f.resultTypes.size) (s.fn H (ds ++ gs)).results []) (hargs : (s.fn H (ds ++ gs)).args = ds) (hvars : (s.fn H (ds ++ gs)).vars = []) :
    s.post enc P f false true false false w args v w' := by
  have hlt : ∀ x ∈ before, x.block < w.heap.size := fun x hx => hW.lt x hx
  have hW2 := hW
  obtain ⟨p, q, h1, h2, rfl, _, _⟩ := hW
  rw [hv] at h2
  obtain ⟨rfl, rfl⟩ := trodVars_none h2
  rw [List.append_nil] at hlt
  refine ⟨ds, [], _, [], p, [], hW2, hres, ?_, ?_, hb.frame _, fun q => by cases q⟩
  · rw [hargs]; exact args_kept hl hb hT hlt h1
  · rw [hvars, hv]; exact rfl
end
end Go.Sx
namespace Go.Proofs.YtdafaibhiobpaabGreatDoor
open Go Go.RowKit Go.Sx Go.ChangeShapes Go.WideShapes Go.ChangeAt

theorem ownNone : ownKnob Tryz.prog.godebug = none := by kernel_rfl
theorem laidOut : laidOutB Tryz.prog = true := by kernel_rfl
def tzD : DataW Unit := .agg (tzTab.map fun n : Nat => .lit (.int .u8 (n : Int)))
end Go.Proofs.YtdafaibhiobpaabGreatDoor
