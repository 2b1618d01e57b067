/-
  Part 6 of the texts that the law's proof is made of: the framework and the walks.
-/
import Derived.Test.YtmghobajmhdbfaaGreatDoorPd5
import Derived.ProofKit
import Derived.OpenShut
import Derived.LaidMore
import Derived.Lay
import Derived.ChangeSlices
import Derived.Carry
import Derived.WideShapes
import Derived.Test.YtmghobajmhdbfaaGreatDoorTie
import Derived.SevenTiedAt
import Derived.Stop.Joined
namespace Go.Proofs.YtmghobajmhdbfaaGreatDoor
open Go Go.RowKit Go.Sx
def enc6 (x : Nat → Nat) : List Value := Kr .u16 (tab 6 x)
theorem enc6_len : ∀ x, (enc6 x).length = 6 := fun _ => rfl
def chOf (claims y : Nat) : Ch := ⟨((y / 4 % claims : Nat) : Int), ((y / 32 % 3 : Nat) : Int), decide (y % 4 = 1), if y % 4 = 1 then ofQ (((y / 96 % 12 : Nat) : Int) : Rat) else zRR⟩
def chs (claims : Nat) (x : Nat → Nat) (k : Nat) : List Ch := if claims = 0 then [] else ((List.range k).filter fun j : Nat => decide (x (2 + j) % 4 ≠ 0)).map fun j : Nat => chOf claims (x (2 + j))
def itOf (claims : Nat) (x : Nat → Nat) : It := ⟨amR (x 0), ofQ (((x 1 % 4 : Nat) : Int) : Rat), chs claims x 4⟩
def itemsL (l : List (Nat → Nat)) (claims n : Nat) : List It := (l.take n).map (itOf claims)
theorem chs_succ (claims : Nat) (x : Nat → Nat) (k : Nat) (hc : claims ≠ 0) : chs claims x (k + 1) = if x (2 + k) % 4 = 0 then chs claims x k else chs claims x k ++ [chOf claims (x (2 + k))] := by
  unfold chs
  rw [if_neg hc, if_neg hc, List.range_succ, List.filter_append, List.map_append]
  by_cases h : x (2 + k) % 4 = 0
  · simp [h]
  · simp [h]
theorem chs_len (claims : Nat) (x : Nat → Nat) (k : Nat) : (chs claims x k).length ≤ k := by
  unfold chs
  split
  · exact Nat.zero_le _
  · rw [List.length_map]
    have h := List.length_filter_le (fun j : Nat => decide (x (2 + j) % 4 ≠ 0)) (List.range k)
    rwa [List.length_range] at h
theorem itemsL_len (l : List (Nat → Nat)) (claims n : Nat) : (itemsL l claims n).length = min n l.length := by simp [itemsL]
theorem itemsL_succ (l : List (Nat → Nat)) (claims : Nat) {i : Nat} (h : i < l.length) : itemsL l claims (i + 1) = itemsL l claims i ++ [itOf claims (l.getD i fun _ => 0)] := by
  unfold itemsL; rw [take_succ' l i (fun _ => 0) h, List.map_append]; rfl
theorem encCh_len : ∀ c, (encCh c).length = 6 := fun _ => rfl
theorem encIt_len : ∀ c, (encIt c).length = 7 := fun _ => rfl
theorem encCh_one (xs : List Ch) : ∀ u ∈ xs.flatMap encCh, u.oneCell' = true := by
  intro u hu
  obtain ⟨x, _, hx⟩ := List.mem_flatMap.1 hu
  simp only [encCh, List.mem_cons, List.not_mem_nil, or_false] at hx
  rcases hx with rfl | rfl | rfl | rfl | rfl | rfl <;> rfl
theorem encIt_one (x : It) (a : Option Addr) (n c : Nat) : ∀ u ∈ [(x, Value.slice a n c)].flatMap encIt, u.oneCell' = true := by
  intro u hu
  obtain ⟨y, hy, hx⟩ := List.mem_flatMap.1 hu
  rw [List.mem_singleton.1 hy] at hx
  simp only [encIt, List.mem_cons, List.not_mem_nil, or_false] at hx
  rcases hx with rfl | rfl | rfl | rfl | rfl | rfl | rfl <;> rfl
theorem built_It (p c : RR) : Tryz.prog.built 41 [(0, aggR p), (1, aggR c)] = some #[.bool p.neg, .string p.num, .string p.den, .bool c.neg, .string c.num, .string c.den, .slice none 0 0] := by kernel_rfl
theorem built_Ch (a b : Int) : Tryz.prog.built 62 [(0, .int .i64 a), (1, .int .i64 b)] = some #[.int .i64 a, .int .i64 b, .bool false, .bool false, .string ⟨#[]⟩, .string ⟨#[]⟩] := by kernel_rfl
/-- The items' charges can be read, whatever else comes. -/
def RdC (w0 : World) (LC : List Blk) (cvs : List Value) (X : List It) : Prop := ∀ w' H, St w0 w' (H ++ LC) → ∀ j, j < X.length → Sl encCh 6 w' (cvs.getD j undef) (X.getD j zIt).charges
theorem RdC.add {w0 : World} {LC LCh : List Blk} {cvs : List Value} {X : List It} {x : It} {s : Value} {T : TypeId} (h : RdC w0 LC cvs X) (hl : cvs.length = X.length) (hG : Gl encCh T 6 s x.charges LCh) : RdC w0 (LC ++ LCh) (cvs ++ [s]) (X ++ [x]) := by
  intro w' H hS j hj
  rw [List.length_append] at hj
  by_cases e : j < X.length
  · have h1 : (cvs ++ [s]).getD j undef = cvs.getD j undef := by rw [List.getD_eq_getElem?_getD, List.getElem?_append_left (by omega), List.getD_eq_getElem?_getD]
    have h2 : (X ++ [x]).getD j zIt = X.getD j zIt := by rw [List.getD_eq_getElem?_getD, List.getElem?_append_left e, List.getD_eq_getElem?_getD]
    rw [h1, h2]
    refine h w' H (hS.drop ?_) j e
    rw [← List.append_assoc]
    exact List.sublist_append_left _ _
  · obtain rfl : j = X.length := by simp only [List.length_cons, List.length_nil] at hj; omega
    have h1 : (cvs ++ [s]).getD X.length undef = s := by rw [List.getD_eq_getElem?_getD, List.getElem?_append_right (by omega), hl, Nat.sub_self]; rfl
    have h2 : (X ++ [x]).getD X.length zIt = x := by rw [List.getD_eq_getElem?_getD, List.getElem?_append_right (Nat.le_refl _), Nat.sub_self]; rfl
    rw [h1, h2]
    exact hG.sl (H := H ++ LC) (by rw [List.append_assoc]; exact hS) encCh_len
set_option maxHeartbeats 2000000 in
theorem Items_ok (v : Value) (l : List (Nat → Nat)) (claims : Nat) (w : World) (hv : Sl enc6 6 w v l) (hl : ∀ x ∈ l, ∀ i, i < 6 → x i < 65536) (hcl : claims ≤ 24) :
    Ret Tryz.prog 6 #[v, .int .i64 claims] w fun r w' => (∃ cvs, Its w' r (itemsL l claims 4) cvs) ∧ Below w.heap.size w w' := by
  have hmax := hv.maxLen
  have hS := St.init w
  refine enter Tryz.func6 rfl Tryz.ntmps6 rfl ?_
  repeat (with_reducible first | refine c_seq ?_ | refine c_block ?_ | refine c_skip ?_ | refine x_then ?_ | refine x_block ?_)
  refine c_reg ?_
  refine l_pure rfl (s_asg  rfl ?_)
  refine l_nil ?_
  repeat (with_reducible first | refine c_seq ?_ | refine c_block ?_ | refine c_skip ?_ | refine x_then ?_ | refine x_block ?_)
  refine c_reg ?_
  refine l_pure rfl (s_asg  rfl ?_)
  refine l_nil ?_
  repeat (with_reducible first | refine c_seq ?_ | refine c_block ?_ | refine c_skip ?_ | refine x_then ?_ | refine x_block ?_)
  refine c_reg ?_
  refine l_pure rfl (s_asg  rfl ?_)
  refine l_nil ?_
  repeat (with_reducible first | refine c_seq ?_ | refine c_block ?_ | refine c_skip ?_ | refine x_then ?_ | refine x_block ?_)
  refine c_loop (σ := Nat) (fun i ρ w' => i ≤ l.length ∧ i ≤ 4 ∧ ρ 0 = v ∧ ρ 1 = .int .i64 claims ∧ ρ 6 = .int .i64 i ∧ ∃ sO LO LC cvs, ρ 5 = sO ∧ cvs.length = i ∧ Gl encIt 41 7 sO ((itemsL l claims i).zip cvs) LO ∧ RdC w LC cvs (itemsL l claims i) ∧ St w w' (LO ++ LC)) (fun i => l.length - i) 0
    ⟨Nat.zero_le _, Nat.zero_le _, rfl, rfl, rfl, ⟨_, [], [], [], rfl, rfl, Gl.nil _ _ _, fun w' H h j hj => absurd hj (Nat.not_lt_zero _), hS⟩⟩ ?_
  clear hS
  rintro i ρ w2 ⟨hi, hi4, h0, h1, h6, sO, LO, LC, cvs, h5, hcv, hO, hRd, hS⟩
  have hxl := itemsL_len l claims i
  repeat (with_reducible first | refine c_seq ?_ | refine c_block ?_ | refine c_skip ?_ | refine x_then ?_ | refine x_block ?_)
  by_cases hlt : i < l.length
  · by_cases hlt4 : i < 4
    · repeat (with_reducible first | refine c_seq ?_ | refine c_block ?_ | refine c_skip ?_ | refine x_then ?_ | refine x_block ?_)
      refine c_reg ?_
      refine l_pure rfl (s_move  h6 ?_)
      refine l_pure rfl (s_move  h0 ?_)
      refine l_pure rfl (s_lenr  rfl (hv.below hS.below) ⟨_, Tryz.underlying22⟩ ?_)
      refine l_pure rfl (s_lss  rfl rfl ?_)
      refine l_pure rfl (s_move  rfl ?_)
      refine l_pure (gd_yes 16 (by kernel_rfl) rfl (decide_eq_true (by omega))) (s_move  h6 ?_)
      refine l_pure (gd_yes 16 (by kernel_rfl) rfl (decide_eq_true (by omega))) (s_lss  rfl rfl ?_)
      refine l_pure rfl (s_pick (vb rfl (decide_eq_true (by omega))) rfl ?_)
      refine l_nil ?_
      repeat (with_reducible first | refine c_seq ?_ | refine c_block ?_ | refine c_skip ?_ | refine x_then ?_ | refine x_block ?_)
      refine c_yes rfl (decide_eq_true (by omega)) ?_
      repeat (with_reducible first | refine c_seq ?_ | refine c_block ?_ | refine c_skip ?_ | refine x_then ?_ | refine x_block ?_)
      obtain ⟨x, hx⟩ : ∃ x, x = l.getD i fun _ => 0 := ⟨_, rfl⟩
      have hxb := hl x (by rw [hx]; exact getD_mem l i _ hlt)
      repeat (with_reducible first | refine c_seq ?_ | refine c_block ?_ | refine c_skip ?_ | refine x_then ?_ | refine x_block ?_)
      refine c_reg ?_
      refine l_pure rfl (s_move  h0 ?_)
      refine l_pure rfl (s_move  h6 ?_)
      refine l_pure rfl (s_ixr (i := i)  rfl rfl (hv.below hS.below) (by omega) (by first | omega | (simp; done) | (simp; omega)) si_22 ?_)
      refine l_read rfl (s_lde (i := i) (fun _ => 0)  rfl vi_59 (hv.below hS.below) (by first | omega | (simp; done) | (simp; omega)) rfl rfl (.inl rfl) ?_)
      refine l_heavy rfl (s_alloc  vi_59 hS ?_)
      intro b7 wz1 hS hBz1
      refine l_heavy rfl (s_sta (k := 0)  rfl rfl vi_59 hS rfl rfl rfl (Nat.le_of_ble_eq_true rfl) rfl ?_)
      intro wz2 hS
      refine l_nil ?_
      repeat (with_reducible first | refine c_seq ?_ | refine c_block ?_ | refine c_skip ?_ | refine x_then ?_ | refine x_block ?_)
      rw [← hx] at hS
      replace hS : St w _ ([(b7, 59, Kr .u16 (tab 6 x))] ++ LO ++ LC) := hS
      have hx0 := hxb 0 (by decide)
      have hx1 := hxb 1 (by decide)
      refine c_cut1 (fun ρ w' => ρ 0 = v ∧ ρ 1 = .int .i64 claims ∧ ρ 6 = .int .i64 i ∧ ρ 5 = sO ∧ ρ 7 = .pointer (some ⟨b7, 0, none⟩) ∧ ∃ b8, ρ 8 = .pointer (some ⟨b8, 0, none⟩) ∧
        St w w' ([(b8, 41, encIt (itOf claims x, .slice none 0 0)), (b7, 59, Kr .u16 (tab 6 x))] ++ LO ++ LC)) ?_ ?_
      · repeat (with_reducible first | refine c_seq ?_ | refine c_block ?_ | refine c_skip ?_ | refine x_then ?_ | refine x_block ?_)
        refine c_float 9 [(0, .pure), (1, .read), (3, .pure), (4, .read), (5, .pure), (6, .pure), (2, .grow), (7, .grow), (8, .pure), (10, .free)] (by kernel_rfl) (by kernel_rfl) hS ?_
        intro wz3 hS hBz3
        refine wx_pure (by kernel_rfl) rfl rfl (s_ixg (n := 6) (i := 0) rfl rfl rfl (by decide) Tryz.underlying59 vi_58 ?_)
        refine wx_read (by kernel_rfl) rfl rfl (s_ldk (k := 0) (i := 0)  rfl vi_58 hS rfl rfl (by rw [tab_len]; decide) ?_)
        refine wx_pure (by kernel_rfl) rfl rfl (s_ixg (n := 6) (i := 1) rfl rfl rfl (by decide) Tryz.underlying59 vi_58 ?_)
        refine wx_read (by kernel_rfl) rfl rfl (s_ldk (k := 0) (i := 1)  rfl vi_58 hS rfl rfl (by rw [tab_len]; decide) ?_)
        refine wx_pure (by kernel_rfl) rfl rfl (s_rem  rfl rfl (by omega) (r := ((x 1 % 4 : Nat) : Int)) (by exact rem_nat (x 1) 4) ?_)
        refine wx_pure (by kernel_rfl) rfl rfl (s_conv  rfl Tryz.underlying3 ⟨_, Tryz.underlying58⟩ (r := ((x 1 % 4 : Nat) : Int)) (by exact wr_i64 _ ⟨rfl, by omega, by omega⟩) ?_)
        refine wx_fork rfl rfl ?_ ?_
        · refine w_grow rfl rfl (s_alloc  vi_41 hS ?_)
          intro b8 wz4 hS hBz4
          refine ⟨hBz4, ?_⟩
          refine w_grow rfl rfl (s_call Tryz.call23 rfl (Amount_ok (x 0) _ hx0) ?_)
          rintro r w3 ⟨rfl, hB3⟩
          refine ⟨hB3, ?_⟩
          replace hS := hS.grow hB3
          refine w_grow rfl rfl (s_call Tryz.call24 rfl (Whole_ok ((x 1 % 4 : Nat) : Int) _ (by omega) (by omega)) ?_)
          rintro r w4 ⟨rfl, hB4⟩
          refine ⟨hB4, ?_⟩
          replace hS := hS.grow hB4
          refine w_pure rfl rfl (s_build  rfl (built_It _ _) ?_)
          refine w_free rfl rfl (s_sta (k := 0)  rfl rfl vi_41 hS rfl rfl rfl (Nat.le_of_ble_eq_true rfl) rfl ?_)
          intro wz5 hS
          refine w_end ?_
          repeat (with_reducible first | refine c_seq ?_ | refine c_block ?_ | refine c_skip ?_ | refine x_then ?_ | refine x_block ?_)
          replace hS : St w _ ([(b8, 41, encIt (itOf claims x, .slice none 0 0)), (b7, 59, Kr .u16 (tab 6 x))] ++ LO ++ LC) := hS
          exact ⟨_, rfl, h0, h1, h6, h5, rfl, b8, rfl, hS⟩
        · refine s_call Tryz.call23 rfl (Amount_ok (x 0) _ hx0) ?_
          rintro r w3 ⟨rfl, hB3⟩
          refine ⟨hB3, ?_⟩
          replace hS := hS.grow hB3
          refine wx_fork rfl rfl ?_ ?_
          · refine w_grow rfl rfl (s_alloc  vi_41 hS ?_)
            intro b8 wz6 hS hBz6
            refine ⟨hBz6, ?_⟩
            refine w_grow rfl rfl (s_call Tryz.call24 rfl (Whole_ok ((x 1 % 4 : Nat) : Int) _ (by omega) (by omega)) ?_)
            rintro r w4 ⟨rfl, hB4⟩
            refine ⟨hB4, ?_⟩
            replace hS := hS.grow hB4
            refine w_pure rfl rfl (s_build  rfl (built_It _ _) ?_)
            refine w_free rfl rfl (s_sta (k := 0)  rfl rfl vi_41 hS rfl rfl rfl (Nat.le_of_ble_eq_true rfl) rfl ?_)
            intro wz7 hS
            refine w_end ?_
            repeat (with_reducible first | refine c_seq ?_ | refine c_block ?_ | refine c_skip ?_ | refine x_then ?_ | refine x_block ?_)
            replace hS : St w _ ([(b8, 41, encIt (itOf claims x, .slice none 0 0)), (b7, 59, Kr .u16 (tab 6 x))] ++ LO ++ LC) := hS
            exact ⟨_, rfl, h0, h1, h6, h5, rfl, b8, rfl, hS⟩
          · refine s_call Tryz.call24 rfl (Whole_ok ((x 1 % 4 : Nat) : Int) _ (by omega) (by omega)) ?_
            rintro r w4 ⟨rfl, hB4⟩
            refine ⟨hB4, ?_⟩
            replace hS := hS.grow hB4
            refine wx_pure (by kernel_rfl) rfl rfl (s_build  rfl (built_It _ _) ?_)
            refine wx_now (by kernel_rfl) ?_
            refine w_grow rfl rfl (s_alloc  vi_41 hS ?_)
            intro b8 wz8 hS hBz8
            refine ⟨hBz8, ?_⟩
            refine w_free rfl rfl (s_sta (k := 0)  rfl rfl vi_41 hS rfl rfl rfl (Nat.le_of_ble_eq_true rfl) rfl ?_)
            intro wz9 hS
            refine w_end ?_
            repeat (with_reducible first | refine c_seq ?_ | refine c_block ?_ | refine c_skip ?_ | refine x_then ?_ | refine x_block ?_)
            replace hS : St w _ ([(b8, 41, encIt (itOf claims x, .slice none 0 0)), (b7, 59, Kr .u16 (tab 6 x))] ++ LO ++ LC) := hS
            exact ⟨_, rfl, h0, h1, h6, h5, rfl, b8, rfl, hS⟩
      clear hS h0 h1 h6 h5
      rintro ρ w3 ⟨h0, h1, h6, h5, h7, b8, h8, hS⟩
      repeat (with_reducible first | refine c_seq ?_ | refine c_block ?_ | refine c_skip ?_ | refine x_then ?_ | refine x_block ?_)
      refine c_reg ?_
      refine l_pure rfl (s_asg  rfl ?_)
      refine l_nil ?_
      repeat (with_reducible first | refine c_seq ?_ | refine c_skip ?_ | refine x_then ?_ | refine x_block ?_)
      refine c_cut1 (fun ρ w' => ρ 0 = v ∧ ρ 1 = .int .i64 claims ∧ ρ 6 = .int .i64 i ∧ ρ 5 = sO ∧ ρ 8 = .pointer (some ⟨b8, 0, none⟩) ∧ ∃ sC LH, Gl encCh 62 6 sC (chs claims x 4) LH ∧
        St w w' ([(b8, 41, encIt (itOf claims x, sC)), (b7, 59, Kr .u16 (tab 6 x))] ++ LO ++ LC ++ LH)) ?_ ?_
      · repeat (with_reducible first | refine c_seq ?_ | refine c_block ?_ | refine c_skip ?_ | refine x_then ?_ | refine x_block ?_)
        refine c_loop (σ := Nat) (fun k ρ w' => k ≤ 4 ∧ ρ 0 = v ∧ ρ 1 = .int .i64 claims ∧ ρ 6 = .int .i64 i ∧ ρ 5 = sO ∧ ρ 7 = .pointer (some ⟨b7, 0, none⟩) ∧ ρ 8 = .pointer (some ⟨b8, 0, none⟩) ∧ ρ 9 = .int .i64 k ∧ ∃ sC LH, Gl encCh 62 6 sC (chs claims x k) LH ∧
            St w w' ([(b8, 41, encIt (itOf claims x, sC)), (b7, 59, Kr .u16 (tab 6 x))] ++ LO ++ LC ++ LH)) (fun k => 4 - k) 0
          ⟨Nat.zero_le _, h0, h1, h6, h5, h7, h8, rfl, ⟨_, [], by rw [show chs claims x 0 = [] from List.eq_nil_of_length_eq_zero (Nat.le_zero.1 (chs_len claims x 0))]; exact Gl.nil _ _ _, by rw [List.append_nil]; exact hS⟩⟩ ?_
        clear hS h0 h1 h6 h5 h7 h8
        rintro k ρ w4 ⟨hk, h0, h1, h6, h5, h7, h8, h9, sC, LH, hC, hS⟩
        have hchl := chs_len claims x k
        obtain ⟨aC, cC, hsC⟩ := hC.len
        subst hsC
        repeat (with_reducible first | refine c_seq ?_ | refine c_block ?_ | refine c_skip ?_ | refine x_then ?_ | refine x_block ?_)
        by_cases hk4 : k < 4
        · by_cases hc0 : 0 < claims
          · repeat (with_reducible first | refine c_seq ?_ | refine c_block ?_ | refine c_skip ?_ | refine x_then ?_ | refine x_block ?_)
            refine c_reg ?_
            refine l_pure rfl (s_move  h9 ?_)
            refine l_pure rfl (s_lss  rfl rfl ?_)
            refine l_pure rfl (s_move  rfl ?_)
            refine l_pure (gd_yes 37 (by kernel_rfl) rfl (decide_eq_true (by omega))) (s_move  h1 ?_)
            refine l_pure (gd_yes 37 (by kernel_rfl) rfl (decide_eq_true (by omega))) (s_gtr  rfl rfl ?_)
            refine l_pure rfl (s_pick (vb rfl (decide_eq_true (by omega))) rfl ?_)
            refine l_nil ?_
            repeat (with_reducible first | refine c_seq ?_ | refine c_block ?_ | refine c_skip ?_ | refine x_then ?_ | refine x_block ?_)
            refine c_yes rfl (decide_eq_true (by omega)) ?_
            repeat (with_reducible first | refine c_seq ?_ | refine c_block ?_ | refine c_skip ?_ | refine x_then ?_ | refine x_block ?_)
            have hcs := chs_succ claims x k (by omega)
            obtain ⟨y, hy⟩ : ∃ y, y = x (2 + k) := ⟨_, rfl⟩
            have hyb := hxb (2 + k) (by omega)
            have hyg : (tab 6 x).getD (2 + k) 0 = y := by rw [tab_get _ _ (by omega), hy]
            rw [← hy] at hyb hcs
            repeat (with_reducible first | refine c_seq ?_ | refine c_block ?_ | refine c_skip ?_ | refine x_then ?_ | refine x_block ?_)
            refine c_reg ?_
            refine l_pure rfl (s_move  h9 ?_)
            refine l_pure rfl (s_add  rfl rfl (r := ((2 + k : Nat) : Int)) (by exact wr_i64 _ ⟨by omega, by omega, by omega⟩) ?_)
            refine l_pure rfl (s_ixg (n := 6) (i := 2 + k) h7 rfl rfl (by omega) Tryz.underlying59 vi_58 ?_)
            refine l_read rfl (s_ldk (k := 1) (i := 2 + k)  rfl vi_58 hS rfl (by omega) (by rw [tab_len]; omega) ?_)
            refine l_pure rfl (s_conv  rfl Tryz.underlying3 ⟨_, Tryz.underlying58⟩ (r := ((y : Nat) : Int)) (by rw [hyg]; exact wr_i64 _ ⟨rfl, by omega, by omega⟩) ?_)
            refine l_pure rfl (s_asg  rfl ?_)
            refine l_nil ?_
            repeat (with_reducible first | refine c_seq ?_ | refine c_block ?_ | refine c_skip ?_ | refine x_then ?_ | refine x_block ?_)
            refine c_reg ?_
            refine l_pure rfl (s_move  rfl ?_)
            refine l_pure rfl (s_rem  rfl rfl (by omega) (rem_nat y 4) ?_)
            refine l_pure rfl (s_eql  rfl rfl ?_)
            refine l_nil ?_
            repeat (with_reducible first | refine c_seq ?_ | refine c_block ?_ | refine c_skip ?_ | refine x_then ?_ | refine x_block ?_)
            by_cases hy4 : y % 4 = 0
            · refine c_yes rfl (decide_eq_true (by omega)) ?_
              repeat (with_reducible first | refine c_seq ?_ | refine c_block ?_ | refine c_skip ?_ | refine x_then ?_ | refine x_block ?_)
              rw [if_pos hy4] at hcs
              rw [← hcs] at hC hS
              refine c_exit ?_
              repeat (with_reducible first | refine x_then_exit ?_ | refine x_block_exit ?_ | refine x_block_pass rfl ?_)
              repeat (with_reducible first | refine c_seq ?_ | refine c_block ?_ | refine c_skip ?_ | refine x_then ?_ | refine x_block ?_)
              refine c_reg ?_
              refine l_pure rfl (s_move  h9 ?_)
              refine l_pure rfl (s_add  rfl rfl (IntWalk.i64_in _ (by omega)) ?_)
              refine l_pure rfl (s_asg  rfl ?_)
              refine l_nil ?_
              repeat (with_reducible first | refine c_seq ?_ | refine c_block ?_ | refine c_skip ?_ | refine x_then ?_ | refine x_block ?_)
              exact ⟨k + 1, _, rfl, ⟨hk4, h0, h1, h6, h5, h7, h8, vi rfl (by omega), ⟨_, LH, hC, hS⟩⟩, by omega⟩
            · refine c_no rfl (decide_eq_false (by omega)) ?_
              repeat (with_reducible first | refine c_seq ?_ | refine c_block ?_ | refine c_skip ?_ | refine x_then ?_ | refine x_block ?_)
              rw [if_neg hy4] at hcs
              repeat (with_reducible first | refine c_seq ?_ | refine c_block ?_ | refine c_skip ?_ | refine x_then ?_ | refine x_block ?_)
              refine c_reg ?_
              refine l_pure rfl (s_move  rfl ?_)
              refine l_pure rfl (s_quo  rfl rfl (by omega) (quo_i64 y 4 (by omega)) ?_)
              refine l_pure rfl (s_move  h1 ?_)
              refine l_pure rfl (s_rem  rfl rfl (by omega) (rem_nat (y / 4) claims) ?_)
              refine l_pure rfl (s_move  rfl ?_)
              refine l_pure rfl (s_quo  rfl rfl (by omega) (quo_i64 y 32 (by omega)) ?_)
              refine l_pure rfl (s_rem  rfl rfl (by omega) (rem_nat (y / 32) 3) ?_)
              refine l_pure rfl (s_build  rfl (built_Ch _ _) ?_)
              refine l_heavy rfl (s_alloc  vi_62 hS ?_)
              intro b11 wz10 hS hBz10
              refine l_heavy rfl (s_sta (k := 0)  rfl rfl vi_62 hS rfl rfl rfl (Nat.le_of_ble_eq_true rfl) rfl ?_)
              intro wz11 hS
              refine l_nil ?_
              repeat (with_reducible first | refine c_seq ?_ | refine c_block ?_ | refine c_skip ?_ | refine x_then ?_ | refine x_block ?_)
              replace hS : St w _ ([(b11, 62, encCh ⟨((y / 4 % claims : Nat) : Int), ((y / 32 % 3 : Nat) : Int), false, zRR⟩), (b8, 41, encIt (itOf claims x, .slice aC (chs claims x k).length cC)), (b7, 59, Kr .u16 (tab 6 x))] ++ LO ++ LC ++ LH) := hS
              repeat (with_reducible first | refine c_seq ?_ | refine c_block ?_ | refine c_skip ?_ | refine x_then ?_ | refine x_block ?_)
              refine c_reg ?_
              refine l_pure rfl (s_move  rfl ?_)
              refine l_pure rfl (s_rem  rfl rfl (by omega) (rem_nat y 4) ?_)
              refine l_pure rfl (s_eql  rfl rfl ?_)
              refine l_nil ?_
              repeat (with_reducible first | refine c_seq ?_ | refine c_skip ?_ | refine x_then ?_ | refine x_block ?_)
              refine c_cut1 (fun ρ w' => ρ 0 = v ∧ ρ 1 = .int .i64 claims ∧ ρ 6 = .int .i64 i ∧ ρ 5 = sO ∧ ρ 7 = .pointer (some ⟨b7, 0, none⟩) ∧ ρ 8 = .pointer (some ⟨b8, 0, none⟩) ∧ ρ 9 = .int .i64 k ∧ ρ 11 = .pointer (some ⟨b11, 0, none⟩) ∧
                St w w' ([(b11, 62, encCh (chOf claims y)), (b8, 41, encIt (itOf claims x, .slice aC (chs claims x k).length cC)), (b7, 59, Kr .u16 (tab 6 x))] ++ LO ++ LC ++ LH)) ?_ ?_
              · repeat (with_reducible first | refine c_seq ?_ | refine c_block ?_ | refine c_skip ?_ | refine x_then ?_ | refine x_block ?_)
                by_cases hy1 : y % 4 = 1
                · refine c_yes rfl (decide_eq_true (by omega)) ?_
                  repeat (with_reducible first | refine c_seq ?_ | refine c_block ?_ | refine c_skip ?_ | refine x_then ?_ | refine x_block ?_)
                  have e : chOf claims y = ⟨((y / 4 % claims : Nat) : Int), ((y / 32 % 3 : Nat) : Int), true, ofQ (((y / 96 % 12 : Nat) : Int) : Rat)⟩ := by unfold chOf; rw [if_pos hy1, decide_eq_true hy1]
                  rw [e]
                  repeat (with_reducible first | refine c_seq ?_ | refine c_block ?_ | refine c_skip ?_ | refine x_then ?_ | refine x_block ?_)
                  refine c_reg ?_
                  refine l_pure rfl (s_fld  rfl fo_62_2 ?_)
                  refine l_heavy rfl (s_stc (k := 0)  rfl rfl vi_4 hS rfl (Nat.le_of_ble_eq_true rfl) rfl ?_)
                  intro wz12 hS
                  refine l_nil ?_
                  repeat (with_reducible first | refine c_seq ?_ | refine c_block ?_ | refine c_skip ?_ | refine x_then ?_ | refine x_block ?_)
                  replace hS : St w _ ([(b11, 62, encCh ⟨((y / 4 % claims : Nat) : Int), ((y / 32 % 3 : Nat) : Int), true, zRR⟩), (b8, 41, encIt (itOf claims x, .slice aC (chs claims x k).length cC)), (b7, 59, Kr .u16 (tab 6 x))] ++ LO ++ LC ++ LH) := hS
                  repeat (with_reducible first | refine c_seq ?_ | refine c_block ?_ | refine c_skip ?_ | refine x_then ?_ | refine x_block ?_)
                  refine c_reg ?_
                  refine l_pure rfl (s_move  rfl ?_)
                  refine l_pure rfl (s_quo  rfl rfl (by omega) (quo_i64 y 96 (by omega)) ?_)
                  refine l_pure rfl (s_rem  rfl rfl (by omega) (rem_nat (y / 96) 12) ?_)
                  refine l_heavy rfl (s_call Tryz.call24 rfl (Whole_ok ((y / 96 % 12 : Nat) : Int) _ (by omega) (by omega)) ?_)
                  rintro r w5 ⟨rfl, hB5⟩
                  replace hS := hS.grow hB5
                  refine l_pure rfl (s_fld  rfl fo_62_3 ?_)
                  refine l_heavy rfl (s_sta (k := 0)  rfl rfl vi_36 hS rfl rfl rfl (Nat.le_of_ble_eq_true rfl) rfl ?_)
                  intro wz13 hS
                  refine l_nil ?_
                  repeat (with_reducible first | refine c_seq ?_ | refine c_block ?_ | refine c_skip ?_ | refine x_then ?_ | refine x_block ?_)
                  exact ⟨_, rfl, h0, h1, h6, h5, h7, h8, h9, rfl, hS⟩
                · refine c_no rfl (decide_eq_false (by omega)) ?_
                  repeat (with_reducible first | refine c_seq ?_ | refine c_block ?_ | refine c_skip ?_ | refine x_then ?_ | refine x_block ?_)
                  have e : chOf claims y = ⟨((y / 4 % claims : Nat) : Int), ((y / 32 % 3 : Nat) : Int), false, zRR⟩ := by unfold chOf; rw [if_neg hy1, decide_eq_false hy1]
                  rw [e]
                  exact ⟨_, rfl, h0, h1, h6, h5, h7, h8, h9, rfl, hS⟩
              clear hS h0 h1 h6 h5 h7 h8 h9
              rintro ρ w5 ⟨h0, h1, h6, h5, h7, h8, h9, h11, hS⟩
              repeat (with_reducible first | refine c_seq ?_ | refine c_block ?_ | refine c_skip ?_ | refine x_then ?_ | refine x_block ?_)
              refine c_reg ?_
              refine l_pure rfl (s_fld  h8 fo_41_2 ?_)
              refine l_read rfl (s_ldo (k := 1)  rfl vi_39 hS rfl rfl rfl (.inr rfl) ?_)
              refine l_read rfl (s_ldo (k := 0)  h11 vi_62 hS rfl rfl rfl (.inl rfl) ?_)
              refine l_heavy rfl (s_bsl (vs := [.agg (encCh (chOf claims y)).toArray])  rfl si_39 rfl (by decide) (by decide) (by decide) (by simp [Value.cells, encCh]) rfl hS ?_)
              intro bx wz14 hS hBz14
              refine l_heavy rfl (s_appl [chOf claims y]  rfl rfl si_39 (by decide) hC hS rfl rfl encCh_len (encCh_one [chOf claims y]) (by first | omega | (simp only [List.length_cons, List.length_nil]; omega)) (by first | omega | (simp only [List.length_cons, List.length_nil]; omega)) ?_)
              intro va15 La15 wa15 hC hS hga15
              refine l_pure rfl (s_fld  h8 fo_41_2 ?_)
              refine l_heavy rfl (s_stc (k := 1)  rfl rfl vi_39 hS rfl (Nat.le_of_ble_eq_true rfl) (by obtain ⟨a, c, h⟩ := hC.len; rw [h]; rfl) ?_)
              intro wz16 hS
              refine l_nil ?_
              repeat (with_reducible first | refine c_seq ?_ | refine c_block ?_ | refine c_skip ?_ | refine x_then ?_ | refine x_block ?_)
              rw [← hcs] at hC
              repeat (with_reducible first | refine c_seq ?_ | refine c_block ?_ | refine c_skip ?_ | refine x_then ?_ | refine x_block ?_)
              refine c_reg ?_
              refine l_pure rfl (s_move  h9 ?_)
              refine l_pure rfl (s_add  rfl rfl (IntWalk.i64_in _ (by omega)) ?_)
              refine l_pure rfl (s_asg  rfl ?_)
              refine l_nil ?_
              repeat (with_reducible first | refine c_seq ?_ | refine c_block ?_ | refine c_skip ?_ | refine x_then ?_ | refine x_block ?_)
              replace hS : St w _ ((b11, 62, encCh (chOf claims y)) :: ([(b8, 41, encIt (itOf claims x, va15)), (b7, 59, Kr .u16 (tab 6 x))] ++ LO ++ LC ++ La15)) := hS
              exact ⟨k + 1, _, rfl, ⟨hk4, h0, h1, h6, h5, h7, h8, vi rfl (by omega), ⟨_, _, hC, hS.drop (List.sublist_cons_self _ _)⟩⟩, by omega⟩
          · repeat (with_reducible first | refine c_seq ?_ | refine c_block ?_ | refine c_skip ?_ | refine x_then ?_ | refine x_block ?_)
            refine c_reg ?_
            refine l_pure rfl (s_move  h9 ?_)
            refine l_pure rfl (s_lss  rfl rfl ?_)
            refine l_pure rfl (s_move  rfl ?_)
            refine l_pure (gd_yes 37 (by kernel_rfl) rfl (decide_eq_true (by omega))) (s_move  h1 ?_)
            refine l_pure (gd_yes 37 (by kernel_rfl) rfl (decide_eq_true (by omega))) (s_gtr  rfl rfl ?_)
            refine l_pure rfl (s_pick (vb rfl (decide_eq_true (by omega))) rfl ?_)
            refine l_nil ?_
            repeat (with_reducible first | refine c_seq ?_ | refine c_block ?_ | refine c_skip ?_ | refine x_then ?_ | refine x_block ?_)
            refine c_no rfl (decide_eq_false (by omega)) ?_
            repeat (with_reducible first | refine c_seq ?_ | refine c_block ?_ | refine c_skip ?_ | refine x_then ?_ | refine x_block ?_)
            refine c_exit ?_
            repeat (with_reducible first | refine x_then_exit ?_ | refine x_block_exit ?_ | refine x_block_pass rfl ?_)
            repeat (with_reducible first | refine c_seq ?_ | refine c_block ?_ | refine c_skip ?_ | refine x_then ?_ | refine x_block ?_)
            have e : chs claims x k = chs claims x 4 := by unfold chs; rw [if_pos (by omega), if_pos (by omega)]
            rw [e] at hC hS
            exact ⟨_, rfl, h0, h1, h6, h5, h8, ⟨_, _, hC, hS⟩⟩
        · repeat (with_reducible first | refine c_seq ?_ | refine c_block ?_ | refine c_skip ?_ | refine x_then ?_ | refine x_block ?_)
          refine c_reg ?_
          refine l_pure rfl (s_move  h9 ?_)
          refine l_pure rfl (s_lss  rfl rfl ?_)
          refine l_pure rfl (s_move  rfl ?_)
          refine l_no (gno_yes 37 (by kernel_rfl) rfl (decide_eq_false (by omega))) ?_
          refine l_no (gno_yes 37 (by kernel_rfl) rfl (decide_eq_false (by omega))) ?_
          refine l_pure rfl (s_pick (vb rfl (decide_eq_false (by omega))) rfl ?_)
          refine l_nil ?_
          repeat (with_reducible first | refine c_seq ?_ | refine c_block ?_ | refine c_skip ?_ | refine x_then ?_ | refine x_block ?_)
          refine c_no rfl (rfl) ?_
          repeat (with_reducible first | refine c_seq ?_ | refine c_block ?_ | refine c_skip ?_ | refine x_then ?_ | refine x_block ?_)
          refine c_exit ?_
          repeat (with_reducible first | refine x_then_exit ?_ | refine x_block_exit ?_ | refine x_block_pass rfl ?_)
          repeat (with_reducible first | refine c_seq ?_ | refine c_block ?_ | refine c_skip ?_ | refine x_then ?_ | refine x_block ?_)
          obtain rfl : k = 4 := by omega
          exact ⟨_, rfl, h0, h1, h6, h5, h8, ⟨_, _, hC, hS⟩⟩
      clear hS h0 h1 h6 h5 h7 h8
      rintro ρ w4 ⟨h0, h1, h6, h5, h8, sC, LH, hC, hS⟩
      obtain ⟨aC, cC, hsC⟩ := hC.len
      subst hsC
      have e7 : (List.zip (itemsL l claims i) cvs).length = i := by rw [List.length_zip]; omega
      have hz : (itemsL l claims (i + 1)).zip (cvs ++ [.slice aC (chs claims x 4).length cC]) = (itemsL l claims i).zip cvs ++ [(itOf claims x, .slice aC (chs claims x 4).length cC)] := by
        rw [itemsL_succ l claims hlt, List.zip_append (by omega), ← hx]; rfl
      replace hS : St w _ ([(b8, 41, encIt (itOf claims x, .slice aC (chs claims x 4).length cC)), (b7, 59, Kr .u16 (tab 6 x))] ++ (LC ++ LH) ++ LO) := hS.perm (by
        rw [List.append_assoc, List.append_assoc, List.append_assoc]
        exact List.Perm.append_left _ List.perm_append_comm)
      repeat (with_reducible first | refine c_seq ?_ | refine c_block ?_ | refine c_skip ?_ | refine x_then ?_ | refine x_block ?_)
      refine c_reg ?_
      refine l_pure rfl (s_move  h5 ?_)
      refine l_read rfl (s_ldo (k := 0)  h8 vi_41 hS rfl rfl rfl (.inl rfl) ?_)
      refine l_heavy rfl (s_bsl (vs := [.agg (encIt (itOf claims x, .slice aC (chs claims x 4).length cC)).toArray])  rfl si_26 rfl (by decide) (by decide) (by decide) (by simp [Value.cells, encIt]) rfl hS ?_)
      intro bx wz17 hS hBz17
      refine l_heavy rfl (s_appl [(itOf claims x, .slice aC (chs claims x 4).length cC)]  rfl rfl si_26 (by decide) hO hS rfl rfl encIt_len (encIt_one (itOf claims x) aC (chs claims x 4).length cC) (by first | omega | (simp only [List.length_cons, List.length_nil]; omega)) (by first | omega | (simp only [List.length_cons, List.length_nil]; omega)) ?_)
      intro va18 La18 wa18 hO hS hga18
      refine l_pure rfl (s_asg  rfl ?_)
      refine l_nil ?_
      repeat (with_reducible first | refine c_seq ?_ | refine c_block ?_ | refine c_skip ?_ | refine x_then ?_ | refine x_block ?_)
      rw [← hz] at hO
      repeat (with_reducible first | refine c_seq ?_ | refine c_block ?_ | refine c_skip ?_ | refine x_then ?_ | refine x_block ?_)
      refine c_reg ?_
      refine l_pure rfl (s_move  h6 ?_)
      refine l_pure rfl (s_add  rfl rfl (IntWalk.i64_in _ (by omega)) ?_)
      refine l_pure rfl (s_asg  rfl ?_)
      refine l_nil ?_
      repeat (with_reducible first | refine c_seq ?_ | refine c_block ?_ | refine c_skip ?_ | refine x_then ?_ | refine x_block ?_)
      refine ⟨i + 1, _, rfl, ⟨hlt, hlt4, h0, h1, vi rfl (by omega), ⟨_, _, LC ++ LH, _, rfl, ?_, hO, ?_, (hS.drop (H' := (LC ++ LH) ++ _) (.cons _ (.cons _ (List.Sublist.refl _)))).perm List.perm_append_comm⟩⟩, by omega⟩
      · rw [List.length_append, hcv]; rfl
      · rw [itemsL_succ l claims hlt, ← hx]
        exact hRd.add (by omega) hC
    · repeat (with_reducible first | refine c_seq ?_ | refine c_block ?_ | refine c_skip ?_ | refine x_then ?_ | refine x_block ?_)
      refine c_reg ?_
      refine l_pure rfl (s_move  h6 ?_)
      refine l_pure rfl (s_move  h0 ?_)
      refine l_pure rfl (s_lenr  rfl (hv.below hS.below) ⟨_, Tryz.underlying22⟩ ?_)
      refine l_pure rfl (s_lss  rfl rfl ?_)
      refine l_pure rfl (s_move  rfl ?_)
      refine l_pure (gd_yes 16 (by kernel_rfl) rfl (decide_eq_true (by omega))) (s_move  h6 ?_)
      refine l_pure (gd_yes 16 (by kernel_rfl) rfl (decide_eq_true (by omega))) (s_lss  rfl rfl ?_)
      refine l_pure rfl (s_pick (vb rfl (decide_eq_true (by omega))) rfl ?_)
      refine l_nil ?_
      repeat (with_reducible first | refine c_seq ?_ | refine c_block ?_ | refine c_skip ?_ | refine x_then ?_ | refine x_block ?_)
      refine c_no rfl (decide_eq_false (by omega)) ?_
      repeat (with_reducible first | refine c_seq ?_ | refine c_block ?_ | refine c_skip ?_ | refine x_then ?_ | refine x_block ?_)
      refine c_exit ?_
      repeat (with_reducible first | refine x_then_exit ?_ | refine x_block_exit ?_ | refine x_block_pass rfl ?_)
      repeat (with_reducible first | refine c_seq ?_ | refine c_block ?_ | refine c_skip ?_ | refine x_then ?_ | refine x_block ?_)
      obtain rfl : i = 4 := by omega
      repeat (with_reducible first | refine c_seq ?_ | refine c_block ?_ | refine c_skip ?_ | refine x_then ?_ | refine x_block ?_)
      refine c_reg ?_
      refine l_pure rfl (s_move  h5 ?_)
      refine l_pure rfl (s_asg  rfl ?_)
      refine l_nil ?_
      repeat (with_reducible first | refine c_seq ?_ | refine c_block ?_ | refine c_skip ?_ | refine x_then ?_ | refine x_block ?_)
      refine c_ret ?_
      repeat (with_reducible first | refine x_then_ret ?_ | refine x_block_ret ?_)
      refine r_one rfl rfl ?_
      refine ⟨⟨cvs, ?_, hO.sl (H := LC) (hS.perm List.perm_append_comm) encIt_len, fun j hj => hRd _ _ hS j hj⟩, hS.below⟩
      omega
  · repeat (with_reducible first | refine c_seq ?_ | refine c_block ?_ | refine c_skip ?_ | refine x_then ?_ | refine x_block ?_)
    refine c_reg ?_
    refine l_pure rfl (s_move  h6 ?_)
    refine l_pure rfl (s_move  h0 ?_)
    refine l_pure rfl (s_lenr  rfl (hv.below hS.below) ⟨_, Tryz.underlying22⟩ ?_)
    refine l_pure rfl (s_lss  rfl rfl ?_)
    refine l_pure rfl (s_move  rfl ?_)
    refine l_no (gno_yes 16 (by kernel_rfl) rfl (decide_eq_false (by omega))) ?_
    refine l_no (gno_yes 16 (by kernel_rfl) rfl (decide_eq_false (by omega))) ?_
    refine l_pure rfl (s_pick (vb rfl (decide_eq_false (by omega))) rfl ?_)
    refine l_nil ?_
    repeat (with_reducible first | refine c_seq ?_ | refine c_block ?_ | refine c_skip ?_ | refine x_then ?_ | refine x_block ?_)
    refine c_no rfl (rfl) ?_
    repeat (with_reducible first | refine c_seq ?_ | refine c_block ?_ | refine c_skip ?_ | refine x_then ?_ | refine x_block ?_)
    refine c_exit ?_
    repeat (with_reducible first | refine x_then_exit ?_ | refine x_block_exit ?_ | refine x_block_pass rfl ?_)
    repeat (with_reducible first | refine c_seq ?_ | refine c_block ?_ | refine c_skip ?_ | refine x_then ?_ | refine x_block ?_)
    have e : itemsL l claims i = itemsL l claims 4 := by unfold itemsL; rw [List.take_of_length_le (by omega), List.take_of_length_le (by omega)]
    rw [e] at hO hRd hxl
    repeat (with_reducible first | refine c_seq ?_ | refine c_block ?_ | refine c_skip ?_ | refine x_then ?_ | refine x_block ?_)
    refine c_reg ?_
    refine l_pure rfl (s_move  h5 ?_)
    refine l_pure rfl (s_asg  rfl ?_)
    refine l_nil ?_
    repeat (with_reducible first | refine c_seq ?_ | refine c_block ?_ | refine c_skip ?_ | refine x_then ?_ | refine x_block ?_)
    refine c_ret ?_
    repeat (with_reducible first | refine x_then_ret ?_ | refine x_block_ret ?_)
    refine r_one rfl rfl ?_
    refine ⟨⟨cvs, ?_, hO.sl (H := LC) (hS.perm List.perm_append_comm) encIt_len, fun j hj => hRd _ _ hS j hj⟩, hS.below⟩
    omega
end Go.Proofs.YtmghobajmhdbfaaGreatDoor
namespace Go.Proofs.YtmghobajmhdbfaaGreatDoor
open Go Go.RowKit Go.Sx
def q50 : Rat := ((50 : Int) : Rat)
def q00 : Rat := ((0 : Int) : Rat)
def Q50 : RR := ofQ q50
def Q00 : RR := ofQ q00
theorem toQ_Q50 : toQ Q50 = q50 := toQ_ofQ q50
theorem Lr_Q50 : Lr Q50 = L q50 := Lr_ofQ q50
def c0_ : Ch := ⟨0, 0, false, zRR⟩
def c1_ : Ch := ⟨1, 0, false, zRR⟩
def X2 : List It := [⟨Q50, zRR, [c0_, c1_]⟩, ⟨Q50, zRR, [c0_]⟩]
def O2 : List RR := [Q50, Q50]
def k50 (i : Nat) : Rat := if i < 2 then q50 else 0
def secK (i c : Nat) : Bool := (decide (i = 0) && decide (c ≤ 1)) || (decide (i = 1) && decide (c = 0))
theorem prF_X2 : prF X2 = k50 := by
  have h1 : procQ ⟨Q50, zRR, [c0_, c1_]⟩ = q50 := by
    unfold procQ
    simp only [toQ_Q50, toQ_zRR]
    decide +kernel
  have h2 : procQ ⟨Q50, zRR, [c0_]⟩ = q50 := by
    unfold procQ
    simp only [toQ_Q50, toQ_zRR]
    decide +kernel
  have h3 : procQ zIt = 0 := by
    have e : zIt = ⟨zRR, zRR, []⟩ := rfl
    rw [e]
    unfold procQ
    simp only [toQ_zRR]
    decide +kernel
  funext i
  match i with
  | 0 => exact h1
  | 1 => exact h2
  | n + 2 => exact h3
theorem owF_O2 : owF O2 = k50 := by
  funext i
  match i with
  | 0 => exact toQ_Q50
  | 1 => exact toQ_Q50
  | n + 2 => exact toQ_zRR
theorem sec_X2 (i c : Nat) : secures (X2.getD i zIt) c = secK i c := by
  match i with
  | 0 =>
    show ([c0_, c1_].any fun k => decide (k.claim = (c : Int))) = secK 0 c
    match c with
    | 0 => rfl
    | 1 => rfl
    | c + 2 =>
      have h1 : ¬ c0_.claim = ((c + 2 : Nat) : Int) := by show ¬ (0 : Int) = _; omega
      have h2 : ¬ c1_.claim = ((c + 2 : Nat) : Int) := by show ¬ (1 : Int) = _; omega
      have h3 : secK 0 (c + 2) = false := by unfold secK; rw [decide_eq_false (show ¬ c + 2 ≤ 1 by omega), decide_eq_false (show ¬ c + 2 = 0 by omega), Bool.and_false, Bool.and_false]; rfl
      rw [h3, List.any_cons, List.any_cons, decide_eq_false h1, decide_eq_false h2]; rfl
  | 1 =>
    show ([c0_].any fun k => decide (k.claim = (c : Int))) = secK 1 c
    match c with
    | 0 => rfl
    | c + 1 =>
      have h1 : ¬ c0_.claim = ((c + 1 : Nat) : Int) := by show ¬ (0 : Int) = _; omega
      have h3 : secK 1 (c + 1) = false := by unfold secK; rw [decide_eq_false (show ¬ (1 : Nat) = 0 by omega), decide_eq_false (show ¬ c + 1 = 0 by omega), Bool.and_false]; rfl
      rw [h3, List.any_cons, decide_eq_false h1]; rfl
  | i + 2 =>
    show false = _
    simp [secK]
def capK (k cut : Nat) : Rat := sumIf 2 (fun i => cut.testBit i) k50 + sumIf 2 (fun c => decide (c < k) && ((List.range 2).any fun i => !cut.testBit i && secK i c)) k50
theorem capF_X2 (k : Nat) : capF X2 O2 (fun i => decide (i < k)) = capK k := by
  funext cut
  unfold capF outs capK
  rw [prF_X2, owF_O2]
  simp only [sec_X2]
  rfl
theorem preQ_X2 (k : Nat) (hk : k ≠ 0) : preQ X2 O2 k = mins (capK k) 4 := by
  unfold preQ capQ
  rw [if_neg hk, capF_X2]
  rfl
theorem check_X2 : checkE X2 O2 = 0 := by
  have h : ¬ q50 < 0 := by decide +kernel
  have hl1 : ¬ c0_.lim = true := by decide
  have hl2 : ¬ c1_.lim = true := by decide
  have e1 : chErr 2 c0_ = 0 := by
    unfold chErr
    rw [if_neg (by show ¬ ((0 : Int) < 0 ∨ (2 : Int) ≤ 0); omega), if_neg (fun g => hl1 g.1)]
  have e2 : chErr 2 c1_ = 0 := by
    unfold chErr
    rw [if_neg (by show ¬ ((1 : Int) < 0 ∨ (2 : Int) ≤ 1); omega), if_neg (fun g => hl2 g.1)]
  have i1 : itErr 2 ⟨Q50, zRR, [c0_, c1_]⟩ = 0 := by
    unfold itErr
    rw [if_neg (by show ¬ 8 < 2; omega), if_neg]
    · simp [firstE, e1, e2]
    · rw [toQ_Q50, toQ_zRR]
      rintro (g | g)
      · exact h g
      · exact absurd g (by decide +kernel)
  have i2 : itErr 2 ⟨Q50, zRR, [c0_]⟩ = 0 := by
    unfold itErr
    rw [if_neg (by show ¬ 8 < 1; omega), if_neg]
    · simp [firstE, e1]
    · rw [toQ_Q50, toQ_zRR]
      rintro (g | g)
      · exact h g
      · exact absurd g (by decide +kernel)
  unfold checkE
  rw [if_neg (by show ¬ (8 < 2 ∨ 24 < 2); omega), if_neg]
  · show firstE (itErr 2) X2 = 0
    simp [X2, firstE, i1, i2]
  · unfold negs O2
    simp [toQ_Q50, h]
theorem tot_X2 : totL X2 O2 = [Q50, Q50] := by
  unfold totL
  rw [if_pos check_X2]
  have h1 : preQ X2 O2 1 - preQ X2 O2 0 = q50 := by
    rw [preQ_X2 1 (by decide)]
    show mins (capK 1) 4 - 0 = q50
    decide +kernel
  have h2 : preQ X2 O2 2 - preQ X2 O2 1 = q50 := by
    rw [preQ_X2 1 (by decide), preQ_X2 2 (by decide)]
    decide +kernel
  show [ofQ (preQ X2 O2 1 - preQ X2 O2 0), ofQ (preQ X2 O2 2 - preQ X2 O2 1)] = _
  rw [h1, h2]; rfl
def gstZ (s : GS) (c i : Nat) : GS :=
  if secK i c = true then
    ⟨fun k => if k = c then s.out c + minQ (k50 c - s.out c) (s.p i) else s.out k, fun k => if k = i then s.p i - minQ (k50 c - s.out c) (s.p i) else s.p k⟩
  else s
theorem gst_X2 (s : GS) (c i : Nat) : gst X2 O2 s c i = gstZ s c i := by
  unfold gst gstZ pay
  rw [sec_X2, owF_O2]
def growZ (c : Nat) (s : GS) : Nat → GS
  | 0 => s
  | i + 1 => gstZ (growZ c s i) c i
theorem grow_X2 (c : Nat) (s : GS) (i : Nat) : grow X2 O2 c s i = growZ c s i := by
  induction i with
  | zero => rfl
  | succ i ih => show gst X2 O2 (grow X2 O2 c s i) c i = _; rw [ih, gst_X2]; rfl
def gallZ : Nat → GS
  | 0 => ⟨fun _ => 0, k50⟩
  | c + 1 => growZ c (gallZ c) 2
theorem gall_X2 (c : Nat) : gall X2 O2 c = gallZ c := by
  induction c with
  | zero => show GS.mk _ (prF X2) = _; rw [prF_X2]; rfl
  | succ c ih => show grow X2 O2 c (gall X2 O2 c) 2 = _; rw [ih, grow_X2]; rfl
theorem gre_X2 : gL X2 O2 = [Q50, Q00] := by
  unfold gL
  rw [if_pos check_X2]
  show [ofQ ((gall X2 O2 2).out 0), ofQ ((gall X2 O2 2).out 1)] = _
  rw [gall_X2]
  have h1 : (gallZ 2).out 0 = q50 := by decide +kernel
  have h2 : (gallZ 2).out 1 = q00 := by decide +kernel
  rw [h1, h2]; rfl
theorem its_B : ItB 1 X2 ∧ RB 1 O2 := by
  have h : L q50 ≤ 1 := L_small (n := 50) (by decide)
  have h2 := Lr_zRR
  constructor
  · intro x hx
    rcases List.mem_cons.1 hx with rfl | hx
    · refine ⟨by show Lr (Q50) ≤ 1; rw [Lr_Q50]; exact h, by show Lr zRR ≤ 1; omega, fun c hc => ?_⟩
      rcases List.mem_cons.1 hc with rfl | hc
      · show Lr zRR ≤ 1; omega
      · rw [List.mem_singleton.1 hc]; show Lr zRR ≤ 1; omega
    · rw [List.mem_singleton.1 hx]
      refine ⟨by show Lr (Q50) ≤ 1; rw [Lr_Q50]; exact h, by show Lr zRR ≤ 1; omega, fun c hc => ?_⟩
      rw [List.mem_singleton.1 hc]; show Lr zRR ≤ 1; omega
  · intro r hr
    have : r = Q50 := by
      rcases List.mem_cons.1 hr with g | g
      · exact g
      · exact List.mem_singleton.1 g
    rw [this, Lr_Q50]; exact h
end Go.Proofs.YtmghobajmhdbfaaGreatDoor
namespace Go.Sx
open Go Go.RowKit
section
variable {P : Program} {ops : Array Oper}
def maskOr (M : List Nat) : List Edge → Nat
  | [] => 0
  | e :: l => bif Region.binds .any e then (2 ^ e.on ||| M.getD e.on 0) ||| maskOr M l else maskOr M l
def lowEdges (i : Nat) : List Edge → Bool
  | [] => true
  | e :: l => (!Region.binds .any e || Nat.blt e.on i) && lowEdges i l
def masksOk (M : List Nat) : List Oper → Nat → Bool
  | [], _ => true
  | o :: l, i => lowEdges i o.after.toList && Nat.beq (M.getD i 0) (maskOr M o.after.toList) && masksOk M l (i + 1)
theorem tdep_succ : ∀ n i h, tdep ops n i h = true → tdep ops (n + 1) i h = true
  | 0, i, h, ht => by cases ht
  | n + 1, i, h, ht => by
    unfold tdep at ht ⊢
    cases ho : ops[i]? with
    | none => rw [ho] at ht; cases ht
    | some o =>
      rw [ho] at ht
      simp only [Array.any_eq_true', Bool.and_eq_true, Bool.or_eq_true] at ht ⊢
      obtain ⟨e, he, hb, h1⟩ := ht
      exact ⟨e, he, hb, h1.imp id (tdep_succ n e.on h)⟩
theorem tdep_mono {n m i h : Nat} (hnm : n ≤ m) (ht : tdep ops n i h = true) : tdep ops m i h = true := by
  induction hnm with
  | refl => exact ht
  | step _ ih => exact tdep_succ _ _ _ ih
theorem maskOr_bit {M : List Nat} {h : Nat} : ∀ {l : List Edge}, (maskOr M l).testBit h = true → ∃ e ∈ l, Region.binds .any e = true ∧ (e.on = h ∨ (M.getD e.on 0).testBit h = true)
  | [], hb => by simp [maskOr] at hb
  | e :: l, hb => by
    unfold maskOr at hb
    cases hbi : Region.binds .any e with
    | false =>
      rw [hbi] at hb
      obtain ⟨e', he', h'⟩ := maskOr_bit hb
      exact ⟨e', List.mem_cons_of_mem _ he', h'⟩
    | true =>
      rw [hbi] at hb
      simp only [cond_true, Nat.testBit_or, Bool.or_eq_true] at hb
      rcases hb with (hb | hb) | hb
      · rw [Nat.testBit_two_pow] at hb
        exact ⟨e, List.mem_cons_self .., hbi, .inl (of_decide_eq_true hb)⟩
      · exact ⟨e, List.mem_cons_self .., hbi, .inr hb⟩
      · obtain ⟨e', he', h'⟩ := maskOr_bit hb
        exact ⟨e', List.mem_cons_of_mem _ he', h'⟩
theorem lowEdges_lt {i : Nat} : ∀ {l : List Edge}, lowEdges i l = true → ∀ e ∈ l, Region.binds .any e = true → e.on < i
  | [], _, e, he, _ => by cases he
  | x :: l, h, e, he, hb => by
    simp only [lowEdges, Bool.and_eq_true, Bool.or_eq_true] at h
    rcases List.mem_cons.1 he with rfl | he
    · rcases h.1 with q | q
      · rw [hb] at q; cases q
      · rwa [Nat.blt_eq] at q
    · exact lowEdges_lt h.2 e he hb
theorem masksOk_at {M : List Nat} : ∀ {l : List Oper} {k : Nat}, masksOk M l k = true → ∀ j o, l[j]? = some o → lowEdges (k + j) o.after.toList = true ∧ M.getD (k + j) 0 = maskOr M o.after.toList
  | [], k, _, j, o, ho => by simp at ho
  | x :: l, k, h, j, o, ho => by
    simp only [masksOk, Bool.and_eq_true] at h
    cases j with
    | zero =>
      simp only [List.getElem?_cons_zero, Option.some.injEq] at ho
      subst ho
      exact ⟨h.1.1, Nat.eq_of_beq_eq_true h.1.2⟩
    | succ j =>
      have := masksOk_at h.2 j o (by simpa using ho)
      rw [show k + (j + 1) = k + 1 + j by omega]
      exact this
theorem masks_sound {l : List Oper} {M : List Nat} (hM : masksOk M l 0 = true) (hML : M.length = l.length) : ∀ i h, (M.getD i 0).testBit h = true → tdep l.toArray (i + 1) i h = true := by
  intro i
  induction i using Nat.strongRecOn with
  | _ i ih =>
    intro h hb
    have hil : i < l.length := by
      rcases Nat.lt_or_ge i l.length with q | q
      · exact q
      · rw [List.getD_eq_getElem?_getD, List.getElem?_eq_none (by omega)] at hb
        simp at hb
    have ho : l[i]? = some l[i] := List.getElem?_eq_getElem hil
    have hat := masksOk_at hM i _ ho
    rw [Nat.zero_add] at hat
    rw [hat.2] at hb
    obtain ⟨e, he, hbi, h1⟩ := maskOr_bit hb
    have hlt := lowEdges_lt hat.1 e he hbi
    unfold tdep
    rw [List.getElem?_toArray, ho]
    simp only [Array.any_eq_true', Bool.and_eq_true, Bool.or_eq_true]
    refine ⟨e, by simpa using he, hbi, ?_⟩
    rcases h1 with q | q
    · exact .inl (by rw [q]; exact Nat.beq_refl h)
    · exact .inr (tdep_mono (by omega) (ih e.on hlt h q))
def pairsOkM (ops : Array Oper) (M : List Nat) : List (Nat × Md) → Bool
  | [] => true
  | i :: σ => (σ.all fun j => !Nat.beq i.1 j.1 && ((M.getD j.1 0).testBit i.1 || swapOk ops i j)) && pairsOkM ops M σ
theorem pairsOk_of_M {l : List Oper} {M : List Nat} (hM : masksOk M l 0 = true) (hML : M.length = l.length) : ∀ {σ : List (Nat × Md)}, (∀ x ∈ σ, x.1 < l.length) → pairsOkM l.toArray M σ = true → pairsOk l.toArray l.length σ = true
  | [], _, _ => rfl
  | i :: σ, hlt, h => by
    simp only [pairsOkM, Bool.and_eq_true, List.all_eq_true, Bool.or_eq_true] at h
    simp only [pairsOk, Bool.and_eq_true, List.all_eq_true, Bool.or_eq_true]
    refine ⟨fun j hj => ⟨(h.1 j hj).1, (h.1 j hj).2.imp (fun q => ?_) id⟩, pairsOk_of_M hM hML (fun x hx => hlt x (List.mem_cons_of_mem _ hx)) h.2⟩
    have := hlt j (List.mem_cons_of_mem _ hj)
    exact tdep_mono (by omega) (masks_sound hM hML _ _ q)
def drawOkM (l : List Oper) (M : List Nat) (σ : List (Nat × Md)) : Bool :=
  Nat.ble σ.length l.length && (List.range l.length).all (fun i => σ.any fun x => Nat.beq x.1 i) && σ.all (fun x => Nat.blt x.1 l.length) && (Nat.beq M.length l.length && masksOk M l 0 && pairsOkM l.toArray M σ) && topoOk l.toArray σ &&
  l.all fun o => match o.op with | .select .. => false | _ => true
theorem drawOk_of_M {l : List Oper} {M : List Nat} {σ : List (Nat × Md)} (h : drawOkM l M σ = true) : drawOk l.toArray σ = true := by
  simp only [drawOkM, Bool.and_eq_true] at h
  obtain ⟨⟨⟨⟨⟨h1, h2⟩, h3⟩, ⟨⟨h4, h5⟩, h6⟩⟩, h7⟩, h8⟩ := h
  have hs : l.toArray.size = l.length := by simp
  simp only [drawOk, Bool.and_eq_true, hs]
  refine ⟨⟨⟨⟨⟨h1, h2⟩, h3⟩, pairsOk_of_M h5 (Nat.eq_of_beq_eq_true h4) (fun x hx => ?_) h6⟩, h7⟩, ?_⟩
  · have := List.all_eq_true.1 h3 x hx
    rwa [Nat.blt_eq] at this
  · rw [← hs, Array.all_eq_true']
    intro x hx
    have hx := List.all_eq_true.1 h8 x (by simpa using hx)
    cases hop : x.op <;> first | rfl | (rw [hop] at hx; cases hx)
end
section
variable {P : Program} {N : Nat} {ρ : Nat → Value} {w0 w : World} {Q : Exit → Act → World → Prop} {H : List Blk}
theorem c_forget {C : Code} {ρ : Nat → Value} {w : World} (M : (Nat → Value) → Prop) (h0 : M ρ) (h : ∀ ρ, M ρ → C.wp P Q (act N ρ) w) : C.wp P Q (act N ρ) w := h ρ h0
theorem c_drawM {id : Nat} {l : List Oper} (M : List Nat) (σ : List (Nat × Md)) (hm : P.follows .mixedOrders = true) (hchk : drawOkM l M σ = true) (hS : St w0 w H)
    (h : ∀ w', St w0 w' H → Below w.heap.size w w' → Wr P l.toArray (Q .normal) σ N ρ w') : (Code.region id l.toArray true).wp P Q (act N ρ) w :=
  c_draw σ hm (drawOk_of_M hchk) hS h
end
end Go.Sx
namespace Go.Proofs.YtmghobajmhdbfaaGreatDoor
open Go Go.RowKit Go.Sx
theorem built_It2 (p : RR) (a : Option Addr) (n c : Nat) : Tryz.prog.built 41 [(0, aggR p), (2, .slice a n c)] = some #[.bool p.neg, .string p.num, .string p.den, .bool false, .string ⟨#[]⟩, .string ⟨#[]⟩, .slice a n c] := by kernel_rfl
theorem built_Ch1 (a : Int) : Tryz.prog.built 62 [(0, .int .i64 a)] = some #[.int .i64 a, .int .i64 0, .bool false, .bool false, .string ⟨#[]⟩, .string ⟨#[]⟩] := by kernel_rfl
theorem its_X2 {w0 w : World} {H : List Blk} {T T2 : TypeId} {bi b0 b1 : Nat} (hS : St w0 w ((bi, T, (X2.zip [.slice (some ⟨b0, 0, none⟩) 2 2, .slice (some ⟨b1, 0, none⟩) 1 1]).flatMap encIt) :: (b1, T2, [c0_].flatMap encCh) :: (b0, T2, [c0_, c1_].flatMap encCh) :: H)) :
    Its w (.slice (some ⟨bi, 0, none⟩) 2 2) X2 [.slice (some ⟨b0, 0, none⟩) 2 2, .slice (some ⟨b1, 0, none⟩) 1 1] := by
  have h2 : Sl encCh 6 w (.slice (some ⟨b0, 0, none⟩) 2 2) [c0_, c1_] := hS.sle (k := 2) (L := [c0_, c1_]) (n := 2) (cap := 2) rfl encCh_len (Nat.le_refl _) (Nat.le_refl _) (by decide)
  have h1 : Sl encCh 6 w (.slice (some ⟨b1, 0, none⟩) 1 1) [c0_] := hS.sle (k := 1) (L := [c0_]) (n := 1) (cap := 1) rfl encCh_len (Nat.le_refl _) (Nat.le_refl _) (by decide)
  refine ⟨rfl, hS.sle (k := 0) (L := X2.zip [.slice (some ⟨b0, 0, none⟩) 2 2, .slice (some ⟨b1, 0, none⟩) 1 1]) (n := 2) (cap := 2) rfl encIt_len (Nat.le_refl _) (Nat.le_refl _) (by decide), fun i hi => ?_⟩
  match i, hi with
  | 0, _ => exact h2
  | 1, _ => exact h1
  | n + 2, h => exact absurd h (by show ¬ n + 2 < 2; omega)
theorem int50_ok (w : World) : Ret Tryz.prog 38 #[.int .i64 50] w fun v w' => v = aggR Q50 ∧ Below w.heap.size w w' := QInt_ok 50 w (by decide) (by decide)
theorem int00_ok (w : World) : Ret Tryz.prog 38 #[.int .i64 0] w fun v w' => v = aggR Q00 ∧ Below w.heap.size w w' := QInt_ok 0 w (by decide) (by decide)
set_option maxHeartbeats 1000000 in
theorem awake_ok (w : World) (hT : At w ⟨2, 0, none⟩ (Kr .u8 tzTab)) :
    Ret Tryz.prog 15 #[] w fun v w' => v = .bool true ∧ Below w.heap.size w w' := by
  have hM : MX = 1099511627776 := rfl
  have hS := St.init w
  refine enter Tryz.func15 rfl Tryz.ntmps15 rfl ?_
  repeat (with_reducible first | refine c_seq ?_ | refine c_block ?_ | refine c_skip ?_ | refine x_then ?_ | refine x_block ?_)
  refine c_reg ?_
  refine l_pure rfl (s_asg  rfl ?_)
  refine l_nil ?_
  repeat (with_reducible first | refine c_seq ?_ | refine c_block ?_ | refine c_skip ?_ | refine x_then ?_ | refine x_block ?_)
  refine c_reg ?_
  refine l_heavy rfl (s_call Tryz.call38 rfl (int50_ok _) ?_)
  rintro r wa ⟨rfl, hBa⟩
  replace hS := hS.grow hBa
  refine l_pure rfl (s_build  rfl (built_Ch1 _) ?_)
  refine l_pure rfl (s_build  rfl (built_Ch1 _) ?_)
  refine l_heavy rfl (s_bsl (vs := [.agg (encCh c0_).toArray, .agg (encCh c1_).toArray])  rfl si_39 rfl (by decide) (by decide) (by decide) (by simp [Value.cells, encCh]) rfl hS ?_)
  intro b10 wz1 hS hBz1
  refine l_pure rfl (s_build  rfl (built_It2 _ _ _ _) ?_)
  refine l_heavy rfl (s_call Tryz.call38 rfl (int50_ok _) ?_)
  rintro r wb ⟨rfl, hBb⟩
  replace hS := hS.grow hBb
  refine l_pure rfl (s_build  rfl (built_Ch1 _) ?_)
  refine l_heavy rfl (s_bsl (vs := [.agg (encCh c0_).toArray])  rfl si_39 rfl (by decide) (by decide) (by decide) (by simp [Value.cells, encCh]) rfl hS ?_)
  intro b14 wz2 hS hBz2
  refine l_pure rfl (s_build  rfl (built_It2 _ _ _ _) ?_)
  refine l_heavy rfl (s_bsl (vs := [aggIt ⟨Q50, zRR, [c0_, c1_]⟩ (.slice (some ⟨b10, 0, none⟩) 2 2), aggIt ⟨Q50, zRR, [c0_]⟩ (.slice (some ⟨b14, 0, none⟩) 1 1)])  rfl si_26 rfl (by decide) (by decide) (by decide) (by simp [Value.cells, aggIt]) rfl hS ?_)
  intro b16 wz3 hS hBz3
  refine l_pure rfl (s_asg  rfl ?_)
  refine l_nil ?_
  repeat (with_reducible first | refine c_seq ?_ | refine c_block ?_ | refine c_skip ?_ | refine x_then ?_ | refine x_block ?_)
  replace hS : St w _ [(b16, 41, (X2.zip [.slice (some ⟨b10, 0, none⟩) 2 2, .slice (some ⟨b14, 0, none⟩) 1 1]).flatMap encIt), (b14, 62, [c0_].flatMap encCh), (b10, 62, [c0_, c1_].flatMap encCh)] := hS
  repeat (with_reducible first | refine c_seq ?_ | refine c_block ?_ | refine c_skip ?_ | refine x_then ?_ | refine x_block ?_)
  refine c_reg ?_
  refine l_heavy rfl (s_call Tryz.call38 rfl (int50_ok _) ?_)
  rintro r wc ⟨rfl, hBc⟩
  replace hS := hS.grow hBc
  refine l_heavy rfl (s_call Tryz.call38 rfl (int50_ok _) ?_)
  rintro r wd ⟨rfl, hBd⟩
  replace hS := hS.grow hBd
  refine l_heavy rfl (s_bsl (vs := [aggR (Q50), aggR (Q50)])  rfl si_24 rfl (by decide) (by decide) (by decide) (by simp [Value.cells, aggR]) rfl hS ?_)
  intro b19 wz4 hS hBz4
  refine l_pure rfl (s_asg  rfl ?_)
  refine l_nil ?_
  repeat (with_reducible first | refine c_seq ?_ | refine c_block ?_ | refine c_skip ?_ | refine x_then ?_ | refine x_block ?_)
  replace hS : St w _ ((b19, 36, O2.flatMap encR) :: [(b16, 41, (X2.zip [.slice (some ⟨b10, 0, none⟩) 2 2, .slice (some ⟨b14, 0, none⟩) 1 1]).flatMap encIt), (b14, 62, [c0_].flatMap encCh), (b10, 62, [c0_, c1_].flatMap encCh)]) := hS
  have hI := its_X2 (hS.drop (List.sublist_cons_self _ _))
  have hO : Sl encR 3 _ (.slice (some ⟨b19, 0, none⟩) 2 2) O2 := hS.sle (k := 0) (L := O2) (n := 2) (cap := 2) rfl encR_len (Nat.le_refl _) (Nat.le_refl _) (by decide)
  repeat (with_reducible first | refine c_seq ?_ | refine c_block ?_ | refine c_skip ?_ | refine x_then ?_ | refine x_block ?_)
  refine c_reg ?_
  refine l_pure rfl (s_move  rfl ?_)
  refine l_pure rfl (s_move  rfl ?_)
  refine l_heavy rfl (s_call Tryz.call8 rfl (Totals_ok _ _ X2 _ O2 1 _ hI hO its_B.1 its_B.2 (by rw [hM]; decide) (hT.below hS.below)) ?_)
  rintro r w3 ⟨⟨vt, rfl, hv1⟩, hB3⟩
  rw [tot_X2] at hv1
  rw [check_X2]
  replace hS := hS.grow hB3
  refine l_pure rfl (s_move  rfl ?_)
  refine l_pure rfl (s_ext  rfl rfl ?_)
  refine l_pure rfl (s_ext  rfl rfl ?_)
  refine l_pure rfl (s_asg  rfl ?_)
  refine l_pure rfl (s_asg  rfl ?_)
  refine l_nil ?_
  repeat (with_reducible first | refine c_seq ?_ | refine c_block ?_ | refine c_skip ?_ | refine x_then ?_ | refine x_block ?_)
  refine c_reg ?_
  refine l_pure rfl (s_move  rfl ?_)
  refine l_pure rfl (s_move  rfl ?_)
  refine l_heavy rfl (s_call Tryz.call20 rfl (Greedy_ok _ _ X2 _ O2 1 _ (hI.below hB3) (hO.below hB3) its_B.1 its_B.2 (by rw [hM]; decide)) ?_)
  rintro r w4 ⟨⟨vg, rfl, hv2⟩, hB4⟩
  rw [gre_X2] at hv2
  rw [check_X2]
  replace hS := hS.grow hB4
  have hv3 := hv1.below hB4
  have hW := hS.below
  clear hv1 hI hO
  replace hS := St.init w4
  refine l_pure rfl (s_move  rfl ?_)
  refine l_pure rfl (s_ext  rfl rfl ?_)
  refine l_pure rfl (s_ext  rfl rfl ?_)
  refine l_pure rfl (s_asg  rfl ?_)
  refine l_pure rfl (s_asg  rfl ?_)
  refine l_nil ?_
  repeat (with_reducible first | refine c_seq ?_ | refine c_block ?_ | refine c_skip ?_ | refine x_then ?_ | refine x_block ?_)
  refine c_drawM [0, 1, 3, 7, 15, 31, 63, 127, 255, 511, 1023, 255, 4095, 8191, 16383, 32767, 65535, 131071, 32767, 524287, 1048575, 2097151, 4194303, 8388607, 16777215, 33554431, 67108863, 134217727, 268435455, 536870911, 1073741823, 2147483647, 4294967295, 8589934591, 2147483647, 34359738367, 68719476735, 137438953471, 274877906943, 549755813887, 1099511627775, 274877906943, 4398046511103, 8796093022207, 17592186044415] [(0, .pure), (1, .pure), (2, .pure), (3, .pure), (4, .pure), (5, .pure), (6, .pure), (7, .pure), (8, .pure), (9, .pure), (10, .read), (11, .grow), (12, .pure), (13, .pure), (14, .pure), (15, .pure), (16, .pure), (17, .read), (18, .grow), (19, .pure), (20, .pure), (21, .pure), (22, .pure), (23, .pure), (24, .pure), (25, .pure), (26, .pure), (27, .pure), (28, .pure), (29, .pure), (30, .pure), (31, .pure), (32, .pure), (33, .read), (34, .grow), (35, .pure), (36, .pure), (37, .pure), (38, .pure), (39, .pure), (40, .read), (41, .grow), (42, .pure), (43, .pure), (44, .pure)] (by kernel_rfl) (by kernel_rfl) hS ?_
  intro wz5 hS hBz5
  refine w_pure rfl rfl (s_move  rfl ?_)
  refine w_pure rfl rfl (s_eql  rfl rfl ?_)
  refine w_pure rfl rfl (s_move  rfl ?_)
  refine w_pure rfl (gd_yes 34 (by kernel_rfl) rfl rfl) (s_move  rfl ?_)
  refine w_pure rfl (gd_yes 34 (by kernel_rfl) rfl rfl) (s_lenr  rfl (hv3.below hS.below) ⟨_, Tryz.underlying24⟩ ?_)
  refine w_pure rfl (gd_yes 34 (by kernel_rfl) rfl rfl) (s_eql  rfl rfl ?_)
  refine w_pure rfl rfl (s_pick (vb rfl rfl) rfl ?_)
  refine w_pure rfl rfl (s_move  rfl ?_)
  refine w_pure rfl (gd_yes 39 (by kernel_rfl) rfl rfl) (s_move  rfl ?_)
  refine w_pure rfl (gd_yes 39 (by kernel_rfl) rfl rfl) (s_ixr (i := 0)  rfl rfl (hv3.below hS.below) (by omega) (by first | omega | (simp; done) | (simp; omega)) si_24 ?_)
  refine w_read rfl (gd_yes 39 (by kernel_rfl) rfl rfl) (s_lde (i := 0) zRR  rfl vi_36 (hv3.below hS.below) (by first | omega | (simp; done) | (simp; omega)) rfl rfl (.inl rfl) ?_)
  refine w_grow rfl (gd_yes 39 (by kernel_rfl) rfl rfl) (s_call Tryz.call38 rfl (int50_ok _) ?_)
  rintro r we0 ⟨rfl, hBe0⟩
  refine ⟨hBe0, ?_⟩
  replace hS := hS.grow hBe0
  refine w_pure rfl (gd_yes 39 (by kernel_rfl) rfl rfl) (s_eqR  rfl rfl ?_)
  refine w_pure rfl rfl (s_pick (vb rfl rfl) rfl ?_)
  refine w_pure rfl rfl (s_move  rfl ?_)
  refine w_pure rfl (gd_yes 46 (by kernel_rfl) rfl (decide_eq_true rfl)) (s_move  rfl ?_)
  refine w_pure rfl (gd_yes 46 (by kernel_rfl) rfl (decide_eq_true rfl)) (s_ixr (i := 1)  rfl rfl (hv3.below hS.below) (by omega) (by first | omega | (simp; done) | (simp; omega)) si_24 ?_)
  refine w_read rfl (gd_yes 46 (by kernel_rfl) rfl (decide_eq_true rfl)) (s_lde (i := 1) zRR  rfl vi_36 (hv3.below hS.below) (by first | omega | (simp; done) | (simp; omega)) rfl rfl (.inl rfl) ?_)
  refine w_grow rfl (gd_yes 46 (by kernel_rfl) rfl (decide_eq_true rfl)) (s_call Tryz.call38 rfl (int50_ok _) ?_)
  rintro r we1 ⟨rfl, hBe1⟩
  refine ⟨hBe1, ?_⟩
  replace hS := hS.grow hBe1
  refine w_pure rfl (gd_yes 46 (by kernel_rfl) rfl (decide_eq_true rfl)) (s_eqR  rfl rfl ?_)
  refine w_pure rfl rfl (s_pick (vb rfl (decide_eq_true rfl)) rfl ?_)
  refine w_pure rfl rfl (s_move  rfl ?_)
  refine w_pure rfl (gd_yes 53 (by kernel_rfl) rfl (decide_eq_true rfl)) (s_move  rfl ?_)
  refine w_pure rfl (gd_yes 53 (by kernel_rfl) rfl (decide_eq_true rfl)) (s_eql  rfl rfl ?_)
  refine w_pure rfl rfl (s_pick (vb rfl (decide_eq_true rfl)) rfl ?_)
  refine w_pure rfl rfl (s_move  rfl ?_)
  refine w_pure rfl (gd_yes 57 (by kernel_rfl) rfl rfl) (s_move  rfl ?_)
  refine w_pure rfl (gd_yes 57 (by kernel_rfl) rfl rfl) (s_lenr  rfl (hv2.below hS.below) ⟨_, Tryz.underlying24⟩ ?_)
  refine w_pure rfl (gd_yes 57 (by kernel_rfl) rfl rfl) (s_eql  rfl rfl ?_)
  refine w_pure rfl rfl (s_pick (vb rfl rfl) rfl ?_)
  refine w_pure rfl rfl (s_move  rfl ?_)
  refine w_pure rfl (gd_yes 62 (by kernel_rfl) rfl rfl) (s_move  rfl ?_)
  refine w_pure rfl (gd_yes 62 (by kernel_rfl) rfl rfl) (s_ixr (i := 0)  rfl rfl (hv2.below hS.below) (by omega) (by first | omega | (simp; done) | (simp; omega)) si_24 ?_)
  refine w_read rfl (gd_yes 62 (by kernel_rfl) rfl rfl) (s_lde (i := 0) zRR  rfl vi_36 (hv2.below hS.below) (by first | omega | (simp; done) | (simp; omega)) rfl rfl (.inl rfl) ?_)
  refine w_grow rfl (gd_yes 62 (by kernel_rfl) rfl rfl) (s_call Tryz.call38 rfl (int50_ok _) ?_)
  rintro r we2 ⟨rfl, hBe2⟩
  refine ⟨hBe2, ?_⟩
  replace hS := hS.grow hBe2
  refine w_pure rfl (gd_yes 62 (by kernel_rfl) rfl rfl) (s_eqR  rfl rfl ?_)
  refine w_pure rfl rfl (s_pick (vb rfl rfl) rfl ?_)
  refine w_pure rfl rfl (s_move  rfl ?_)
  refine w_pure rfl (gd_yes 69 (by kernel_rfl) rfl (decide_eq_true rfl)) (s_move  rfl ?_)
  refine w_pure rfl (gd_yes 69 (by kernel_rfl) rfl (decide_eq_true rfl)) (s_ixr (i := 1)  rfl rfl (hv2.below hS.below) (by omega) (by first | omega | (simp; done) | (simp; omega)) si_24 ?_)
  refine w_read rfl (gd_yes 69 (by kernel_rfl) rfl (decide_eq_true rfl)) (s_lde (i := 1) zRR  rfl vi_36 (hv2.below hS.below) (by first | omega | (simp; done) | (simp; omega)) rfl rfl (.inl rfl) ?_)
  refine w_grow rfl (gd_yes 69 (by kernel_rfl) rfl (decide_eq_true rfl)) (s_call Tryz.call38 rfl (int00_ok _) ?_)
  rintro r we3 ⟨rfl, hBe3⟩
  refine ⟨hBe3, ?_⟩
  replace hS := hS.grow hBe3
  refine w_pure rfl (gd_yes 69 (by kernel_rfl) rfl (decide_eq_true rfl)) (s_eqR  rfl rfl ?_)
  refine w_pure rfl rfl (s_pick (vb rfl (decide_eq_true rfl)) rfl ?_)
  refine w_pure rfl rfl (s_asg  rfl ?_)
  refine w_end ?_
  repeat (with_reducible first | refine c_seq ?_ | refine c_block ?_ | refine c_skip ?_ | refine x_then ?_ | refine x_block ?_)
  refine c_ret ?_
  repeat (with_reducible first | refine x_then_ret ?_ | refine x_block_ret ?_)
  refine r_one rfl rfl ?_
  exact ⟨vb rfl (decide_eq_true rfl), bt hW hS.below⟩
end Go.Proofs.YtmghobajmhdbfaaGreatDoor
namespace Go.Proofs.YtmghobajmhdbfaaGreatDoor
open Go Go.RowKit Go.Sx
theorem toQ_nat {n : Nat} : ¬ toQ (ofQ ((n : Int) : Rat)) < 0 := by
  rw [toQ_ofQ]
  exact Rat.not_lt.2 (Rat.intCast_nonneg.2 (Int.natCast_nonneg _))
theorem toQ_amR {x : Nat} : ¬ toQ (amR x) < 0 := by
  unfold amR
  rw [toQ_ofQ]
  exact Rat.not_lt.2 (amtQ_nonneg x)
theorem chs_mem {m : Nat} {x : Nat → Nat} {k : Nat} {c : Ch} (h : c ∈ chs m x k) : m ≠ 0 ∧ ∃ y, c = chOf m y := by
  unfold chs at h
  split at h
  · cases h
  · next hm =>
    obtain ⟨j, _, rfl⟩ := List.mem_map.1 h
    exact ⟨hm, _, rfl⟩
theorem Lr_chOf (m y : Nat) : Lr (chOf m y).limit ≤ 1 := by
  unfold chOf
  simp only
  split
  · rw [Lr_ofQ]; exact L_small (by omega)
  · rw [Lr_zRR]; exact Nat.le_refl _
theorem chErr_of {m y : Nat} (hm : m ≠ 0) : chErr m (chOf m y) = 0 := by
  unfold chErr
  have h1 : ¬ ((chOf m y).claim < 0 ∨ (m : Int) ≤ (chOf m y).claim) := by
    show ¬ (((y / 4 % m : Nat) : Int) < 0 ∨ (m : Int) ≤ ((y / 4 % m : Nat) : Int))
    have := Nat.mod_lt (y / 4) (Nat.pos_of_ne_zero hm)
    omega
  have h2 : ¬ ((chOf m y).lim = true ∧ toQ (chOf m y).limit < 0) := by
    rintro ⟨h, g⟩
    have hy : y % 4 = 1 := of_decide_eq_true h
    unfold chOf at g
    simp only [if_pos hy] at g
    exact toQ_nat g
  rw [if_neg h1, if_neg h2]
theorem firstE_none {α : Type} {f : α → Int} {l : List α} (h : ∀ x ∈ l, f x = 0) : firstE f l = 0 := by
  induction l with
  | nil => rfl
  | cons x l ih =>
    rw [firstE, if_pos (h x (List.mem_cons_self ..))]
    exact ih fun y hy => h y (List.mem_cons_of_mem _ hy)
theorem items_B (l : List (Nat → Nat)) (m n : Nat) : ItB 1 (itemsL l m n) := by
  intro x hx
  obtain ⟨y, _, rfl⟩ := List.mem_map.1 hx
  refine ⟨?_, ?_, fun c hc => ?_⟩
  · show Lr (amR (y 0)) ≤ 1
    unfold amR
    rw [Lr_ofQ]; exact L_amtQ _
  · show Lr (ofQ (((y 1 % 4 : Nat) : Int) : Rat)) ≤ 1
    rw [Lr_ofQ]; exact L_small (by omega)
  · obtain ⟨_, z, rfl⟩ := chs_mem hc
    exact Lr_chOf m z
theorem items_check (l : List (Nat → Nat)) (a : List Nat) (n k : Nat) (hn : n ≤ 8) (hk : k ≤ 24) : checkE (itemsL l (amts a k).length n) (amts a k) = 0 := by
  have h1 := itemsL_len l (amts a k).length n
  have h2 := amts_len a k
  unfold checkE
  rw [if_neg (by omega), if_neg]
  · refine firstE_none fun x hx => ?_
    obtain ⟨y, _, rfl⟩ := List.mem_map.1 hx
    unfold itErr
    have h3 := chs_len (amts a k).length y 4
    rw [if_neg (by show ¬ 8 < (chs (amts a k).length y 4).length; omega), if_neg]
    · refine firstE_none fun c hc => ?_
      obtain ⟨hm, z, rfl⟩ := chs_mem (show c ∈ chs (amts a k).length y 4 from hc)
      exact chErr_of hm
    · rintro (g | g)
      · exact toQ_amR g
      · exact toQ_nat g
  · rw [negs, List.any_eq_true]
    rintro ⟨r, hr, h⟩
    obtain ⟨y, _, rfl⟩ := List.mem_map.1 hr
    exact toQ_amR (of_decide_eq_true h)
end Go.Proofs.YtmghobajmhdbfaaGreatDoor
namespace Go.Sx
open Go Go.RowKit Go.ChangeShapes Go.WideShapes Go.Proofs.YtmghobajmhdbfaaGreatDoor
section
variable {H : Type} {enc : TypeId × Value → H} {P : Program} {w : World}
theorem add_add (a : Addr) (m n : Nat) : (a.add m).add n = a.add (m + n) := by
  obtain ⟨b, o, s⟩ := a
  unfold Addr.add
  by_cases hn : n = 0
  · subst hn; simp
  · by_cases hm : m = 0
    · subst hm; simp [hn]
    · simp [hn, hm, Nat.add_assoc]
theorem at_one {a : Addr} {u : Value} (h : w.cell? a = some u) : At w a [u] := At.one h
/-- An argument of type []uint16, read as a list of numbers. -/
theorem open_u16s {t e : TypeId} {v : Value} {d : DataW H} {ps : List MemPlace} {b0 : Nat} (ht : P.underlying t = some (.slice e)) (he : P.underlying e = some (.int .u16)) (hc : P.cellsOf e = 1)
    (hval : Value.okWide P w .any b0 t v) (h : DataW.Trod enc P w 0 (fun _ => true) true t v d ps) : ∃ l : List Nat, Sl (uk .u16) 1 w v l ∧ ∀ x ∈ l, x < 65536 := by
  obtain ⟨a0, len0, cap0, rfl⟩ := okWide_slice ht hval
  obtain ⟨fuel, hf⟩ := h
  rcases open_ints ht he hc hf with ⟨h1, _⟩ | ⟨a, len, cap, zs, h1, _, hlc, hm, hz, _, hcell, hw⟩
  · simp only [Value.cells, List.cons.injEq, and_true] at h1
    rw [h1]
    exact ⟨[], Sl.nil _ _ _, fun x hx => by cases hx⟩
  · simp only [Value.cells, List.cons.injEq, and_true] at h1
    rw [h1]
    have hzl : zs.length = cap := by simpa using hz
    have hb : ∀ n ∈ zs, 0 ≤ n ∧ n ≤ 65535 := fun n hn => bounds_u16 (hw n hn)
    have hl : ((zs.take len).map Int.toNat).length = len := by rw [List.length_map, List.length_take]; omega
    refine ⟨(zs.take len).map Int.toNat, ⟨⟨some a, cap, by rw [hl], by rw [hl]; exact hlc, hm, fun q => by cases q⟩, fun i hi => ?_⟩, fun x hx => ?_⟩
    · rw [hl] at hi
      have hi2 : i < zs.length := by omega
      have h2 := hcell i hi2
      have h3 : zs.getD i 0 = zs[i] := by rw [List.getD_eq_getElem?_getD, List.getElem?_eq_getElem hi2]; rfl
      have h4 := hb _ (List.getElem_mem hi2)
      rw [Nat.mul_one]
      refine at_one ?_
      show w.cell? (a.add i) = _
      rw [h2, h3, List.getElem_map, List.getElem_take, Int.toNat_of_nonneg h4.1]
    · obtain ⟨z, hz2, rfl⟩ := List.mem_map.1 hx
      have := hb z (List.mem_of_mem_take hz2)
      omega
/-- An argument of type [][6]uint16, read as a list of rows. -/
theorem open_u16rows {t e q : TypeId} {v : Value} {d : DataW H} {ps : List MemPlace} {b0 : Nat} (ht : P.underlying t = some (.slice e)) (he : P.underlying e = some (.array 6 q)) (hq : P.underlying q = some (.int .u16)) (hce : P.cellsOf e = 6) (hcq : P.cellsOf q = 1)
    (hval : Value.okWide P w .any b0 t v) (h : DataW.Trod enc P w 0 (fun _ => true) true t v d ps) : ∃ l : List (Nat → Nat), Sl enc6 6 w v l ∧ ∀ x ∈ l, ∀ i, i < 6 → x i < 65536 := by
  obtain ⟨a0, len0, cap0, rfl⟩ := okWide_slice ht hval
  obtain ⟨fuel, hf⟩ := h
  rcases DataW.trod_slice ht hf with ⟨h1, _⟩ | ⟨a, len, cap, elems, rest, n, _, h1, _, _, hlc, hm, hlen, hel, _, _⟩
  · simp only [Value.cells, List.cons.injEq, and_true] at h1
    rw [h1]
    exact ⟨[], Sl.nil _ _ _, fun x hx => by cases hx⟩
  · simp only [Value.cells, List.cons.injEq, and_true] at h1
    rw [h1]
    have each : ∀ i, i < len → ∃ x : Nat → Nat, (∀ j, j < 6 → x j < 65536) ∧ ∀ j, j < 6 → w.cell? (a.add (i * 6 + j)) = some (.int .u16 (x j)) := by
      intro i hi
      have h2 := hel i hi
      rw [hce, List.getElem?_eq_getElem (by omega : i < elems.length), Option.bind_eq_some_iff] at h2
      obtain ⟨cs, hcs, htr⟩ := h2
      obtain ⟨_, hcl, hcell⟩ := World.cells?_some hcs
      obtain ⟨xs, m, _, _, _, hxl, hxs⟩ := DataW.trod_array he htr
      have hone : ∀ j, j < 6 → ∃ z : Nat, z < 65536 ∧ cs[j]? = some (.int .u16 (z : Int)) := by
        intro j hj
        have h3 := hxs j hj
        rw [hcq, Nat.mul_one, List.getElem?_eq_getElem (by omega)] at h3
        obtain ⟨z, e1, _, hw⟩ := DataW.trod_int hq h3
        have hb := bounds_u16 hw
        refine ⟨z.toNat, by omega, ?_⟩
        have h0 : ((cs.drop j).take 1)[0]? = some (.int .u16 z) := by rw [e1]; rfl
        rw [Int.toNat_of_nonneg hb.1]
        simpa using h0
      refine ⟨fun j => if hj : j < 6 then Classical.choose (hone j hj) else 0, fun j hj => ?_, fun j hj => ?_⟩
      · simp only [hj, dite_true]
        exact (Classical.choose_spec (hone j hj)).1
      · simp only [hj, dite_true]
        rw [← (Classical.choose_spec (hone j hj)).2, ← hcell j hj, add_add]
    refine ⟨(List.range len).map fun i => if hi : i < len then Classical.choose (each i hi) else fun _ => 0, ⟨⟨some a, cap, by simp, by simp; exact hlc, hm, fun q => by cases q⟩, fun i hi => ?_⟩, fun x hx i hi => ?_⟩
    · have hil : i < len := by simpa using hi
      intro j u hu
      rw [List.getElem_map, List.getElem_range] at hu
      simp only [hil, dite_true] at hu
      have hj : j < 6 := by
        rcases Nat.lt_or_ge j 6 with q | q
        · exact q
        · rw [List.getElem?_eq_none (by rw [enc6_len]; exact q)] at hu; cases hu
      unfold enc6 at hu
      rw [Kr_get _ _ (by rw [tab_len]; exact hj), tab_get _ _ hj] at hu
      rw [← Option.some.inj hu]
      show w.cell? ((a.add (i * 6)).add j) = _
      rw [add_add]
      exact (Classical.choose_spec (each i hil)).2 j hj
    · obtain ⟨k, hk, rfl⟩ := List.mem_map.1 hx
      have hkl := List.mem_range.1 hk
      simp only [hkl, dite_true]
      exact (Classical.choose_spec (each k hkl)).1 i hi
/-- The arguments read behind the call as they did before. -/
theorem args_kept (hl : laidOutB P = true) {w' : World} (hb : Below w.heap.size w w') : ∀ {ts : List TypeId} {vs : List Value} {ds : List (DataW H)} {ps : List MemPlace}, (∀ t ∈ ts, P.readableRec t = true ∧ t < P.types.size) → (∀ x ∈ ps, x.block < w.heap.size) →
    DataW.TrodAll enc P w 0 (fun _ => true) true ts vs ds ps → DataW.TrodAll enc P w' 0 (fun b => decide (b < w.heap.size)) true ts vs ds ps
  | [], [], [], _, _, _, h => h
  | t :: ts, v :: vs, d :: ds, ps, hT, hlt, ⟨p, q, h1, h2, e⟩ => by
    subst e
    exact ⟨p, q, Below.trod hl (hT t (List.mem_cons_self ..)).1 (hT t (List.mem_cons_self ..)).2 h1 hb (fun x hx => hlt x (List.mem_append_left _ hx)),
      args_kept hl hb (fun t ht => hT t (List.mem_cons_of_mem _ ht)) (fun x hx => hlt x (List.mem_append_right _ hx)) h2, rfl⟩
  | [], [], _ :: _, _, _, _, h => h.elim
  | [], _ :: _, [], _, _, _, h => h.elim
  | [], _ :: _, _ :: _, _, _, _, h => h.elim
  | _ :: _, [], [], _, _, _, h => h.elim
  | _ :: _, [], _ :: _, _, _, _, h => h.elim
  | _ :: _, _ :: _, [], _, _, _, h => h.elim
/-- A law's last step: the call answers, and what was there is as it was. -/
theorem law_post {f : Func} {s : ChangeSpec} {w' : World} {args : Array Value} {v : Value} {ds gs : List (DataW H)} {before : List MemPlace} (hl : laidOutB P = true)
    (hW : DataW.Whole enc P f.params.toList s.vars false w args.toList ds gs before) (hT : ∀ t ∈ f.params.toList, P.readableRec t = true ∧ t < P.types.size) (hv : s.vars = []) (hb : Below w.heap.size w w')
    (hres : DataW.TrodAll enc P w' w.heap.size (fun _ => false) false f.resultTypes.toList (v.resultList f.resultTypes.size) (s.fn H (ds ++ gs)).results []) (hargs : (s.fn H (ds ++ gs)).args = ds) (hvars : (s.fn H (ds ++ gs)).vars = []) :
    s.post enc P f false true false false w args v w' := by
  have hlt : ∀ x ∈ before, x.block < w.heap.size := fun x hx => hW.lt x hx
  have hW2 := hW
  obtain ⟨p, q, h1, h2, rfl, _, _⟩ := hW
  rw [hv] at h2
  obtain ⟨rfl, rfl⟩ := trodVars_none h2
  rw [List.append_nil] at hlt
  refine ⟨ds, [], _, [], p, [], hW2, hres, ?_, ?_, hb.frame _, fun q => by cases q⟩
  · rw [hargs]; exact args_kept hl hb hT hlt h1
  · rw [hvars, hv]; exact rfl
end
end Go.Sx
namespace Go.Proofs.YtmghobajmhdbfaaGreatDoor
open Go Go.RowKit Go.Sx Go.ChangeShapes Go.WideShapes Go.ChangeAt
theorem ownNone : ownKnob Tryz.prog.godebug = none := by kernel_rfl
theorem laidOut : laidOutB Tryz.prog = true := by kernel_rfl
def tzD : DataW Unit := .agg (tzTab.map fun n : Nat => .lit (.int .u8 (n : Int)))
theorem tz_at {W : World} {l1 : String × DataW Unit} {ls : List (String × DataW Unit)} (h : laidMetH Tryz.prog (l1 :: ("math/bits.deBruijn64tab", tzD) :: ls) W) (hh : ((l1 :: ("math/bits.deBruijn64tab", tzD) :: ls).all fun x => x.2.handleName?.isNone) = true) :
    At W ⟨2, 0, none⟩ (Kr .u8 tzTab) := by
  rw [MakeChecks.laidMetH_plain _ _ _ hh] at h
  obtain ⟨ps, hL, _, _⟩ := h
  obtain ⟨_, _, _, _, _, q0, _, _, _, _, hL1, _⟩ := hL
  obtain ⟨g, t, cs, fuel, p, q, hg, ht, hv, hd, _, _⟩ := hL1
  obtain rfl := Option.some.inj ((show Tryz.prog.globalNamed "math/bits.deBruijn64tab" = some 2 by kernel_rfl).symm.trans hg)
  obtain rfl := Option.some.inj ((show (Tryz.prog.globals[2]?).map (·.type) = some 138 by kernel_rfl).symm.trans ht)
  obtain ⟨xs, m, _, ex, _, hl, hel⟩ := DataW.trod_array Tryz.underlying138 hd
  have c5 : Tryz.prog.cellsOf 5 = 1 := by kernel_rfl
  have hlen : tzTab.length = 64 := rfl
  have e3 : (xs.map (·.1)) = tzTab.map fun n : Nat => (.lit (.int .u8 (n : Int)) : DataW Unit) := (DataW.agg.inj (Prod.mk.inj ex).1).symm
  intro r u hu
  have hr : r < 64 := by
    rcases Nat.lt_or_ge r 64 with h1 | h1
    · exact h1
    · rw [List.getElem?_eq_none (by rw [Kr_len, hlen]; exact h1)] at hu; cases hu
  rw [Kr_get _ _ (by rw [hlen]; exact hr)] at hu
  rw [← Option.some.inj hu, add_lit, Nat.zero_add]
  have hE := hel r hr
  rw [c5, Nat.mul_one, List.getElem?_eq_getElem (by omega)] at hE
  obtain ⟨z, e1, e2, _⟩ := DataW.trod_int Tryz.underlying5 hE
  have e4 : (xs.map (·.1))[r]? = (tzTab.map fun n : Nat => (DataW.lit (.int .u8 (n : Int)) : DataW Unit))[r]? := by rw [e3]
  rw [List.getElem?_map, List.getElem?_map, List.getElem?_eq_getElem (by omega : r < xs.length), List.getElem?_eq_getElem (by omega : r < tzTab.length), e2] at e4
  have hz : z = ((tzTab.getD r 0 : Nat) : Int) := by
    simp only [Option.map_some, Option.some.injEq, DataW.lit.injEq, Lit.int.injEq, true_and] at e4
    rw [e4, List.getD_eq_getElem?_getD, List.getElem?_eq_getElem (by omega : r < tzTab.length)]; rfl
  rw [World.var?_cell hg hv r, ← hz]
  have h0 : ((cs.toList.drop r).take 1)[0]? = some (.int .u8 z) := by rw [e1]; rfl
  simpa using h0
end Go.Proofs.YtmghobajmhdbfaaGreatDoor
namespace Go.Proofs.YtmghobajmhdbfaaGreatDoor
open Go Go.RowKit Go.Sx
theorem mins_le (f : Nat → Rat) : ∀ (N i : Nat), i < N ∨ i = 0 → mins f N ≤ f i
  | 0, i, h => by
    obtain rfl : i = 0 := by omega
    exact Rat.le_refl
  | N + 1, i, h => by
    have h1 := mins_le f N
    rw [mins]
    unfold minQ
    by_cases e : i = N
    · subst e
      split
      · next g => exact g
      · exact Rat.le_refl
    · have h2 := h1 i (by omega)
      split
      · exact h2
      · next g => exact Rat.le_trans (Rat.le_of_lt (Rat.not_le.1 g)) h2
theorem mins_at (f : Nat → Rat) : ∀ N : Nat, ∃ i, (i < N ∨ i = 0) ∧ mins f N = f i
  | 0 => ⟨0, .inr rfl, rfl⟩
  | N + 1 => by
    obtain ⟨i, hi, e⟩ := mins_at f N
    rw [mins]
    unfold minQ
    split
    · exact ⟨i, by omega, e⟩
    · exact ⟨N, .inl (by omega), rfl⟩
theorem sumIf_four {n : Nat} {p1 p2 p3 p4 : Nat → Bool} {f : Nat → Rat} (h : ∀ i, i < n → (if p3 i = true then f i else 0) + (if p4 i = true then f i else 0) ≤ (if p1 i = true then f i else 0) + (if p2 i = true then f i else 0)) :
    sumIf n p3 f + sumIf n p4 f ≤ sumIf n p1 f + sumIf n p2 f := by
  induction n with
  | zero => exact Rat.le_refl
  | succ n ih =>
    have h1 := ih fun i hi => h i (by omega)
    have h2 := h n (by omega)
    simp only [sumIf]
    grind
theorem sumIf_two {n : Nat} {p q : Nat → Bool} {f : Nat → Rat} (h : ∀ i, i < n → (if p i = true then f i else 0) ≤ (if q i = true then f i else 0)) : sumIf n p f ≤ sumIf n q f := by
  induction n with
  | zero => exact Rat.le_refl
  | succ n ih =>
    have h1 := ih fun i hi => h i (by omega)
    have h2 := h n (by omega)
    simp only [sumIf]
    grind
/-- What is owed is not negative. -/
def Pos (owed : List RR) : Prop := ∀ c, c < owed.length → 0 ≤ owF owed c
theorem capF_mono {X : List It} {owed : List RR} (hp : Pos owed) {s t : Nat → Bool} (h : ∀ c, c < owed.length → s c = true → t c = true) (j : Nat) : capF X owed s j ≤ capF X owed t j := by
  rw [capF_eq, capF_eq]
  refine Rat.add_le_add_left.2 (sumIf_two fun c hc => ?_)
  have h1 := h c hc
  have h2 := hp c hc
  cases hs : s c with
  | false => simp only [Bool.false_and]; split <;> grind
  | true => rw [h1 hs]; exact Rat.le_refl
theorem capQ_mono {X : List It} {owed : List RR} (hp : Pos owed) {s t : Nat → Bool} (h : ∀ c, c < owed.length → s c = true → t c = true) : capQ X owed s ≤ capQ X owed t := by
  unfold capQ
  obtain ⟨i, hi, e⟩ := mins_at (capF X owed t) (2 ^ X.length)
  rw [e]
  exact Rat.le_trans (mins_le _ _ i hi) (capF_mono hp h i)
theorem outs_iff (X : List It) (cut c : Nat) : outs X cut c = true ↔ ∃ i, i < X.length ∧ cut.testBit i = false ∧ secures (X.getD i zIt) c = true := by
  unfold outs
  rw [List.any_eq_true]
  constructor
  · rintro ⟨i, hi, h⟩
    simp only [Bool.and_eq_true, Bool.not_eq_true'] at h
    exact ⟨i, List.mem_range.1 hi, h.1, h.2⟩
  · rintro ⟨i, hi, h1, h2⟩
    exact ⟨i, List.mem_range.2 hi, by rw [h1, h2]; rfl⟩
/-- Adding x to the smaller set s raises its capacity at least as much as adding it to t. -/
theorem capQ_sub {X : List It} {owed : List RR} (hp : Pos owed) {s t sx tx : Nat → Bool} {x : Nat} (hst : ∀ c, c < owed.length → s c = true → t c = true) (hsx : ∀ c, c < owed.length → (sx c = true ↔ s c = true ∨ c = x)) (htx : ∀ c, c < owed.length → (tx c = true ↔ t c = true ∨ c = x)) :
    capQ X owed tx + capQ X owed s ≤ capQ X owed sx + capQ X owed t := by
  unfold capQ
  obtain ⟨i, hi, ei⟩ := mins_at (capF X owed sx) (2 ^ X.length)
  obtain ⟨j, hj, ej⟩ := mins_at (capF X owed t) (2 ^ X.length)
  have hpos : 0 < 2 ^ X.length := Nat.two_pow_pos _
  have hi2 : i < 2 ^ X.length := by omega
  have hj2 : j < 2 ^ X.length := by omega
  rw [ei, ej]
  have h1 : mins (capF X owed tx) (2 ^ X.length) ≤ capF X owed tx (i ||| j) := mins_le _ _ _ (.inl (Nat.or_lt_two_pow hi2 hj2))
  have h2 : mins (capF X owed s) (2 ^ X.length) ≤ capF X owed s (i &&& j) := mins_le _ _ _ (.inl (Nat.lt_of_le_of_lt Nat.and_le_left hi2))
  have h3 : payF X (i ||| j) + payF X (i &&& j) ≤ payF X i + payF X j := by
    unfold payF
    refine sumIf_four fun k _ => ?_
    rw [Nat.testBit_or, Nat.testBit_and]
    cases i.testBit k <;> cases j.testBit k <;> simp <;> grind
  have h4 : sumIf owed.length (fun c => tx c && outs X (i ||| j) c) (owF owed) + sumIf owed.length (fun c => s c && outs X (i &&& j) c) (owF owed) ≤ sumIf owed.length (fun c => sx c && outs X i c) (owF owed) + sumIf owed.length (fun c => t c && outs X j c) (owF owed) := by
    refine sumIf_four fun c hc => ?_
    have hpc := hp c hc
    have a1 : outs X (i ||| j) c = true → outs X i c = true ∧ outs X j c = true := by
      rw [outs_iff, outs_iff, outs_iff]
      rintro ⟨k, hk, h, h'⟩
      rw [Nat.testBit_or, Bool.or_eq_false_iff] at h
      exact ⟨⟨k, hk, h.1, h'⟩, ⟨k, hk, h.2, h'⟩⟩
    have a2 : outs X (i &&& j) c = true → outs X i c = true ∨ outs X j c = true := by
      rw [outs_iff, outs_iff, outs_iff]
      rintro ⟨k, hk, h, h'⟩
      rw [Nat.testBit_and, Bool.and_eq_false_iff] at h
      rcases h with h | h
      · exact .inl ⟨k, hk, h, h'⟩
      · exact .inr ⟨k, hk, h, h'⟩
    have b1 := hst c hc
    have b2 := hsx c hc
    have b3 := htx c hc
    generalize outs X (i ||| j) c = o1 at *
    generalize outs X (i &&& j) c = o2 at *
    generalize outs X i c = o3 at *
    generalize outs X j c = o4 at *
    generalize owF owed c = q at *
    by_cases hx : c = x
    · have b2' := b2.2 (.inr hx)
      have b3' := b3.2 (.inr hx)
      rw [b2', b3']
      cases hs : s c with
      | true =>
        rw [b1 hs]
        cases o1 <;> cases o2 <;> cases o3 <;> cases o4 <;> simp at a1 a2 ⊢ <;> grind
      | false =>
        cases t c <;> cases o1 <;> cases o2 <;> cases o3 <;> cases o4 <;> simp at a1 a2 ⊢ <;> grind
    · have e2 : sx c = s c := Bool.eq_iff_iff.2 (b2.trans ⟨fun g => g.resolve_right hx, .inl⟩)
      have e3 : tx c = t c := Bool.eq_iff_iff.2 (b3.trans ⟨fun g => g.resolve_right hx, .inl⟩)
      rw [e2, e3]
      cases hs : s c with
      | true =>
        rw [b1 hs]
        cases o1 <;> cases o2 <;> cases o3 <;> cases o4 <;> simp at a1 a2 ⊢ <;> grind
      | false =>
        cases t c <;> cases o1 <;> cases o2 <;> cases o3 <;> cases o4 <;> simp at a1 a2 ⊢ <;> grind
  rw [capF_eq] at h1 h2
  rw [capF_eq, capF_eq]
  grind
end Go.Proofs.YtmghobajmhdbfaaGreatDoor
namespace Go.Proofs.YtmghobajmhdbfaaGreatDoor
open Go Go.RowKit Go.Sx
theorem amts_pos (a : List Nat) (n : Nat) : Pos (amts a n) := by
  intro c hc
  have h := getD_mem (amts a n) c zRR hc
  obtain ⟨x, _, e⟩ := List.mem_map.1 h
  unfold owF
  rw [← e]
  exact Rat.not_lt.1 toQ_amR
end Go.Proofs.YtmghobajmhdbfaaGreatDoor
namespace Go.Proofs.YtmghobajmhdbfaaGreatDoor
open Go Go.RowKit Go.Sx
theorem prF_nonneg (X : List It) (i : Nat) : 0 ≤ prF X i := by
  have key : ∀ q : Rat, 0 ≤ maxQ q 0 := fun q => by
    unfold maxQ
    split
    · assumption
    · exact Rat.le_refl
  exact key _
theorem sumIf_nonneg {n : Nat} {p : Nat → Bool} {f : Nat → Rat} (h : ∀ i, i < n → 0 ≤ f i) : 0 ≤ sumIf n p f := by
  induction n with
  | zero => exact Rat.le_refl
  | succ n ih =>
    have h1 := ih fun i hi => h i (by omega)
    have h2 := h n (by omega)
    rw [sumIf]
    split <;> grind
theorem sumIf_upd {n : Nat} {p : Nat → Bool} {f g : Nat → Rat} {j : Nat} (hj : j < n) (h : ∀ i, i < n → i ≠ j → g i = f i) : sumIf n p g = sumIf n p f + (if p j = true then g j - f j else 0) := by
  induction n with
  | zero => omega
  | succ n ih =>
    rw [sumIf, sumIf]
    by_cases e : j = n
    · subst e
      rw [sumIf_congr (p := p) (q := p) (f := g) (g := f) (fun i hi => ⟨rfl, h i (by omega) (by omega)⟩)]
      split <;> grind
    · rw [ih (by omega) (fun i hi hne => h i (by omega) hne), h n (by omega) (fun q => e q.symm)]
      grind
theorem payF_nonneg (X : List It) (j : Nat) : 0 ≤ payF X j := sumIf_nonneg fun i _ => prF_nonneg X i
theorem capQ_none (X : List It) (owed : List RR) {s : Nat → Bool} (h : ∀ c, c < owed.length → s c = false) : capQ X owed s = 0 := by
  rw [capQ_congr (t := fun _ => false) h]
  unfold capQ
  refine Rat.le_antisymm ?_ ?_
  · have h1 := mins_le (capF X owed fun _ => false) (2 ^ X.length) 0 (.inr rfl)
    rw [capF_none, payF_zero] at h1
    exact h1
  · obtain ⟨i, _, e⟩ := mins_at (capF X owed fun _ => false) (2 ^ X.length)
    rw [e, capF_none]
    exact payF_nonneg X i
theorem preQ_eq (X : List It) (owed : List RR) (k : Nat) : preQ X owed k = capQ X owed fun i => decide (i < k) := by
  unfold preQ
  split
  · next h =>
    subst h
    exact (capQ_none X owed fun c _ => decide_eq_false (by omega)).symm
  · rfl
def totF (X : List It) (owed : List RR) (c : Nat) : Rat := preQ X owed (c + 1) - preQ X owed c
/-- The totals of any of the first claims sum up to at most the capacity of these. -/
theorem sets_le {X : List It} {owed : List RR} (hp : Pos owed) (s : Nat → Bool) {k : Nat} (hk : k ≤ owed.length) : sumIf k s (totF X owed) ≤ capQ X owed fun c => s c && decide (c < k) := by
  induction k with
  | zero =>
    rw [capQ_none X owed fun c _ => by simp]
    exact Rat.le_refl
  | succ k ih =>
    have h1 := ih (by omega)
    rw [sumIf]
    cases hs : s k with
    | false =>
      rw [capQ_congr (t := fun c => s c && decide (c < k)) (fun c _ => by
        by_cases e : c = k
        · subst e; rw [hs]; rfl
        · have : (c < k + 1) ↔ (c < k) := by omega
          simp only [this])]
      simpa [Rat.add_zero] using h1
    | true =>
      have h2 := capQ_sub (X := X) (x := k) hp (s := fun c => s c && decide (c < k)) (t := fun c => decide (c < k)) (sx := fun c => s c && decide (c < k + 1)) (tx := fun c => decide (c < k + 1))
        (fun c _ h => by simp at h ⊢; exact h.2)
        (fun c _ => by
          by_cases e : c = k
          · subst e; simp [hs]
          · have : (c < k + 1) ↔ (c < k) := by omega
            simp [this, e])
        (fun c _ => by simp; omega)
      have e1 := preQ_eq X owed k
      have e2 := preQ_eq X owed (k + 1)
      unfold totF at h1 ⊢
      rw [if_pos rfl]
      grind
theorem sets_all {X : List It} {owed : List RR} (hp : Pos owed) (s : Nat → Bool) : sumIf owed.length s (totF X owed) ≤ capQ X owed s := by
  have h := sets_le (X := X) hp s (Nat.le_refl _)
  rwa [capQ_congr (t := s) (fun c hc => by simp [hc])] at h
theorem sumL_bound {l : List RR} {K : Nat} (h : ∀ r ∈ l, Lr r ≤ K) : sumL l ≤ l.length * (K + 1) := by
  induction l with
  | nil => simp [sumL]
  | cons r l ih =>
    have h1 := ih fun x hx => h x (List.mem_cons_of_mem _ hx)
    have h2 := h r (List.mem_cons_self ..)
    rw [sumL, List.length_cons, Nat.add_mul]; omega
theorem L_totF {X : List It} {owed : List RR} {K : Nat} (hX : ItB K X) (ho : RB K owed) (hx8 : X.length ≤ 8) (ho24 : owed.length ≤ 24) (c : Nat) : L (totF X owed c) ≤ 80 * K + 91 := by
  have h1 := L_preQ hX ho hx8 ho24 (c + 1)
  have h2 := L_preQ hX ho hx8 ho24 c
  have h3 := L_sub (preQ X owed (c + 1)) (preQ X owed c)
  unfold totF; omega
theorem totL_eq {X : List It} {owed : List RR} (h : checkE X owed = 0) : totL X owed = tab owed.length fun c => ofQ (totF X owed c) := if_pos h
/-- Of a state on the way, for a cut: nothing is negative, nobody receives more than is owed, and what claims within the cut have received came out of the cut. -/
structure GI (X : List It) (owed : List RR) (J : Nat) (s : GS) : Prop where
  p : ∀ i, 0 ≤ s.p i
  out : ∀ k, 0 ≤ s.out k
  owe : ∀ k, k < owed.length → s.out k ≤ owF owed k
  cut : sumIf owed.length (fun k => !outs X J k) s.out ≤ sumIf X.length J.testBit fun i => prF X i - s.p i
theorem GI.zero {X : List It} {owed : List RR} (hp : Pos owed) (J : Nat) : GI X owed J (gall X owed 0) := by
  refine ⟨fun i => prF_nonneg X i, fun _ => Rat.le_refl, fun k hk => hp k hk, ?_⟩
  have e1 : sumIf owed.length (fun k => !outs X J k) (gall X owed 0).out = 0 := by
    have : ∀ n, sumIf n (fun k => !outs X J k) (fun _ => (0 : Rat)) = 0 := by
      intro n
      induction n with
      | zero => rfl
      | succ n ih => rw [sumIf, ih]; simp [Rat.add_zero]
    exact this _
  rw [e1]
  refine sumIf_nonneg fun i _ => ?_
  show 0 ≤ prF X i - prF X i
  grind
theorem GI.step {X : List It} {owed : List RR} {J : Nat} {s : GS} {c i : Nat} (h : GI X owed J s) (hc : c < owed.length) (hi : i < X.length) : GI X owed J (gst X owed s c i) := by
  unfold gst
  split
  case isFalse => exact h
  case isTrue hsec =>
    obtain ⟨x, hx⟩ : ∃ x, x = pay owed s c i := ⟨_, rfl⟩
    rw [← hx]
    have h1 := h.p i
    have h2 := h.out c
    have h3 := h.owe c hc
    have hx1 : 0 ≤ x ∧ x ≤ owF owed c - s.out c ∧ x ≤ s.p i := by
      rw [hx]; unfold pay minQ
      split <;> grind
    obtain ⟨x0, x1, x2⟩ := hx1
    refine ⟨fun k => ?_, fun k => ?_, fun k hk => ?_, ?_⟩
    · show 0 ≤ if k = i then s.p i - x else s.p k
      split
      · grind
      · exact h.p k
    · show 0 ≤ if k = c then s.out c + x else s.out k
      split
      · grind
      · exact h.out k
    · show (if k = c then s.out c + x else s.out k) ≤ owF owed k
      split
      · next e => subst e; grind
      · exact h.owe k hk
    · have a1 := sumIf_upd (p := fun k => !outs X J k) (f := s.out) (g := fun k => if k = c then s.out c + x else s.out k) hc (fun k _ hne => if_neg hne)
      have a2 := sumIf_upd (p := J.testBit) (f := fun i => prF X i - s.p i) (g := fun k => prF X k - if k = i then s.p i - x else s.p k) hi (fun k _ hne => by simp only [if_neg hne])
      have a3 := h.cut
      simp only [if_true] at a1 a2
      have a4 : outs X J c = false → J.testBit i = true := by
        intro g
        cases hb : J.testBit i with
        | true => rfl
        | false =>
          have := (outs_iff X J c).2 ⟨i, hi, hb, hsec⟩
          rw [g] at this; cases this
      show sumIf owed.length (fun k => !outs X J k) (fun k => if k = c then s.out c + x else s.out k) ≤ sumIf X.length J.testBit (fun k => prF X k - if k = i then s.p i - x else s.p k)
      rw [a1, a2]
      cases ho : outs X J c with
      | true => cases J.testBit i <;> simp <;> grind
      | false => rw [a4 ho]; simp; grind
theorem GI.grow {X : List It} {owed : List RR} {J : Nat} {s : GS} {c : Nat} (h : GI X owed J s) (hc : c < owed.length) {i : Nat} (hi : i ≤ X.length) : GI X owed J (grow X owed c s i) := by
  induction i with
  | zero => exact h
  | succ i ih => exact (ih (by omega)).step hc (by omega)
theorem GI.gall {X : List It} {owed : List RR} (hp : Pos owed) (J : Nat) {c : Nat} (hc : c ≤ owed.length) : GI X owed J (gall X owed c) := by
  induction c with
  | zero => exact GI.zero hp J
  | succ c ih => exact (ih (by omega)).grow (by omega) (Nat.le_refl _)
/-- The number whose bits are given. -/
def maskN (p : Nat → Bool) : Nat → Nat
  | 0 => 0
  | n + 1 => maskN p n ||| (if p n = true then 2 ^ n else 0)
theorem maskN_lt (p : Nat → Bool) (n : Nat) : maskN p n < 2 ^ n := by
  induction n with
  | zero => exact Nat.two_pow_pos 0
  | succ n ih =>
    rw [maskN]
    refine Nat.or_lt_two_pow (Nat.lt_of_lt_of_le ih (Nat.pow_le_pow_right (by decide) (by omega))) ?_
    split
    · exact Nat.pow_lt_pow_right (by decide) (by omega)
    · exact Nat.two_pow_pos _
theorem maskN_bit (p : Nat → Bool) {n i : Nat} (h : i < n) : (maskN p n).testBit i = p i := by
  induction n with
  | zero => omega
  | succ n ih =>
    rw [maskN, Nat.testBit_or]
    by_cases e : i = n
    · subst e
      rw [Nat.testBit_lt_two_pow (maskN_lt p i)]
      cases hp : p i with
      | true => simp
      | false => simp
    · rw [ih (by omega)]
      have : (if p n = true then 2 ^ n else 0).testBit i = false := by
        split
        · rw [Nat.testBit_two_pow]; exact decide_eq_false (fun q => e q.symm)
        · exact Nat.zero_testBit _
      rw [this, Bool.or_false]
end Go.Proofs.YtmghobajmhdbfaaGreatDoor
namespace Go.Proofs.YtmghobajmhdbfaaGreatDoor
open Go Go.RowKit Go.Sx
def sz (n : Nat) : Nat := (natS n).size
theorem sz_mul (m n : Nat) : sz (m * n) ≤ sz m + sz n := natS_size_mul m n
theorem sz_mono {m n : Nat} (h : m ≤ n) : sz m ≤ sz n := natS_size_mono h
theorem sz_one : sz 1 = 1 := natS_one_size
def Mu (D : Nat) (q : Rat) : Prop := ∃ z : Int, q * (D : Rat) = (z : Rat)
section
variable {D : Nat} {p q : Rat}
theorem Mu.zero : Mu D 0 := ⟨0, by rw [Rat.zero_mul]; rfl⟩
theorem Mu.add (h : Mu D p) (g : Mu D q) : Mu D (p + q) := by
  obtain ⟨a, ha⟩ := h
  obtain ⟨b, hb⟩ := g
  exact ⟨a + b, by rw [Rat.add_mul, ha, hb, Rat.intCast_add]⟩
theorem Mu.sub (h : Mu D p) (g : Mu D q) : Mu D (p - q) := by
  obtain ⟨a, ha⟩ := h
  obtain ⟨b, hb⟩ := g
  exact ⟨a - b, by rw [Rat.intCast_sub, ← ha, ← hb]; grind⟩
theorem Mu.mulr (h : Mu D q) (k : Nat) : Mu (D * k) q := by
  obtain ⟨a, ha⟩ := h
  exact ⟨a * k, by rw [Rat.natCast_mul, ← Rat.mul_assoc, ha, Rat.intCast_mul, Rat.intCast_natCast]⟩
theorem Mu.mull (h : Mu D q) (k : Nat) : Mu (k * D) q := by rw [Nat.mul_comm]; exact h.mulr k
theorem Mu.min (h : Mu D p) (g : Mu D q) : Mu D (minQ p q) := by unfold minQ; split <;> assumption
theorem Mu.self (q : Rat) : Mu q.den q := ⟨q.num, by
  have h : (q.den : Rat) ≠ 0 := by
    have := Rat.natCast_pos.2 q.den_pos
    grind
  have := Rat.div_mul_cancel (a := (q.num : Rat)) h
  rwa [← Rat.mkRat_eq_div, Rat.mkRat_self] at this⟩
theorem Mu.sumIf {n : Nat} {s : Nat → Bool} {f : Nat → Rat} (h : ∀ i, i < n → Mu D (f i)) : Mu D (sumIf n s f) := by
  induction n with
  | zero => exact Mu.zero
  | succ n ih =>
    show Mu D (Go.Proofs.YtmghobajmhdbfaaGreatDoor.sumIf n s f + _)
    refine (ih fun i hi => h i (by omega)).add ?_
    split
    · exact h n (by omega)
    · exact Mu.zero
theorem Mu.int (hD : 0 < D) (h : Mu D q) (h0 : 0 ≤ q) {B : Nat} (hB : q ≤ (B : Rat)) : ∃ a : Nat, q * (D : Rat) = (a : Rat) ∧ a ≤ B * D ∧ (0 < q → 0 < a) := by
  obtain ⟨z, hz⟩ := h
  have hD0 : (0 : Rat) < D := Rat.natCast_pos.2 hD
  have hz0 : 0 ≤ z := by
    rw [← Rat.intCast_nonneg, ← hz]
    exact Rat.mul_nonneg h0 (Rat.le_of_lt hD0)
  obtain ⟨a, rfl⟩ := Int.eq_ofNat_of_zero_le hz0
  refine ⟨a, by rw [hz, Rat.intCast_natCast], ?_, fun hq => ?_⟩
  · have h1 : q * (D : Rat) ≤ (B : Rat) * (D : Rat) := Rat.mul_le_mul_of_nonneg_right hB (Rat.le_of_lt hD0)
    rw [hz, ← Rat.natCast_mul, ← Rat.intCast_natCast (B * D), Rat.intCast_le_intCast] at h1
    omega
  · have h1 : 0 < q * (D : Rat) := Rat.mul_pos hq hD0
    rw [hz, Rat.intCast_pos] at h1
    omega
theorem Mu.size (hD : 0 < D) (h : Mu D q) (h0 : 0 ≤ q) {B : Nat} (hB : q ≤ (B : Rat)) : L q ≤ sz B + sz D := by
  obtain ⟨a, ha, hb, _⟩ := h.int hD h0 hB
  have hD0 : (0 : Rat) < D := Rat.natCast_pos.2 hD
  have e : q = mkRat (a : Int) D := by
    rw [Rat.mkRat_eq_div, Rat.intCast_natCast, ← ha, Rat.div_def, Rat.mul_assoc, Rat.mul_inv_cancel _ (by grind), Rat.mul_one]
  rw [e]
  refine L_mkRat _ (by omega) ?_ ?_
  · rw [Int.natAbs_natCast]
    exact Nat.le_trans (sz_mono hb) (sz_mul _ _)
  · exact Nat.le_add_left _ _
theorem comm_den {K : Nat} : ∀ (qs : List Rat), (∀ q ∈ qs, L q ≤ K) → ∃ D : Nat, 0 < D ∧ sz D ≤ qs.length * K + 1 ∧ ∀ q ∈ qs, Mu D q := by
  intro qs
  induction qs with
  | nil => exact fun _ => ⟨1, by decide, by rw [sz_one]; exact Nat.le_add_left _ _, fun q hq => by cases hq⟩
  | cons q qs ih =>
    intro h
    obtain ⟨D, h1, h2, h3⟩ := ih fun r hr => h r (List.mem_cons_of_mem _ hr)
    refine ⟨q.den * D, Nat.mul_pos q.den_pos h1, ?_, fun r hr => ?_⟩
    · have := sz_mul q.den D
      have h4 : sz q.den ≤ K := Nat.le_trans (L_den q) (h q List.mem_cons_self)
      rw [List.length_cons, Nat.add_mul]
      omega
    · rcases List.mem_cons.1 hr with rfl | hr
      · exact (Mu.self r).mulr D
      · exact (h3 r hr).mull q.den
end
theorem sumIf_plus (n : Nat) (s : Nat → Bool) (f g : Nat → Rat) : sumIf n s (fun i => f i + g i) = sumIf n s f + sumIf n s g := by
  induction n with
  | zero => simp only [sumIf]; grind
  | succ n ih => simp only [sumIf]; rw [ih]; split <;> grind
theorem sumIf_f0 {n : Nat} {s : Nat → Bool} {f : Nat → Rat} (h : ∀ i, i < n → s i = true → f i = 0) : sumIf n s f = 0 := by
  induction n with
  | zero => rfl
  | succ n ih =>
    rw [sumIf, ih fun i hi => h i (by omega)]
    split
    · next hs => rw [h n (by omega) hs]; grind
    · grind
theorem sumIf_swap (n m : Nat) (s t : Nat → Bool) (f : Nat → Nat → Rat) : sumIf n s (fun i => sumIf m t (f i)) = sumIf m t fun k => sumIf n s fun i => f i k := by
  induction n with
  | zero => exact (sumIf_f0 fun _ _ _ => rfl).symm
  | succ n ih =>
    show sumIf n s _ + _ = _
    rw [ih]
    have e : (sumIf m t fun k => sumIf (n + 1) s fun i => f i k) = sumIf m t (fun k => (sumIf n s fun i => f i k) + (if s n = true then f n k else 0)) := rfl
    rw [e, sumIf_plus]
    congr 1
    split
    · rfl
    · exact (sumIf_f0 fun _ _ _ => rfl).symm
theorem sumIf_eqIf {n : Nat} {s t : Nat → Bool} {f g : Nat → Rat} (h : ∀ i, i < n → (if s i = true then f i else 0) = (if t i = true then g i else 0)) : sumIf n s f = sumIf n t g := by
  induction n with
  | zero => rfl
  | succ n ih => rw [sumIf, sumIf, ih fun i hi => h i (by omega), h n (by omega)]
def tt : Nat → Bool := fun _ => true
/-- What is paid of each item to each claim; what is left of each item. -/
structure Fl (n m : Nat) (sec : Nat → Nat → Bool) (pr got : Nat → Rat) (P : Nat → Nat → Rat) (lf : Nat → Rat) : Prop where
  p0 : ∀ i, i < n → ∀ k, k < m → 0 ≤ P i k
  l0 : ∀ i, i < n → 0 ≤ lf i
  sc : ∀ i, i < n → ∀ k, k < m → sec i k = false → P i k = 0
  row : ∀ i, i < n → lf i + sumIf m tt (P i) = pr i
  col : ∀ k, k < m → sumIf n tt (fun i => P i k) = got k
/-- Items T that are used up and pay but claims of S, which have no other items. -/
theorem Fl.full {n m : Nat} {sec : Nat → Nat → Bool} {pr got : Nat → Rat} {P : Nat → Nat → Rat} {lf : Nat → Rat} (h : Fl n m sec pr got P lf) {S T : Nat → Bool}
    (hT : ∀ i, i < n → T i = true → ¬ 0 < lf i ∧ ∀ k, k < m → 0 < P i k → S k = true) (hS : ∀ k, k < m → S k = true → ∀ i, i < n → sec i k = true → T i = true) : sumIf m S got = sumIf n T pr := by
  have e1 : sumIf n T pr = sumIf n T fun i => sumIf m S (P i) := by
    refine sumIf_eqIf fun i hi => ?_
    by_cases ht : T i = true
    · rw [if_pos ht, if_pos ht, ← h.row i hi]
      obtain ⟨g1, g2⟩ := hT i hi ht
      have l0 : lf i = 0 := by
        have := h.l0 i hi
        grind
      rw [l0, Rat.zero_add]
      refine sumIf_eqIf fun k hk => ?_
      rw [if_pos (show tt k = true from rfl)]
      split
      · rfl
      · next hs =>
        have := h.p0 i hi k hk
        by_cases hp : 0 < P i k
        · exact absurd (g2 k hk hp) hs
        · grind
    · rw [if_neg ht, if_neg ht]
  rw [e1, sumIf_swap]
  refine sumIf_eqIf fun k hk => ?_
  by_cases hs : S k = true
  · rw [if_pos hs, if_pos hs, ← h.col k hk]
    refine sumIf_eqIf fun i hi => ?_
    rw [if_pos (show tt i = true from rfl)]
    split
    · rfl
    · next ht =>
      cases hsec : sec i k with
      | true => exact absurd (hS k hk hs i hi hsec) ht
      | false => exact h.sc i hi k hk hsec
  · rw [if_neg hs, if_neg hs]
def secF (X : List It) (i k : Nat) : Bool := secures (X.getD i zIt) k
def gotF (X : List It) (owed : List RR) (c : Nat) (want : Rat) (k : Nat) : Rat := if k < c then totF X owed k else if k = c then totF X owed c - want else 0
theorem Fl.way {X : List It} {owed : List RR} {c : Nat} {want : Rat} {P : Nat → Nat → Rat} {lf : Nat → Rat} (hp : Pos owed) (hc : c < owed.length) (hw : 0 < want) (h : Fl X.length owed.length (secF X) (prF X) (gotF X owed c want) P lf) {S T : Nat → Bool} (hSc : S c = true)
    (hT : ∀ i, i < X.length → T i = true → ¬ 0 < lf i ∧ ∀ k, k < owed.length → 0 < P i k → S k = true) (hS : ∀ k, k < owed.length → S k = true → ∀ i, i < X.length → secF X i k = true → T i = true) : False := by
  have hf := h.full hT hS
  have ha := sets_all (X := X) hp fun k => S k && decide (k ≤ c)
  have hm : maskN T X.length < 2 ^ X.length := maskN_lt _ _
  have hq : capQ X owed (fun k => S k && decide (k ≤ c)) ≤ capF X owed (fun k => S k && decide (k ≤ c)) (maskN T X.length) := mins_le _ _ _ (.inl hm)
  have e1 : capF X owed (fun k => S k && decide (k ≤ c)) (maskN T X.length) = sumIf X.length T (prF X) := by
    unfold capF
    rw [sumIf_congr (p := fun i => (maskN T X.length).testBit i) (q := T) (g := prF X) fun i hi => ⟨maskN_bit T hi, rfl⟩]
    have e0 : sumIf owed.length (fun k => (S k && decide (k ≤ c)) && outs X (maskN T X.length) k) (owF owed) = 0 := by
      refine sumIf_f0 fun k hk hs => ?_
      exfalso
      rw [Bool.and_eq_true, Bool.and_eq_true] at hs
      obtain ⟨i, hi, hb, hsec⟩ := (outs_iff _ _ _).1 hs.2
      rw [maskN_bit T hi] at hb
      rw [hS k hk hs.1.1 i hi hsec] at hb
      cases hb
    rw [e0, Rat.add_zero]
  have e2 : sumIf owed.length S (gotF X owed c want) = sumIf owed.length (fun k => S k && decide (k ≤ c)) (totF X owed) - want := by
    have u := sumIf_upd (n := owed.length) (p := fun k => S k && decide (k ≤ c)) (f := totF X owed) (g := fun k => if k = c then totF X owed c - want else totF X owed k) hc fun i _ hne => if_neg hne
    rw [if_pos rfl, if_pos (by rw [hSc]; simp)] at u
    have v : sumIf owed.length S (gotF X owed c want) = sumIf owed.length (fun k => S k && decide (k ≤ c)) (fun k => if k = c then totF X owed c - want else totF X owed k) := by
      refine sumIf_eqIf fun k _ => ?_
      unfold gotF
      by_cases hs : S k = true
      · by_cases hk : k < c
        · rw [if_pos hs, if_pos hk, if_pos (by rw [hs]; simp; omega), if_neg (by omega)]
        · by_cases e : k = c
          · rw [if_pos hs, if_neg hk, if_pos e, if_pos (by rw [hs]; simp; omega), if_pos e]
          · rw [if_pos hs, if_neg hk, if_neg e, if_neg (by rw [hs]; simp; omega)]
      · rw [if_neg hs, if_neg (by simp [hs])]
    rw [v, u]; grind
  rw [e2] at hf
  rw [e1, ← hf] at hq
  grind
end Go.Proofs.YtmghobajmhdbfaaGreatDoor
namespace Go.Proofs.YtmghobajmhdbfaaGreatDoor
open Go Go.RowKit Go.Sx
abbrev Pr2 := Nat × Nat
def wI (W : List Pr2) (j : Nat) : Nat := (W.getD j (0, 0)).1
def wC (W : List Pr2) (j : Nat) : Nat := (W.getD j (0, 0)).2
def upP (P : Nat → Nat → Rat) (i k : Nat) (d : Rat) : Nat → Nat → Rat := fun a b => if a = i ∧ b = k then P a b + d else P a b
def psh (W : List Pr2) (a : Rat) (P : Nat → Nat → Rat) : Nat → Nat → Nat → Rat
  | 0 => P
  | j + 1 => if j + 1 < W.length then upP (upP (psh W a P j) (wI W j) (wC W j) a) (wI W (j + 1)) (wC W j) (-a) else upP (psh W a P j) (wI W j) (wC W j) a
def amt (W : List Pr2) (P : Nat → Nat → Rat) (lf : Nat → Rat) (most : Rat) : Nat → Rat
  | 0 => minQ most (lf (wI W 0))
  | j + 1 => minQ (amt W P lf most j) (P (wI W (j + 1)) (wC W j))
structure WayOk (n m : Nat) (sec : Nat → Nat → Bool) (P : Nat → Nat → Rat) (lf : Nat → Rat) (c : Nat) (W : List Pr2) : Prop where
  ne : 0 < W.length
  it : ∀ j, j < W.length → wI W j < n
  cl : ∀ j, j < W.length → wC W j < m
  sec : ∀ j, j < W.length → sec (wI W j) (wC W j) = true
  pay : ∀ j, j + 1 < W.length → 0 < P (wI W (j + 1)) (wC W j)
  dif : ∀ j l, j < l → l < W.length → wC W j ≠ wC W l
  fin : wC W (W.length - 1) = c
  lft : 0 < lf (wI W 0)
theorem minQ_le (p q : Rat) : minQ p q ≤ p ∧ minQ p q ≤ q := by unfold minQ; split <;> grind
theorem minQ_pos {p q : Rat} (hp : 0 < p) (hq : 0 < q) : 0 < minQ p q := by unfold minQ; split <;> assumption
theorem amt_ok {n m : Nat} {sec : Nat → Nat → Bool} {P : Nat → Nat → Rat} {lf : Nat → Rat} {c : Nat} {W : List Pr2} (h : WayOk n m sec P lf c W) {most : Rat} (hm : 0 < most) : ∀ j, j < W.length →
    0 < amt W P lf most j ∧ amt W P lf most j ≤ most ∧ amt W P lf most j ≤ lf (wI W 0) ∧ ∀ l, l < j → amt W P lf most j ≤ P (wI W (l + 1)) (wC W l)
  | 0, _ => ⟨minQ_pos hm h.lft, (minQ_le _ _).1, (minQ_le _ _).2, fun _ hl => absurd hl (Nat.not_lt_zero _)⟩
  | j + 1, hj => by
    obtain ⟨h1, h2, h3, h4⟩ := amt_ok h hm j (by omega)
    obtain ⟨g1, g2⟩ := minQ_le (amt W P lf most j) (P (wI W (j + 1)) (wC W j))
    refine ⟨minQ_pos h1 (h.pay j hj), Rat.le_trans g1 h2, Rat.le_trans g1 h3, fun l hl => ?_⟩
    by_cases e : l = j
    · rw [e]; exact g2
    · exact Rat.le_trans g1 (h4 l (by omega))
theorem Mu.amt {D : Nat} {P : Nat → Nat → Rat} {lf : Nat → Rat} {W : List Pr2} {most : Rat} (hm : Mu D most) (hl : Mu D (lf (wI W 0))) : ∀ j, (∀ l, l < j → Mu D (P (wI W (l + 1)) (wC W l))) → Mu D (amt W P lf most j)
  | 0, _ => hm.min hl
  | j + 1, h => (Mu.amt hm hl j fun l hl => h l (by omega)).min (h j (by omega))
theorem upP_row {m : Nat} (P : Nat → Nat → Rat) {i k : Nat} (d : Rat) (hk : k < m) (b : Nat) : sumIf m tt (upP P i k d b) = sumIf m tt (P b) + if b = i then d else 0 := by
  by_cases e : b = i
  · rw [if_pos e, sumIf_upd (f := P b) (g := upP P i k d b) hk (fun a _ ha => if_neg fun q => ha q.2), if_pos (show tt k = true from rfl)]
    unfold upP
    rw [if_pos ⟨e, rfl⟩]; grind
  · rw [if_neg e, Rat.add_zero]
    exact sumIf_congr fun a _ => ⟨rfl, if_neg fun q => e q.1⟩
theorem upP_col {n : Nat} (P : Nat → Nat → Rat) {i k : Nat} (d : Rat) (hi : i < n) (b : Nat) : sumIf n tt (fun a => upP P i k d a b) = sumIf n tt (fun a => P a b) + if b = k then d else 0 := by
  by_cases e : b = k
  · rw [if_pos e, sumIf_upd (f := fun a => P a b) (g := fun a => upP P i k d a b) hi (fun a _ ha => if_neg fun q => ha q.1), if_pos (show tt i = true from rfl)]
    unfold upP
    rw [if_pos ⟨rfl, e⟩]; grind
  · rw [if_neg e, Rat.add_zero]
    exact sumIf_congr fun a _ => ⟨rfl, if_neg fun q => e q.2⟩
theorem psh_col (W : List Pr2) (a : Rat) (P : Nat → Nat → Rat) (b : Nat) : ∀ j, (∀ l, l < j → wC W l ≠ b) → ∀ i, psh W a P j i b = P i b
  | 0, _, _ => rfl
  | j + 1, h, i => by
    have ih := psh_col W a P b j (fun l hl => h l (by omega)) i
    have hj := h j (by omega)
    unfold psh
    split
    · unfold upP
      rw [if_neg (fun q => hj q.2.symm), if_neg (fun q => hj q.2.symm), ih]
    · unfold upP
      rw [if_neg (fun q => hj q.2.symm), ih]
section
variable {n m : Nat} {sec : Nat → Nat → Bool} {pr got : Nat → Rat} {P : Nat → Nat → Rat} {lf : Nat → Rat} {c : Nat} {W : List Pr2} {a : Rat}
theorem psh_sums (h : WayOk n m sec P lf c W) : ∀ j, j ≤ W.length →
    (∀ i, sumIf m tt (psh W a P j i) = sumIf m tt (P i) + (if 0 < j ∧ i = wI W 0 then a else 0) - (if 0 < j ∧ j < W.length ∧ i = wI W j then a else 0)) ∧
    ∀ k, sumIf n tt (fun i => psh W a P j i k) = sumIf n tt (fun i => P i k) + if j = W.length ∧ k = c then a else 0
  | 0, _ => by
    have hne := h.ne
    refine ⟨fun i => ?_, fun k => ?_⟩
    · rw [if_neg (by omega), if_neg (by omega)]
      show sumIf m tt (P i) = _
      grind
    · rw [if_neg (by omega)]
      show sumIf n tt (fun i => P i k) = _
      grind
  | j + 1, hj => by
    obtain ⟨h1, h2⟩ := psh_sums h j (by omega)
    have hi := h.it j (by omega)
    have hc := h.cl j (by omega)
    by_cases e : j + 1 < W.length
    · have hi2 := h.it (j + 1) e
      have ep : psh W a P (j + 1) = upP (upP (psh W a P j) (wI W j) (wC W j) a) (wI W (j + 1)) (wC W j) (-a) := if_pos e
      rw [ep]
      refine ⟨fun i => ?_, fun k => ?_⟩
      · rw [upP_row _ _ hc, upP_row _ _ hc, h1 i]
        by_cases j0 : j = 0
        · subst j0
          have e1 : 1 < W.length := by omega
          simp only [Nat.lt_irrefl, false_and, if_false, Nat.zero_add, Nat.zero_lt_one, true_and, e1]
          split <;> split <;> grind
        · have : 0 < j := by omega
          simp only [this, true_and, Nat.zero_lt_succ, e, show j < W.length from by omega]
          split <;> split <;> split <;> grind
      · rw [upP_col _ _ hi2, upP_col _ _ hi, h2 k, if_neg (by omega), if_neg (show ¬ (j + 1 = W.length ∧ k = c) by omega)]
        split <;> grind
    · have ep : psh W a P (j + 1) = upP (psh W a P j) (wI W j) (wC W j) a := if_neg e
      have el : j + 1 = W.length := by omega
      have hf := h.fin
      rw [← el, Nat.add_sub_cancel] at hf
      rw [ep]
      refine ⟨fun i => ?_, fun k => ?_⟩
      · rw [upP_row _ _ hc, h1 i, if_neg (show ¬ (0 < j + 1 ∧ j + 1 < W.length ∧ i = wI W (j + 1)) by omega)]
        by_cases j0 : j = 0
        · subst j0
          simp only [Nat.lt_irrefl, false_and, if_false, Nat.zero_add, Nat.zero_lt_one, true_and]
          split <;> grind
        · have : 0 < j := by omega
          simp only [this, true_and, Nat.zero_lt_succ, show j < W.length from by omega]
          split <;> split <;> grind
      · rw [upP_col _ _ hi, h2 k, if_neg (by omega), hf]
        by_cases ek : k = c
        · rw [if_pos ek, if_pos ⟨el, ek⟩]; grind
        · rw [if_neg ek, if_neg (fun q => ek q.2)]; grind
theorem psh_p0 (h : Fl n m sec pr got P lf) (hw : WayOk n m sec P lf c W) (ha : 0 ≤ a) (hl : ∀ l, l + 1 < W.length → a ≤ P (wI W (l + 1)) (wC W l)) : ∀ j, j ≤ W.length →
    (∀ i, i < n → ∀ k, k < m → 0 ≤ psh W a P j i k) ∧ ∀ i, i < n → ∀ k, k < m → sec i k = false → psh W a P j i k = 0
  | 0, _ => ⟨h.p0, h.sc⟩
  | j + 1, hj => by
    obtain ⟨h1, h2⟩ := psh_p0 h hw ha hl j (by omega)
    have hcol := psh_col W a P (wC W j) j (fun l hlj => hw.dif l j hlj (by omega))
    have hs := hw.sec j (by omega)
    have q1 : ∀ i, i < n → ∀ k, k < m → 0 ≤ upP (psh W a P j) (wI W j) (wC W j) a i k := fun i hi k hk => by
      have := h1 i hi k hk
      unfold upP
      split <;> grind
    have q2 : ∀ i, i < n → ∀ k, k < m → sec i k = false → upP (psh W a P j) (wI W j) (wC W j) a i k = 0 := fun i hi k hk hsk => by
      unfold upP
      rw [if_neg]
      · exact h2 i hi k hk hsk
      · rintro ⟨rfl, rfl⟩
        rw [hs] at hsk; cases hsk
    by_cases e : j + 1 < W.length
    · have ep : psh W a P (j + 1) = upP (upP (psh W a P j) (wI W j) (wC W j) a) (wI W (j + 1)) (wC W j) (-a) := if_pos e
      have hlj := hl j e
      have hpj := hw.pay j e
      rw [ep]
      refine ⟨fun i hi k hk => ?_, fun i hi k hk hsk => ?_⟩
      · show 0 ≤ (if i = wI W (j + 1) ∧ k = wC W j then upP (psh W a P j) (wI W j) (wC W j) a i k + -a else upP (psh W a P j) (wI W j) (wC W j) a i k)
        split
        · next g =>
          have hc := hcol i
          rw [g.1] at hc
          rw [g.1, g.2]
          unfold upP
          rw [hc]
          split <;> grind
        · exact q1 i hi k hk
      · show (if i = wI W (j + 1) ∧ k = wC W j then upP (psh W a P j) (wI W j) (wC W j) a i k + -a else upP (psh W a P j) (wI W j) (wC W j) a i k) = 0
        rw [if_neg]
        · exact q2 i hi k hk hsk
        · rintro ⟨rfl, rfl⟩
          have := h.sc _ hi _ hk hsk
          rw [this] at hpj
          exact absurd hpj (by grind)
    · have ep : psh W a P (j + 1) = upP (psh W a P j) (wI W j) (wC W j) a := if_neg e
      rw [ep]
      exact ⟨q1, q2⟩
theorem Fl.push (h : Fl n m sec pr got P lf) (hw : WayOk n m sec P lf c W) (ha : 0 ≤ a) (hf : a ≤ lf (wI W 0)) (hl : ∀ l, l + 1 < W.length → a ≤ P (wI W (l + 1)) (wC W l)) :
    Fl n m sec pr (fun k => got k + if k = c then a else 0) (psh W a P W.length) (fun i => if i = wI W 0 then lf i - a else lf i) := by
  obtain ⟨h1, h2⟩ := psh_p0 h hw ha hl W.length (Nat.le_refl _)
  obtain ⟨h3, h4⟩ := psh_sums (a := a) hw W.length (Nat.le_refl _)
  have hne := hw.ne
  refine ⟨h1, fun i hi => ?_, h2, fun i hi => ?_, fun k hk => ?_⟩
  · have := h.l0 i hi
    split
    · next e => rw [e]; grind
    · exact this
  · rw [h3 i, if_neg (show ¬ (0 < W.length ∧ W.length < W.length ∧ i = wI W W.length) by omega), ← h.row i hi]
    by_cases e : i = wI W 0
    · rw [if_pos e, if_pos ⟨hne, e⟩]; grind
    · rw [if_neg e, if_neg (fun q => e q.2)]; grind
  · rw [h4 k, h.col k hk]
    simp only [true_and]
theorem Mu.psh {D : Nat} (hP : ∀ i, i < n → ∀ k, k < m → Mu D (P i k)) (ha : Mu D a) : ∀ j, ∀ i, i < n → ∀ k, k < m → Mu D (psh W a P j i k)
  | 0 => hP
  | j + 1 => fun i hi k hk => by
    have ih := Mu.psh hP ha j i hi k hk
    have hn : Mu D (-a) := by
      have := (Mu.zero (D := D)).sub ha
      rwa [show (0 : Rat) - a = -a by grind] at this
    have q1 : Mu D (upP (Go.Proofs.YtmghobajmhdbfaaGreatDoor.psh W a P j) (wI W j) (wC W j) a i k) := by
      unfold upP
      split
      · exact ih.add ha
      · exact ih
    show Mu D ((if j + 1 < W.length then _ else _ : Nat → Nat → Rat) i k)
    split
    · unfold upP at q1 ⊢
      split
      · exact q1.add hn
      · exact q1
    · exact q1
end
end Go.Proofs.YtmghobajmhdbfaaGreatDoor
namespace Go.Sx
open Go Go.RowKit
section
variable {P : Program} {N : Nat} {ρ : Nat → Value} {w0 w w' : World}
  {d : Option Tmp} {ty : TypeId} {pos : String} {aft : Array Edge} {g : Option (Nat × Bool)} {x y z : Operand} {t t' e : TypeId} {H : List Blk} {k b o : Nat} {v : Value} {K : Value → Prop} {K2 : Value → World → Prop}
theorem flat_elemG {α : Type} {enc : α → List Value} {size : Nat} (hu : ∀ x, (enc x).length = size) (L : List α) (sp : List Value) (d : α) {i : Nat} (hi : i < L.length) : ((L.flatMap enc ++ sp).drop (i * size)).take size = enc (L.getD i d) := by
  have h1 : (i + 1) * size ≤ L.length * size := Nat.mul_le_mul_right _ hi
  rw [Nat.add_mul] at h1
  have h2 := flat_len hu L
  rw [List.drop_append_of_le_length (by omega), List.take_append_of_le_length (by rw [List.length_drop]; omega)]
  exact flat_elem hu L d hi
theorem flat_setG {α : Type} {enc : α → List Value} {size : Nat} (hu : ∀ x, (enc x).length = size) (L : List α) (sp : List Value) (x : α) {i : Nat} (hi : i < L.length) : splice (L.flatMap enc ++ sp) (i * size) (enc x) = (L.set i x).flatMap enc ++ sp := by
  have h1 : (i + 1) * size ≤ L.length * size := Nat.mul_le_mul_right _ hi
  rw [Nat.add_mul] at h1
  have h2 := flat_len hu L
  rw [← flat_set hu L x hi]
  unfold splice
  rw [List.take_append_of_le_length (by omega), List.drop_append_of_le_length (by rw [hu]; omega)]
  simp
theorem s_ldS {α : Type} {enc : α → List Value} {size : Nat} {L : List α} {sp : List Value} {i : Nat} {zz : List Value} {agg : Bool} (dd : α) (hu : ∀ x, (enc x).length = size) (hx : ev N ρ x = .pointer (some ⟨b, o, none⟩)) (ht : vinfo P t = some (size, agg, zz)) (hS : St w0 w H) (hk : H[k]? = some (b, t', L.flatMap enc ++ sp))
    (ho : o = i * size) (hi : i < L.length) (hv : mkv agg (enc (L.getD i dd)) = v) (hagg : agg = true ∨ size = 1) (h : K v) : Read1 P N ρ w ⟨d, .load t x, ty, pos, aft, g⟩ K := by
  subst ho
  have hat := hS.at hk (i * size) size
  rw [flat_elemG hu L sp dd hi] at hat
  exact s_ld hx ht hat (hu _) hv hagg h
theorem s_stS {α : Type} {enc : α → List Value} {size : Nat} {L : List α} {sp : List Value} {i : Nat} {zz : List Value} {agg : Bool} (u : α) (hu : ∀ x, (enc x).length = size) (hx : ev N ρ x = .pointer (some ⟨b, o, none⟩)) (hy : ev N ρ y = v) (ht : vinfo P t = some (size, agg, zz)) (hS : St w0 w H) (hk : H[k]? = some (b, t', L.flatMap enc ++ sp))
    (ho : o = i * size) (hi : i < L.length) (hv : v.cells.toList = enc u) (h1 : (enc u).all (·.oneCell') = true)
    (h : ∀ w', St w0 w' (H.set k (b, t', (L.set i u).flatMap enc ++ sp)) → K2 undef w') : Hup1 P N ρ w ⟨d, .store t x y, ty, pos, aft, g⟩ K2 := by
  subst ho
  refine s_sta hx hy ht hS hk hv (hu u) ?_ h1 (fun w' hS' => ?_)
  · rw [List.length_append, flat_len hu]
    have : (i + 1) * size ≤ L.length * size := Nat.mul_le_mul_right _ hi
    rw [Nat.add_mul] at this; omega
  · rw [flat_setG hu L sp u hi] at hS'
    exact h w' hS'
theorem s_nilp {a : Addr} (hx : ev N ρ x = .pointer (some a)) (h : K (.pointer (some a))) : Pure1 P N ρ ⟨d, .nilCheck x, ty, pos, aft, g⟩ K :=
  ⟨_, fun w => (by simp [execOp, hx]), h⟩
/-- The head of a block, read as a slice. -/
theorem St.slg {α : Type} {enc : α → List Value} {size : Nat} {L : List α} {sp : List Value} (h : St w0 w H) (hk : H[k]? = some (b, t, L.flatMap enc ++ sp)) (hu : ∀ x, (enc x).length = size) {n cap : Nat} (hn : n ≤ L.length) (h1 : n ≤ cap) (h2 : cap ≤ 9223372036854775807) :
    Sl enc size w (.slice (some ⟨b, 0, none⟩) n cap) (L.take n) := by
  have hl : (L.take n).length = n := by rw [List.length_take]; omega
  have e : L.flatMap enc ++ sp = (L.take n).flatMap enc ++ ((L.drop n).flatMap enc ++ sp) := by
    rw [← List.append_assoc, ← List.flatMap_append, List.take_append_drop]
  rw [e] at hk
  have := h.sl (enc := enc) (size := size) (L := L.take n) (spare := (L.drop n).flatMap enc ++ sp) (cap := cap) hk rfl hu (by rw [hl]; exact h1) (by unfold Go.maxLen; omega)
  rwa [hl] at this
end
end Go.Sx
namespace Go.Sx
open Go Go.RowKit Go.Proofs.YtmghobajmhdbfaaGreatDoor
structure Rw (α : Type) where
  b : Nat
  cap : Nat
  X : List α
  sp : List Value
def zRw {α : Type} : Rw α := ⟨0, 0, [], []⟩
def Rw.v {α : Type} (r : Rw α) : Value := .slice (some ⟨r.b, 0, none⟩) r.X.length r.cap
def Rw.blk {α : Type} (enc : α → List Value) (t : TypeId) (r : Rw α) : Blk := (r.b, t, r.X.flatMap enc ++ r.sp)
def Rw.put {α : Type} (r : Rw α) (j : Nat) (u : α) : Rw α := ⟨r.b, r.cap, r.X.set j u, r.sp⟩
def mB {α : Type} (enc : α → List Value) (t tS : TypeId) (bo : Nat) (R : List (Rw α)) (H : List Blk) : List Blk := (bo, tS, R.map Rw.v) :: (R.map (Rw.blk enc t) ++ H)
theorem getD_ge {α : Type} (l : List α) (d : α) {i : Nat} (h : i < l.length) : l.getD i d = l[i] := by
  rw [List.getD_eq_getElem?_getD, List.getElem?_eq_getElem h]; rfl
theorem getD_setL {α : Type} (l : List α) (d u : α) {i j : Nat} (hi : i < l.length) : (l.set i u).getD j d = if j = i then u else l.getD j d := by
  rw [List.getD_eq_getElem?_getD, List.getElem?_set, List.getD_eq_getElem?_getD]
  by_cases h : j = i
  · subst h; simp [hi]
  · rw [if_neg (fun e => h e.symm), if_neg h]
theorem mB_at {α : Type} {enc : α → List Value} {t tS : TypeId} {bo : Nat} {R : List (Rw α)} {H : List Blk} {i : Nat} (hi : i < R.length) : (mB enc t tS bo R H)[i + 1]? = some ((R.getD i zRw).b, t, (R.getD i zRw).X.flatMap enc ++ (R.getD i zRw).sp) := by
  unfold mB
  rw [List.getElem?_cons_succ, List.getElem?_append_left (by rw [List.length_map]; exact hi), List.getElem?_map, List.getElem?_eq_getElem hi, getD_ge R zRw hi]; rfl
theorem mB_row {α : Type} {R : List (Rw α)} {i : Nat} (hi : i < R.length) : (R.map Rw.v)[i]? = some (R.getD i zRw).v := by
  rw [List.getElem?_map, List.getElem?_eq_getElem hi, getD_ge R zRw hi]; rfl
theorem put_v {α : Type} (r : Rw α) (j : Nat) (u : α) : (r.put j u).v = r.v := by
  unfold Rw.v Rw.put; rw [List.length_set]
theorem map_put_v {α : Type} (R : List (Rw α)) {i : Nat} (j : Nat) (u : α) (hi : i < R.length) : (R.set i ((R.getD i zRw).put j u)).map Rw.v = R.map Rw.v := by
  rw [List.map_set, put_v, getD_ge R zRw hi]
  refine List.ext_getElem (by simp) fun k h1 h2 => ?_
  rw [List.getElem_set]
  split
  · next h => subst h; rw [List.getElem_map]
  · rfl
/-- What a matrix in memory holds. -/
structure MatG {α : Type} (R : List (Rw α)) (n m : Nat) (f : Nat → Nat → α) : Prop where
  len : R.length = n
  row : ∀ i, i < n → (R.getD i zRw).X = tab m (f i)
  cap : ∀ i, i < n → m ≤ (R.getD i zRw).cap ∧ (R.getD i zRw).cap ≤ 9223372036854775807
section
variable {α : Type} {R : List (Rw α)} {n m : Nat} {f g : Nat → Nat → α}
theorem MatG.xlen (h : MatG R n m f) {i : Nat} (hi : i < n) : (R.getD i zRw).X.length = m := by rw [h.row i hi, tab_len]
theorem MatG.v (h : MatG R n m f) {i : Nat} (hi : i < n) : (R.getD i zRw).v = .slice (some ⟨(R.getD i zRw).b, 0, none⟩) m (R.getD i zRw).cap := by unfold Rw.v; rw [h.xlen hi]
theorem MatG.get (h : MatG R n m f) {i j : Nat} (hi : i < n) (hj : j < m) (d : α) : (R.getD i zRw).X.getD j d = f i j := by rw [h.row i hi]; exact tab_get _ _ hj
theorem MatG.congr (h : MatG R n m f) (e : ∀ i, i < n → ∀ j, j < m → f i j = g i j) : MatG R n m g := ⟨h.len, fun i hi => by rw [h.row i hi]; exact tab_congr fun j hj => e i hi j hj, h.cap⟩
theorem MatG.put (h : MatG R n m f) {i : Nat} (hi : i < n) (j : Nat) (u : α) : MatG (R.set i ((R.getD i zRw).put j u)) n m fun a b => if a = i ∧ b = j then u else f a b := by
  have hl : i < R.length := by rw [h.len]; exact hi
  refine ⟨by rw [List.length_set, h.len], fun a ha => ?_, fun a ha => ?_⟩
  · rw [getD_setL _ _ _ hl]
    by_cases e : a = i
    · rw [if_pos e]
      show (R.getD i zRw).X.set j u = _
      rw [h.row i hi, tab_set, e]
      exact tab_congr fun b _ => by
        by_cases q : b = j
        · rw [if_pos q, if_pos ⟨rfl, q⟩]
        · rw [if_neg q, if_neg fun z => q z.2]
    · rw [if_neg e, h.row a ha]
      exact tab_congr fun b _ => by rw [if_neg fun z => e z.1]
  · rw [getD_setL _ _ _ hl]
    by_cases e : a = i
    · rw [if_pos e]; exact h.cap i hi
    · rw [if_neg e]; exact h.cap a ha
theorem MatG.sl {enc : α → List Value} {size : Nat} {t tS : TypeId} {bo : Nat} {H : List Blk} {w0 w : World} (h : MatG R n m f) (hS : St w0 w (mB enc t tS bo R H)) (hu : ∀ x, (enc x).length = size) {i : Nat} (hi : i < n) : Sl enc size w (R.getD i zRw).v (tab m (f i)) := by
  have hl : i < R.length := by rw [h.len]; exact hi
  have := hS.slg (mB_at hl) hu (n := m) (cap := (R.getD i zRw).cap) (by rw [h.xlen hi]; omega) (h.cap i hi).1 (h.cap i hi).2
  rwa [h.row i hi, List.take_of_length_le (by rw [tab_len]; omega), ← h.v hi] at this
/-- The rows' slices, read. -/
def enV (v : Value) : List Value := [v]
theorem enV_flat (l : List Value) : l.flatMap enV = l := by
  induction l with
  | nil => rfl
  | cons a l ih => rw [List.flatMap_cons, ih]; rfl
end
/-- A matrix that is read: a slice of slices. -/
structure Mts {α : Type} (enc : α → List Value) (size : Nat) (w : World) (v : Value) (A : List (List α)) (vs : List Value) : Prop where
  len : vs.length = A.length
  sl : Sl enV 1 w v vs
  row : ∀ i, i < A.length → Sl enc size w (vs.getD i undef) (A.getD i [])
theorem Mts.below {α : Type} {enc : α → List Value} {size : Nat} {w w' : World} {v : Value} {A : List (List α)} {vs : List Value} (h : Mts enc size w v A vs) (hb : Below w.heap.size w w') : Mts enc size w' v A vs := ⟨h.len, h.sl.below hb, fun i hi => (h.row i hi).below hb⟩
def tabM {α : Type} (n m : Nat) (f : Nat → Nat → α) : List (List α) := tab n fun i => tab m (f i)
theorem tabM_len {α : Type} (n m : Nat) (f : Nat → Nat → α) : (tabM n m f).length = n := tab_len _ _
theorem tabM_row {α : Type} {n m : Nat} (f : Nat → Nat → α) {i : Nat} (hi : i < n) : (tabM n m f).getD i [] = tab m (f i) := tab_get _ _ hi
section
variable {P : Program} {N : Nat} {ρ : Nat → Value} {w0 w w' : World} {d : Option Tmp} {ty : TypeId} {pos : String} {aft : Array Edge} {g : Option (Nat × Bool)} {x y z : Operand} {t t' e : TypeId} {H : List Blk} {k b o : Nat} {v : Value} {K : Value → Prop} {K2 : Value → World → Prop}
  {α : Type} {enc : α → List Value} {size : Nat} {R : List (Rw α)} {tR tS : TypeId} {bo : Nat} {zz : List Value}
end
end Go.Sx
namespace Go.Sx
open Go Go.RowKit
/-- A slice of one's own that begins anywhere in its block (behind 'pre'). -/
def Gq {α : Type} (enc : α → List Value) (e : TypeId) (size : Nat) (v : Value) (X : List α) (L : List Blk) : Prop :=
  (X = [] ∧ ∃ a cap, v = .slice a 0 cap) ∨
  ∃ b cap pre sp, v = .slice (some ⟨b, pre.length, none⟩) X.length cap ∧ L = [(b, e, pre ++ (X.flatMap enc ++ sp))] ∧ X.length ≤ cap ∧ cap ≤ Go.maxLen ∧ sp.length = (cap - X.length) * size
section
variable {α : Type} {enc : α → List Value} {e : TypeId} {size : Nat} {w0 w : World} {H L : List Blk} {X : List α} {v : Value}
theorem Gq.len (h : Gq enc e size v X L) : ∃ a cap, v = .slice a X.length cap := by
  obtain ⟨rfl, a, cap, rfl⟩ | ⟨b, cap, pre, sp, rfl, _⟩ := h
  · exact ⟨_, _, rfl⟩
  · exact ⟨_, _, rfl⟩
theorem Gq.made {b n : Nat} (hn : X.length = n) (hm : n ≤ 9223372036854775807) : Gq enc e size (.slice (some ⟨b, 0, none⟩) n n) X [(b, e, X.flatMap enc)] :=
  .inr ⟨b, n, [], [], by rw [hn]; rfl, by rw [List.nil_append, List.append_nil], by omega, by unfold Go.maxLen; omega, by rw [hn, Nat.sub_self, Nat.zero_mul]; rfl⟩
theorem Gq.sl (h : Gq enc e size v X L) (hS : St w0 w (H ++ L)) (hu : ∀ x, (enc x).length = size) (hne : X ≠ []) : Sl enc size w v X := by
  obtain ⟨rfl, _⟩ | ⟨b, cap, pre, sp, rfl, rfl, h1, h2, h3⟩ := h
  · exact absurd rfl hne
  have hh := (hS.perm List.perm_append_comm).get (k := 0) (b := b) (t := e) (cs := pre ++ (X.flatMap enc ++ sp)) rfl
  refine ⟨⟨some ⟨b, pre.length, none⟩, cap, rfl, h1, h2, fun h => by cases h⟩, fun i hi j u hj => ?_⟩
  have hj' : j < size := by
    have := (List.getElem?_eq_some_iff.1 hj).1
    rwa [hu] at this
  rw [show sbase (.slice (some ⟨b, pre.length, none⟩) X.length cap) = ⟨b, pre.length, none⟩ from rfl, add_lit, add_lit, cell_of_row w b _ _ e _ hh]
  have hlt : i * size + j < (X.flatMap enc).length := by
    rw [flat_len hu]
    have : (i + 1) * size ≤ X.length * size := Nat.mul_le_mul_right _ hi
    rw [Nat.add_mul] at this; omega
  rw [List.getElem?_toArray, Nat.add_assoc, List.getElem?_append_right (Nat.le_add_right _ _), Nat.add_sub_cancel_left, List.getElem?_append_left hlt, flat_get hu X i j hi hj']
  exact hj
end
section
variable {P : Program} {N : Nat} {ρ : Nat → Value} {w0 w w' : World} {d : Option Tmp} {ty : TypeId} {pos : String} {aft : Array Edge} {g : Option (Nat × Bool)} {x y z : Operand} {t t' e : TypeId} {H L : List Blk} {b : Nat} {cs : List Value} {v : Value} {K2 : Value → World → Prop} {K : Value → Prop}
/-- The head is cut off. -/
theorem s_cut1 {α : Type} {enc : α → List Value} {size bytes : Nat} {zz : List Value} {x0 : α} {X : List α} (ht : sinfo P t = some (e, size, bytes, zz)) (hu : ∀ x, (enc x).length = size) (hG : Gq enc e size v (x0 :: X) L) (hx : ev N ρ x = v) {kl : IntKind} (hl : ev N ρ y = .int kl 1)
    (h : ∀ v', Gq enc e size v' X L → K v') : Pure1 P N ρ ⟨d, .slice t x (some y) none none, ty, pos, aft, g⟩ K := by
  obtain ⟨hut, ii, zv, hi1, hz, hsize, _⟩ := sinfo_parts ht
  obtain ⟨h0, _⟩ | ⟨b, cap, pre, sp, rfl, rfl, h1, h2, h3⟩ := hG
  · cases h0
  rw [List.length_cons] at h1 h3
  refine ⟨.slice (if cap = 1 then some ⟨b, pre.length, none⟩ else some ⟨b, pre.length + size, none⟩) X.length (cap - 1), fun w => ?_, h _ ?_⟩
  · have hle : 1 ≤ X.length + 1 := by omega
    have hi' : (0 : Int) ≤ 1 ∧ (1 : Int) ≤ ((X.length + 1 : Nat) : Int) := by omega
    simp [execOp, hx, hl, Instr.sliceAt, Instr.slice, Instr.sliceBounds, Instr.sliceBound, asIntOf, run_underlying hut, sizeOf, typeInfo, hi1, hsize, Addr.add_lit]
    intro h9
    omega
  · by_cases hc : cap = 1
    · rw [if_pos hc]
      exact .inl ⟨List.eq_nil_of_length_eq_zero (by omega), _, _, by rw [show X.length = 0 by omega]⟩
    · rw [if_neg hc]
      refine .inr ⟨b, cap - 1, pre ++ enc x0, sp, by rw [List.length_append, hu], ?_, by omega, by omega, ?_⟩
      · rw [List.flatMap_cons]; simp only [List.append_assoc]
      · rw [h3]; congr 1; omega
theorem run_app_off (w : World) {t ty e : TypeId} {i : TypeInfo} (ht : P.underlying t = some (.slice e)) (hi : P.info? e = some i) {g off sLen sCap : Nat} {cur : Array Value} (hg : w.heap[g]? = some (.cells cur e (0, 0)))
    {a : Addr} {m c : Nat} {news : List Value} (hl : news.length = m * i.size) (hnews : ∀ j u, news[j]? = some u → w.cell? (a.add j) = some u) (h1 : ∀ u ∈ news, u.oneCell' = true)
    (hroom : sLen + m ≤ sCap) (hfit : off + sLen * i.size + news.length ≤ cur.size) :
    (Builtin.append_ #[t, t] ty #[.slice (some ⟨g, off, none⟩) sLen sCap, .slice (some a) m c]).run P w =
      .ok (.slice (some ⟨g, off, none⟩) (sLen + m) sCap) (w.setRow g (cur.toList.take (off + sLen * i.size) ++ news ++ cur.toList.drop (off + sLen * i.size + news.length)).toArray) := by
  have hf := run_firstCells_some (P := P) w i.size m a m c news hl hnews
  have hst := run_storeCells_at P g (off + sLen * i.size) e news 0 cur w hg (by simpa using hfit) h1
  simp only [Nat.add_zero] at hst
  simp [Builtin.append_, run_underlying ht, sizeOf, typeInfo, hi, Builtin.lenOf, hroom, hf, Addr.add_lit, hst]
/-- append to a queue that is not empty. -/
theorem s_appq {α : Type} {enc : α → List Value} {size bytes c : Nat} {zz : List Value} {X : List α} (xs : List α) {xv : Value} (hx : ev N ρ x = v) (hy : ev N ρ y = xv) (ht : sinfo P t = some (e, size, bytes, zz))
    (hG : Gq enc e size v X L) (hne : X ≠ []) (hS : St w0 w ((b, t', cs) :: (H ++ L))) (hxv : xv = .slice (some ⟨b, 0, none⟩) xs.length c) (hcs : cs = xs.flatMap enc) (hu : ∀ x, (enc x).length = size) (h1 : ∀ u ∈ cs, u.oneCell' = true)
    (h63 : X.length + xs.length ≤ 9223372036854775807) (hb : (X.length + xs.length) * bytes ≤ 140737488355328)
    (h : ∀ v' L' w', Gq enc e size v' (X ++ xs) L' → St w0 w' (H ++ L') → K2 v' w') :
    Hup1 P N ρ w ⟨d, .call ⟨.builtin .append, #[x, y], #[t, t]⟩, ty, pos, aft, g⟩ K2 := by
  obtain ⟨rfl, _⟩ | ⟨bq, cap, pre, sp, rfl, rfl, g1, g2, g3⟩ := hG
  · exact absurd rfl hne
  have hat := hS.at (k := 0) (b := b) (t := t') (cs := cs) rfl 0 cs.length
  rw [List.drop_zero, List.take_length] at hat
  obtain ⟨hut, ii, zv, hi1, hz, hsize, hby, hcz, hzl⟩ := sinfo_parts ht
  have hS1 : St w0 w ((bq, e, pre ++ (X.flatMap enc ++ sp)) :: (b, t', cs) :: H) := hS.perm ((List.Perm.cons _ List.perm_append_comm).trans (List.Perm.swap _ _ _))
  have hh := hS1.get (k := 0) (b := bq) (t := e) (cs := pre ++ (X.flatMap enc ++ sp)) rfl
  have hfl := flat_len hu X
  have hcl : cs.length = xs.length * size := by rw [hcs, flat_len hu]
  subst hxv
  by_cases hroom : X.length + xs.length ≤ cap
  · have hspl : xs.length * size ≤ sp.length := by rw [g3]; exact Nat.mul_le_mul_right _ (by omega)
    have hr := run_app_off (P := P) w (ty := ty) hut hi1 hh (off := pre.length) (sLen := X.length) (sCap := cap) (a := ⟨b, 0, none⟩) (m := xs.length) (c := c) (news := cs) (by rw [hcl, hsize]) hat h1 hroom
      (by rw [hsize, List.size_toArray, List.length_append, List.length_append, hfl, hcl]; omega)
    have ecells : (pre ++ (X.flatMap enc ++ sp)).toArray.toList.take (pre.length + X.length * ii.size) ++ cs ++ (pre ++ (X.flatMap enc ++ sp)).toArray.toList.drop (pre.length + X.length * ii.size + cs.length) = pre ++ ((X ++ xs).flatMap enc ++ sp.drop (xs.length * size)) := by
      rw [hsize, ← hfl, List.flatMap_append, ← hcs, ← hcl, show pre ++ (X.flatMap enc ++ sp) = (pre ++ X.flatMap enc) ++ sp from (List.append_assoc _ _ _).symm, ← List.length_append, ← List.drop_drop, List.take_left, List.drop_left]
      simp only [List.append_assoc]
    rw [ecells] at hr
    refine hup_of_run (v := .slice (some ⟨bq, pre.length, none⟩) (X.length + xs.length) cap) (w' := w.setRow bq (pre ++ ((X ++ xs).flatMap enc ++ sp.drop (xs.length * size))).toArray) ?_ (h _ [(bq, e, pre ++ ((X ++ xs).flatMap enc ++ sp.drop (xs.length * size)))] _ ?_ ?_)
    · simp [execOp, resolve, invoke, builtin, hx, hy, hr]
    · refine .inr ⟨bq, cap, pre, sp.drop (xs.length * size), by rw [List.length_append], rfl, by rw [List.length_append]; exact hroom, g2, ?_⟩
      rw [List.length_drop, g3, List.length_append, ← Nat.sub_mul]; congr 1; omega
    · have := hS1.setRow (k := 0) rfl (pre ++ ((X ++ xs).flatMap enc ++ sp.drop (xs.length * size)))
      exact (this.drop (List.Sublist.cons_cons _ (List.sublist_cons_self _ _))).perm (List.perm_append_comm (l₁ := [_]))
  · have holds : ∀ j u, (X.flatMap enc)[j]? = some u → w.cell? ((⟨bq, pre.length, none⟩ : Addr).add j) = some u := fun j u hj => by
      rw [add_lit, cell_of_row w bq _ _ e _ hh, List.getElem?_toArray, List.getElem?_append_right (Nat.le_add_right _ _), Nat.add_sub_cancel_left, List.getElem?_append_left (List.getElem?_eq_some_iff.1 hj).1]
      exact hj
    have hr := run_append_grow (P := P) w t ty e ii zv hut hi1 hz ⟨bq, pre.length, none⟩ X.length cap (X.flatMap enc) (by rw [hsize, hfl]) holds ⟨b, 0, none⟩ xs.length c cs (by rw [hcl, hsize]) hat (by omega) (by omega) (growslice_fits (by omega) (by rw [hby]; exact hb))
    have hge := grownCap_ge w (X.length + xs.length) cap e
    have hcm := grownCap_le_maxLen w (X.length + xs.length) cap e (by unfold Go.maxLen; omega)
    generalize grownCap w (X.length + xs.length) cap e = gc at hr hge hcm
    have ecells : (X.flatMap enc).toArray ++ cs.toArray ++ Builtin.zeroCells zv.cells (gc - (X.length + xs.length)) = ([] ++ ((X ++ xs).flatMap enc ++ (Builtin.zeroCells zv.cells (gc - (X.length + xs.length))).toList)).toArray := by
      rw [List.flatMap_append, ← hcs]
      apply Array.ext'
      simp
    rw [ecells] at hr
    have hS2 := ((hS1.drop (List.sublist_cons_self _ _)).drop (List.sublist_cons_self _ _)).grow (Below.refl w.heap.size w).drew
    have hS3 := hS2.alloc ([] ++ ((X ++ xs).flatMap enc ++ (Builtin.zeroCells zv.cells (gc - (X.length + xs.length))).toList)) e
    refine hup_of_run (v := .slice (some ⟨w.heap.size, 0, none⟩) (X.length + xs.length) gc) ?_ (h _ [(w.heap.size, e, [] ++ ((X ++ xs).flatMap enc ++ (Builtin.zeroCells zv.cells (gc - (X.length + xs.length))).toList))] _ ?_ (hS3.perm (List.perm_append_comm (l₁ := [_]))))
    · simp only [execOp, resolve, invoke, builtin, hx, hy, Sem.run_bind, Sem.run_pure, Result.andThen_ok, List.map_toArray, List.map_cons, List.map_nil, hr]
    · refine .inr ⟨w.heap.size, gc, [], _, by rw [List.length_append]; rfl, rfl, by rw [List.length_append]; exact hge, hcm, ?_⟩
      rw [Array.length_toList, size_zeroCells, List.length_append, ← Array.length_toList, hcz, hzl]
end
end Go.Sx
namespace Go.Sx
open Go Go.RowKit Go.Proofs.YtmghobajmhdbfaaGreatDoor
theorem preAt (pre : List Blk) (T : List Blk) (k : Nat) : (pre ++ T)[pre.length + k]? = T[k]? := by
  rw [List.getElem?_append_right (by omega)]; congr 1; omega
theorem preSet (pre : List Blk) (T : List Blk) (k : Nat) (u : Blk) : (pre ++ T).set (pre.length + k) u = pre ++ T.set k u := by
  rw [List.set_append_right _ _ (by omega)]; congr 2; omega
/-- A matrix behind further blocks: a row's slice, an element, stores. -/
def mD {α : Type} (enc : α → List Value) (t tS : TypeId) (bo : Nat) (cs : List Value) (R : List (Rw α)) (H : List Blk) : List Blk := (bo, tS, cs) :: (R.map (Rw.blk enc t) ++ H)
section
variable {P : Program} {N : Nat} {ρ : Nat → Value} {w0 w w' : World} {d : Option Tmp} {ty : TypeId} {pos : String} {aft : Array Edge} {g : Option (Nat × Bool)} {x y z : Operand} {t t' e : TypeId} {H : List Blk} {k b o : Nat} {v : Value} {K : Value → Prop} {K2 : Value → World → Prop}
  {α : Type} {enc : α → List Value} {size : Nat} {R : List (Rw α)} {tR tS : TypeId} {bo : Nat} {cs : List Value} {zz : List Value}
theorem mD_at {i : Nat} (hi : i < R.length) : (mD enc tR tS bo cs R H)[i + 1]? = some ((R.getD i zRw).b, tR, (R.getD i zRw).X.flatMap enc ++ (R.getD i zRw).sp) := by
  unfold mD
  rw [List.getElem?_cons_succ, List.getElem?_append_left (by rw [List.length_map]; exact hi), List.getElem?_map, List.getElem?_eq_getElem hi, getD_ge R zRw hi]; rfl
theorem mD_put {i : Nat} (j : Nat) (u : α) (hi : i < R.length) :
    (mD enc tR tS bo cs R H).set (i + 1) ((R.getD i zRw).b, tR, ((R.getD i zRw).X.set j u).flatMap enc ++ (R.getD i zRw).sp) = mD enc tR tS bo cs (R.set i ((R.getD i zRw).put j u)) H := by
  unfold mD
  rw [List.set_cons_succ, List.set_append_left _ _ (by rw [List.length_map]; exact hi), List.map_set]; rfl
theorem s_mrowD (pre : List Blk) {i : Nat} (hx : ev N ρ x = .pointer (some ⟨bo, o, none⟩)) (ht : vinfo P t = some (1, false, zz)) (hS : St w0 w (pre ++ mD enc tR tS bo cs R H)) (ho : o = i) (hv : cs[i]? = some v) (h : K v) : Read1 P N ρ w ⟨d, .load t x, ty, pos, aft, g⟩ K := by
  subst ho
  exact s_ldc (k := pre.length + 0) hx ht hS (by rw [preAt]; rfl) hv h
theorem s_mstD (pre : List Blk) {i j : Nat} {agg : Bool} (u : α) (hu : ∀ x, (enc x).length = size) (hx : ev N ρ x = .pointer (some ⟨b, o, none⟩)) (hy : ev N ρ y = v) (ht : vinfo P t = some (size, agg, zz)) (hS : St w0 w (pre ++ mD enc tR tS bo cs R H)) (hb : (R.getD i zRw).b = b) (hi : i < R.length)
    (ho : o = j * size) (hj : j < (R.getD i zRw).X.length) (hv : v.cells.toList = enc u) (h1 : (enc u).all (·.oneCell') = true) (h : ∀ w', St w0 w' (pre ++ mD enc tR tS bo cs (R.set i ((R.getD i zRw).put j u)) H) → K2 undef w') : Hup1 P N ρ w ⟨d, .store t x y, ty, pos, aft, g⟩ K2 := by
  subst hb
  refine s_stS (k := pre.length + (i + 1)) u hu hx hy ht hS (by rw [preAt]; exact mD_at hi) ho hj hv h1 fun w' hS' => ?_
  rw [preSet, mD_put j u hi] at hS'
  exact h w' hS'
theorem MatG.slD {n m : Nat} {f : Nat → Nat → α} (pre : List Blk) (h : MatG R n m f) (hS : St w0 w (pre ++ mD enc tR tS bo cs R H)) (hu : ∀ x, (enc x).length = size) {i : Nat} (hi : i < n) : Sl enc size w (R.getD i zRw).v (tab m (f i)) := by
  have hl : i < R.length := by rw [h.len]; exact hi
  have := hS.slg (k := pre.length + (i + 1)) (by rw [preAt]; exact mD_at hl) hu (n := m) (cap := (R.getD i zRw).cap) (by rw [h.xlen hi]; omega) (h.cap i hi).1 (h.cap i hi).2
  rwa [h.row i hi, List.take_of_length_le (by rw [tab_len]; omega), ← h.v hi] at this
theorem MatG.mtsD {n m cap : Nat} {f : Nat → Nat → α} {so : List Value} (pre : List Blk) (h : MatG R n m f) (hS : St w0 w (pre ++ mD enc tR tS bo (R.map Rw.v ++ so) R H)) (hu : ∀ x, (enc x).length = size) (h1 : n ≤ cap) (h2 : cap ≤ 9223372036854775807) :
    Mts enc size w (.slice (some ⟨bo, 0, none⟩) n cap) (tabM n m f) (R.map Rw.v) := by
  have hk : (pre ++ mD enc tR tS bo (R.map Rw.v ++ so) R H)[pre.length + 0]? = some (bo, tS, (R.map Rw.v).flatMap enV ++ so) := by rw [preAt, enV_flat]; rfl
  have hsl := hS.slg hk (fun _ => rfl) (n := n) (cap := cap) (by rw [List.length_map, h.len]; omega) h1 h2
  rw [List.take_of_length_le (by rw [List.length_map, h.len]; omega)] at hsl
  refine ⟨by rw [List.length_map, h.len, tabM_len], hsl, fun i hi => ?_⟩
  rw [tabM_len] at hi
  rw [tabM_row f hi, List.getD_eq_getElem?_getD, mB_row (by rw [h.len]; exact hi)]
  exact h.slD pre hS hu hi
end
theorem mC_row {α : Type} {R : List (Rw α)} {so : List Value} {i : Nat} (hi : i < R.length) : (R.map Rw.v ++ so)[i]? = some (R.getD i zRw).v := by
  rw [List.getElem?_append_left (by rw [List.length_map]; exact hi)]; exact mB_row hi
end Go.Sx
namespace Go.Proofs.YtmghobajmhdbfaaGreatDoor
open Go Go.RowKit Go.Sx
def flW (W : List Pr2) : List Int := W.flatMap fun p => [(p.1 : Int), (p.2 : Int)]
theorem flW_len (W : List Pr2) : (flW W).length = 2 * W.length := by
  unfold flW
  induction W with
  | nil => rfl
  | cons p W ih => rw [List.flatMap_cons, List.length_append, ih, List.length_cons]; simp; omega
theorem flW_take (W : List Pr2) {j : Nat} (hj : j < W.length) : flW (W.take (j + 1)) = flW (W.take j) ++ [((wI W j : Nat) : Int), ((wC W j : Nat) : Int)] := by
  unfold flW wI wC
  rw [List.take_succ_eq_append_getElem hj, List.flatMap_append, List.getD_eq_getElem?_getD, List.getElem?_eq_getElem hj]
  rfl
structure Trc (F B : List Int) (W : List Pr2) : Prop where
  ne : 0 < W.length
  it : ∀ j, j < W.length → wI W j < F.length
  cl : ∀ j, j < W.length → wC W j < B.length
  fr : ∀ j, j < W.length → F.getD (wI W j) 0 = wC W j
  bk : ∀ j, j + 1 < W.length → B.getD (wC W j) 0 = wI W (j + 1)
  fin : B.getD (wC W (W.length - 1)) 0 = -1
theorem enI_all (xs : List Int) : ∀ u ∈ xs.flatMap enI, u.oneCell' = true := fun u hu => by
  obtain ⟨x, _, h⟩ := List.mem_flatMap.1 hu
  rw [List.mem_singleton.1 (show u ∈ [Value.int .i64 x] from h)]; rfl
def nxI (W : List Pr2) (j : Nat) : Int := if j < W.length then (wI W j : Int) else -1
theorem trace_ok (f vF vB : Value) (F B : List Int) (W : List Pr2) (w : World) (hF : Sl enI 1 w vF F) (hB : Sl enI 1 w vB B) (h : Trc F B W) (hl : W.length ≤ 1000) :
    Ret Tryz.prog 56 #[f, .int .i64 (wI W 0), vF, vB] w fun v w' => ∃ L, Gl enI 3 1 v (flW W) L ∧ St w w' ([] ++ L) := by
  have hS := St.init w
  have hne := h.ne
  refine enter Tryz.func56 rfl Tryz.ntmps56 rfl ?_
  repeat (with_reducible first | refine c_seq ?_ | refine c_block ?_ | refine c_skip ?_ | refine x_then ?_ | refine x_block ?_)
  refine c_reg ?_
  refine l_pure rfl (s_asg  rfl ?_)
  refine l_nil ?_
  repeat (with_reducible first | refine c_seq ?_ | refine c_block ?_ | refine c_skip ?_ | refine x_then ?_ | refine x_block ?_)
  refine c_reg ?_
  refine l_pure rfl (s_asg  rfl ?_)
  refine l_nil ?_
  repeat (with_reducible first | refine c_seq ?_ | refine c_block ?_ | refine c_skip ?_ | refine x_then ?_ | refine x_block ?_)
  refine c_loop (σ := Nat) (fun j ρ w' => j ≤ W.length ∧ ρ 1 = .int .i64 (nxI W j) ∧ ρ 2 = vF ∧ ρ 3 = vB ∧ ∃ vo L, ρ 9 = vo ∧ Gl enI 3 1 vo (flW (W.take j)) L ∧ St w w' ([] ++ L)) (fun j => W.length - j) 0
    ⟨Nat.zero_le _, vi rfl (by unfold nxI; rw [if_pos hne]), rfl, rfl, _, [], rfl, Gl.nil _ _ _, hS⟩ ?_
  clear hS
  rintro j ρ w2 ⟨hj, h1, h2, h3, vo, L, h9, hG, hS⟩
  have hfl := flW_len (W.take j)
  rw [List.length_take, Nat.min_eq_left hj] at hfl
  repeat (with_reducible first | refine c_seq ?_ | refine c_block ?_ | refine c_skip ?_ | refine x_then ?_ | refine x_block ?_)
  refine c_reg ?_
  refine l_pure rfl (s_move  h1 ?_)
  refine l_pure rfl (s_geq  rfl rfl ?_)
  refine l_nil ?_
  repeat (with_reducible first | refine c_seq ?_ | refine c_block ?_ | refine c_skip ?_ | refine x_then ?_ | refine x_block ?_)
  by_cases hlt : j < W.length
  · have e1 : nxI W j = (wI W j : Int) := if_pos hlt
    have i1 := h.it j hlt
    have i2 := h.cl j hlt
    have i3 := h.fr j hlt
    rw [e1] at h1
    refine c_yes rfl (decide_eq_true (by rw [e1]; omega)) ?_
    repeat (with_reducible first | refine c_seq ?_ | refine c_block ?_ | refine c_skip ?_ | refine x_then ?_ | refine x_block ?_)
    refine c_reg ?_
    refine l_pure rfl (s_move  h2 ?_)
    refine l_pure rfl (s_move  h1 ?_)
    refine l_pure rfl (s_ixr (i := (wI W j))  rfl rfl (hF.below hS.below) (by omega) (by first | omega | (simp; done) | (simp; omega)) si_47 ?_)
    refine l_read rfl (s_lde (i := (wI W j)) 0  rfl vi_3 (hF.below hS.below) (by first | omega | (simp; done) | (simp; omega)) rfl rfl (.inr rfl) ?_)
    refine l_pure rfl (s_asg  rfl ?_)
    refine l_nil ?_
    repeat (with_reducible first | refine c_seq ?_ | refine c_block ?_ | refine c_skip ?_ | refine x_then ?_ | refine x_block ?_)
    rw [i3]
    repeat (with_reducible first | refine c_seq ?_ | refine c_block ?_ | refine c_skip ?_ | refine x_then ?_ | refine x_block ?_)
    refine c_reg ?_
    refine l_pure rfl (s_move  h9 ?_)
    refine l_pure rfl (s_move  h1 ?_)
    refine l_pure rfl (s_move  rfl ?_)
    refine l_heavy rfl (s_bsl (vs := [.int .i64 (wI W j), .int .i64 (wC W j)])  rfl si_47 rfl (by decide) (by decide) (by decide) (by simp [Value.cells]) rfl hS ?_)
    intro b1 wz2 hS hBz2
    refine l_heavy rfl (s_appl [((wI W j : Nat) : Int), ((wC W j : Nat) : Int)]  rfl rfl si_47 (by decide) hG hS rfl rfl (fun _ => rfl) (enI_all [((wI W j : Nat) : Int), ((wC W j : Nat) : Int)]) (by first | omega | (simp only [List.length_cons, List.length_nil]; omega)) (by first | omega | (simp only [List.length_cons, List.length_nil]; omega)) ?_)
    intro va3 La3 wa3 hG hS hga3
    refine l_pure rfl (s_asg  rfl ?_)
    refine l_nil ?_
    repeat (with_reducible first | refine c_seq ?_ | refine c_block ?_ | refine c_skip ?_ | refine x_then ?_ | refine x_block ?_)
    rw [← flW_take W hlt] at hG
    repeat (with_reducible first | refine c_seq ?_ | refine c_block ?_ | refine c_skip ?_ | refine x_then ?_ | refine x_block ?_)
    refine c_reg ?_
    refine l_pure rfl (s_move  h3 ?_)
    refine l_pure rfl (s_move  rfl ?_)
    refine l_pure rfl (s_ixr (i := (wC W j))  rfl rfl (hB.below hS.below) (by omega) (by first | omega | (simp; done) | (simp; omega)) si_47 ?_)
    refine l_read rfl (s_lde (i := (wC W j)) 0  rfl vi_3 (hB.below hS.below) (by first | omega | (simp; done) | (simp; omega)) rfl rfl (.inr rfl) ?_)
    refine l_pure rfl (s_asg  rfl ?_)
    refine l_nil ?_
    repeat (with_reducible first | refine c_seq ?_ | refine c_block ?_ | refine c_skip ?_ | refine x_then ?_ | refine x_block ?_)
    refine ⟨j + 1, _, rfl, ⟨hlt, vi rfl ?_, by assumption, by assumption, _, _, rfl, hG, hS⟩, by omega⟩
    unfold nxI
    by_cases e : j + 1 < W.length
    · rw [if_pos e]; exact h.bk j e
    · rw [if_neg e]
      have := h.fin
      rw [show W.length - 1 = j by omega] at this
      exact this
  · have e1 : nxI W j = -1 := if_neg hlt
    obtain rfl : j = W.length := by omega
    rw [List.take_length] at hG
    refine c_no rfl (decide_eq_false (by rw [e1]; omega)) ?_
    repeat (with_reducible first | refine c_seq ?_ | refine c_block ?_ | refine c_skip ?_ | refine x_then ?_ | refine x_block ?_)
    refine c_exit ?_
    repeat (with_reducible first | refine x_then_exit ?_ | refine x_block_exit ?_ | refine x_block_pass rfl ?_)
    repeat (with_reducible first | refine c_seq ?_ | refine c_block ?_ | refine c_skip ?_ | refine x_then ?_ | refine x_block ?_)
    refine c_reg ?_
    refine l_pure rfl (s_move  h9 ?_)
    refine l_pure rfl (s_asg  rfl ?_)
    refine l_nil ?_
    repeat (with_reducible first | refine c_seq ?_ | refine c_block ?_ | refine c_skip ?_ | refine x_then ?_ | refine x_block ?_)
    refine c_ret ?_
    repeat (with_reducible first | refine x_then_ret ?_ | refine x_block_ret ?_)
    refine r_one rfl rfl ?_
    exact ⟨_, by assumption, hS⟩
end Go.Proofs.YtmghobajmhdbfaaGreatDoor
namespace Go.Proofs.YtmghobajmhdbfaaGreatDoor
open Go Go.RowKit Go.Sx
theorem nxt_nat (l : List Nat) (x d : Nat) {j : Nat} (h : j < l.length) : (l ++ [x]).getD j d = l.getD j d := by
  rw [List.getD_eq_getElem?_getD, List.getElem?_append_left h, List.getD_eq_getElem?_getD]
theorem end_nat (l : List Nat) (x d : Nat) : (l ++ [x]).getD l.length d = x := by
  rw [List.getD_eq_getElem?_getD, List.getElem?_append_right (Nat.le_refl _), Nat.sub_self]; rfl
theorem inj_nat {l : List Nat} (h : l.Nodup) {i j : Nat} (hi : i < l.length) (hj : j < l.length) (e : l.getD i 0 = l.getD j 0) : i = j := by
  rw [getD_ge l 0 hi, getD_ge l 0 hj] at e
  exact (List.getElem_inj h).1 e
theorem mem_nat {l : List Nat} {i : Nat} (hi : i < l.length) : l.getD i 0 ∈ l := by
  rw [getD_ge l 0 hi]; exact List.getElem_mem hi
theorem nodup_one (x : Nat) : [x].Nodup := List.pairwise_singleton _ _
theorem nodup_le {l : List Nat} (h : l.Nodup) {m : Nat} (hl : ∀ k ∈ l, k < m) : l.length ≤ m := by
  have := List.Nodup.length_le_of_subset h (l₂ := List.range m) (fun k hk => List.mem_range.2 (hl k hk))
  rwa [List.length_range] at this
/-- The search's state: the claims that were reached, in order; items are taken by the first e of them. -/
structure Bf (n m c0 : Nat) (sec : Nat → Nat → Bool) (P : Nat → Nat → Rat) (Q : List Nat) (e : Nat) (F B : List Int) (Z : List Bool) : Prop where
  fl : F.length = n
  bl : B.length = m
  zl : Z.length = m
  nd : Q.Nodup
  lt : ∀ k ∈ Q, k < m
  ql : 0 < Q.length
  q0 : Q.getD 0 0 = c0
  zq : ∀ k, k < m → (Z.getD k false = true ↔ k ∈ Q)
  fr : ∀ i, i < n → F.getD i 0 = -1 ∨ ∃ j, j < e ∧ j < Q.length ∧ F.getD i 0 = ((Q.getD j 0 : Nat) : Int) ∧ sec i (Q.getD j 0) = true
  b0 : B.getD c0 0 = -1
  bk : ∀ j, 0 < j → j < Q.length → ∃ i, i < n ∧ B.getD (Q.getD j 0) 0 = (i : Int) ∧ 0 < P i (Q.getD j 0) ∧ ∃ l, l < j ∧ F.getD i 0 = ((Q.getD l 0 : Nat) : Int)
section
variable {n m c0 : Nat} {sec : Nat → Nat → Bool} {P : Nat → Nat → Rat} {lf : Nat → Rat} {Q : List Nat} {e : Nat} {F B : List Int} {Z : List Bool}
theorem rep_at {α : Type} (x d : α) {k i : Nat} (h : i < k) : (List.replicate k x).getD i d = x := by
  rw [List.getD_eq_getElem?_getD, List.getElem?_replicate, if_pos h]; rfl
theorem Bf.start (hc : c0 < m) : Bf n m c0 sec P [c0] 0 (List.replicate n (-1)) (List.replicate m (-1)) ((List.replicate m false).set c0 true) := by
  refine ⟨List.length_replicate, List.length_replicate, by rw [List.length_set, List.length_replicate], (nodup_one _), fun k hk => ?_, Nat.zero_lt_one, rfl, fun k hk => ?_, fun i hi => .inl (rep_at _ _ hi), rep_at _ _ hc, fun j h1 h2 => ?_⟩
  · rw [List.mem_singleton.1 hk]; exact hc
  · rw [getD_setL _ _ _ (by rw [List.length_replicate]; exact hc), List.mem_singleton]
    by_cases e : k = c0
    · rw [if_pos e]; simp [e]
    · rw [if_neg e, rep_at _ _ hk]; simp [e]
  · rw [List.length_singleton] at h2; omega
theorem Bf.mono (h : Bf n m c0 sec P Q e F B Z) {e' : Nat} (he : e ≤ e') : Bf n m c0 sec P Q e' F B Z :=
  ⟨h.fl, h.bl, h.zl, h.nd, h.lt, h.ql, h.q0, h.zq, fun i hi => (h.fr i hi).imp id fun ⟨j, h1, h2⟩ => ⟨j, by omega, h2⟩, h.b0, h.bk⟩
theorem Bf.take (h : Bf n m c0 sec P Q e F B Z) {d i : Nat} (hd : d < e) (hdl : d < Q.length) (hi : i < n) (hf : F.getD i 0 = -1) (hs : sec i (Q.getD d 0) = true) : Bf n m c0 sec P Q e (F.set i ((Q.getD d 0 : Nat) : Int)) B Z := by
  have hg : ∀ a, (F.set i ((Q.getD d 0 : Nat) : Int)).getD a 0 = if a = i then ((Q.getD d 0 : Nat) : Int) else F.getD a 0 := fun a => getD_setL _ _ _ (by rw [h.fl]; exact hi)
  refine ⟨by rw [List.length_set, h.fl], h.bl, h.zl, h.nd, h.lt, h.ql, h.q0, h.zq, fun a ha => ?_, h.b0, fun j h1 h2 => ?_⟩
  · rw [hg a]
    by_cases ea : a = i
    · rw [if_pos ea, ea]; exact .inr ⟨d, hd, hdl, rfl, hs⟩
    · rw [if_neg ea]; exact h.fr a ha
  · obtain ⟨a, ha, b1, b2, l, hl, b3⟩ := h.bk j h1 h2
    refine ⟨a, ha, b1, b2, l, hl, ?_⟩
    rw [hg a]
    by_cases ea : a = i
    · rw [ea, hf] at b3; omega
    · rw [if_neg ea]; exact b3
theorem Bf.reach (h : Bf n m c0 sec P Q e F B Z) {d i k : Nat} (hd : d < Q.length) (hi : i < n) (hk : k < m) (hf : F.getD i 0 = ((Q.getD d 0 : Nat) : Int)) (hp : 0 < P i k) (hz : Z.getD k false = false) :
    Bf n m c0 sec P (Q ++ [k]) e F (B.set k (i : Int)) (Z.set k true) := by
  have hkq : k ∉ Q := fun q => by rw [(h.zq k hk).2 q] at hz; cases hz
  have hc0 : c0 ∈ Q := by rw [← h.q0]; exact mem_nat h.ql
  have hgB : ∀ a, (B.set k (i : Int)).getD a 0 = if a = k then (i : Int) else B.getD a 0 := fun a => getD_setL _ _ _ (by rw [h.bl]; exact hk)
  have hgZ : ∀ a, (Z.set k true).getD a false = if a = k then true else Z.getD a false := fun a => getD_setL _ _ _ (by rw [h.zl]; exact hk)
  refine ⟨h.fl, by rw [List.length_set, h.bl], by rw [List.length_set, h.zl], ?_, fun a ha => ?_, by rw [List.length_append]; have := h.ql; omega, by rw [nxt_nat _ _ _ h.ql]; exact h.q0, fun a ha => ?_, fun a ha => ?_, ?_, fun j h1 h2 => ?_⟩
  · rw [List.nodup_append]
    exact ⟨h.nd, (nodup_one _), fun a ha b hb => by rw [List.mem_singleton.1 hb]; rintro rfl; exact hkq ha⟩
  · rcases List.mem_append.1 ha with q | q
    · exact h.lt a q
    · rw [List.mem_singleton.1 q]; exact hk
  · rw [hgZ a, List.mem_append, List.mem_singleton]
    by_cases ea : a = k
    · rw [if_pos ea]; simp [ea]
    · rw [if_neg ea, h.zq a ha]; simp [ea]
  · rcases h.fr a ha with q | ⟨j, q1, q2, q3, q4⟩
    · exact .inl q
    · refine .inr ⟨j, q1, by rw [List.length_append]; omega, ?_, ?_⟩
      · rw [nxt_nat _ _ _ q2]; exact q3
      · rw [nxt_nat _ _ _ q2]; exact q4
  · rw [hgB, if_neg (fun q => hkq (by rw [← q]; exact hc0))]; exact h.b0
  · by_cases ej : j = Q.length
    · rw [ej, end_nat, hgB, if_pos rfl]
      exact ⟨i, hi, rfl, hp, d, hd, by rw [nxt_nat _ _ _ hd]; exact hf⟩
    · have hj : j < Q.length := by rw [List.length_append, List.length_singleton] at h2; omega
      obtain ⟨a, ha, b1, b2, l, hl, b3⟩ := h.bk j h1 hj
      have hne : Q.getD j 0 ≠ k := fun q => hkq (by rw [← q]; exact mem_nat hj)
      rw [nxt_nat _ _ _ hj, hgB, if_neg hne]
      exact ⟨a, ha, b1, b2, l, hl, by rw [nxt_nat _ _ _ (by omega)]; exact b3⟩
/-- From an item that was taken, a way back. -/
theorem Bf.trc (h : Bf n m c0 sec P Q e F B Z) : ∀ j, j < Q.length → ∀ i, i < n → F.getD i 0 = ((Q.getD j 0 : Nat) : Int) →
    ∃ W, Trc F B W ∧ W.length ≤ j + 1 ∧ wI W 0 = i ∧ wC W 0 = Q.getD j 0 ∧ (∀ l, l < W.length → ∃ t, t ≤ j ∧ wC W l = Q.getD t 0 ∧ (0 < l → t < j)) ∧ (∀ l, l < W.length → sec (wI W l) (wC W l) = true) ∧ (∀ l, l + 1 < W.length → 0 < P (wI W (l + 1)) (wC W l)) ∧
      (∀ a b, a < b → b < W.length → wC W a ≠ wC W b) ∧ wC W (W.length - 1) = c0 := by
  intro j
  induction j using Nat.strongRecOn with
  | ind j ih =>
    intro hj i hi hf
    have hsec : sec i (Q.getD j 0) = true := by
      rcases h.fr i hi with q | ⟨t, _, _, q3, q4⟩
      · omega
      · rw [hf] at q3
        rw [show Q.getD j 0 = Q.getD t 0 by omega]; exact q4
    have hjm : Q.getD j 0 < m := h.lt _ (mem_nat hj)
    by_cases j0 : j = 0
    · subst j0
      rw [h.q0] at hf hsec hjm
      refine ⟨[(i, c0)], ⟨Nat.zero_lt_one, fun l hl => ?_, fun l hl => ?_, fun l hl => ?_, fun l hl => ?_, h.b0⟩, Nat.le_refl _, rfl, h.q0.symm, fun l hl => ?_, fun l hl => ?_, fun l hl => ?_, fun a b hab hb => ?_, rfl⟩
      all_goals simp only [List.length_cons, List.length_nil] at *
      · obtain rfl : l = 0 := by omega
        rw [h.fl]; exact hi
      · obtain rfl : l = 0 := by omega
        rw [h.bl]; exact hjm
      · obtain rfl : l = 0 := by omega
        exact hf
      · omega
      · obtain rfl : l = 0 := by omega
        exact ⟨0, Nat.le_refl _, h.q0.symm, fun q => absurd q (Nat.lt_irrefl _)⟩
      · obtain rfl : l = 0 := by omega
        exact hsec
      · omega
      · omega
    · obtain ⟨i2, hi2, b1, b2, j2, hj2, b3⟩ := h.bk j (by omega) hj
      obtain ⟨W, hT, w1, w2, w3, w4, w5, w6, w7, w8⟩ := ih j2 hj2 (by omega) i2 hi2 b3
      have hw := hT.ne
      have gI : ∀ l, wI ((i, Q.getD j 0) :: W) (l + 1) = wI W l := fun _ => rfl
      have gC : ∀ l, wC ((i, Q.getD j 0) :: W) (l + 1) = wC W l := fun _ => rfl
      have gI0 : wI ((i, Q.getD j 0) :: W) 0 = i := rfl
      have gC0 : wC ((i, Q.getD j 0) :: W) 0 = Q.getD j 0 := rfl
      refine ⟨(i, Q.getD j 0) :: W, ⟨by simp, fun l hl => ?_, fun l hl => ?_, fun l hl => ?_, fun l hl => ?_, ?_⟩, by rw [List.length_cons]; omega, rfl, rfl, fun l hl => ?_, fun l hl => ?_, fun l hl => ?_, fun a b hab hb => ?_, ?_⟩
      all_goals rw [List.length_cons] at *
      · cases l with
        | zero => rw [gI0, h.fl]; exact hi
        | succ l => rw [gI]; exact hT.it l (by omega)
      · cases l with
        | zero => rw [gC0, h.bl]; exact hjm
        | succ l => rw [gC]; exact hT.cl l (by omega)
      · cases l with
        | zero => rw [gI0, gC0]; exact hf
        | succ l => rw [gI, gC]; exact hT.fr l (by omega)
      · cases l with
        | zero => rw [gC0, gI, b1, w2]
        | succ l => rw [gC, gI]; exact hT.bk l (by omega)
      · rw [show W.length + 1 - 1 = (W.length - 1) + 1 by omega, gC]; exact hT.fin
      · cases l with
        | zero => exact ⟨j, Nat.le_refl _, gC0, fun q => absurd q (Nat.lt_irrefl _)⟩
        | succ l =>
          obtain ⟨t, t1, t2, _⟩ := w4 l (by omega)
          exact ⟨t, by omega, by rw [gC]; exact t2, fun _ => by omega⟩
      · cases l with
        | zero => rw [gI0, gC0]; exact hsec
        | succ l => rw [gI, gC]; exact w5 l (by omega)
      · cases l with
        | zero => rw [gI, gC0, w2]; exact b2
        | succ l => rw [gI, gC]; exact w6 l (by omega)
      · cases b with
        | zero => omega
        | succ b =>
          cases a with
          | zero =>
            rw [gC0, gC]
            obtain ⟨t, t1, t2, _⟩ := w4 b (by omega)
            rw [t2]
            intro q
            have := inj_nat h.nd hj (by omega) q
            omega
          | succ a => rw [gC, gC]; exact w7 a b (by omega) (by omega)
      · rw [show W.length + 1 - 1 = (W.length - 1) + 1 by omega, gC]; exact w8
theorem Bf.wayOk (h : Bf n m c0 sec P Q e F B Z) {d i : Nat} (hd : d < Q.length) (hi : i < n) (hf : F.getD i 0 = ((Q.getD d 0 : Nat) : Int)) (hl : 0 < lf i) : ∃ W, Trc F B W ∧ W.length ≤ m ∧ wI W 0 = i ∧ WayOk n m sec P lf c0 W := by
  obtain ⟨W, hT, w1, w2, w3, w4, w5, w6, w7, w8⟩ := h.trc d hd i hi hf
  have := nodup_le h.nd h.lt
  exact ⟨W, hT, by omega, w2, ⟨hT.ne, fun j hj => by have := hT.it j hj; rwa [h.fl] at this, fun j hj => by have := hT.cl j hj; rwa [h.bl] at this, w5, w6, w7, w8, by rw [w2]; exact hl⟩⟩
/-- What is done: items that were taken are used up and pay but claims that were reached (but item x); the first d claims have taken all their items (the next one those below y). -/
structure Dn (n m : Nat) (sec : Nat → Nat → Bool) (P : Nat → Nat → Rat) (lf : Nat → Rat) (Q : List Nat) (d y x : Nat) (F : List Int) : Prop where
  it : ∀ i, i < n → i ≠ x → F.getD i 0 ≠ -1 → ¬ 0 < lf i ∧ ∀ k, k < m → 0 < P i k → k ∈ Q
  cl : ∀ j, j < d → ∀ i, i < n → sec i (Q.getD j 0) = true → F.getD i 0 ≠ -1
  nx : ∀ i, i < y → i < n → sec i (Q.getD d 0) = true → F.getD i 0 ≠ -1
theorem Dn.start : Dn n m sec P lf Q 0 0 n (List.replicate n (-1)) :=
  ⟨fun _ hi _ h => absurd (rep_at _ _ hi) h, fun _ hj => absurd hj (Nat.not_lt_zero _), fun _ hi => absurd hi (Nat.not_lt_zero _)⟩
theorem Dn.skip {d i : Nat} (h : Dn n m sec P lf Q d i n F) (hs : F.getD i 0 ≠ -1 ∨ sec i (Q.getD d 0) = false) : Dn n m sec P lf Q d (i + 1) n F := by
  refine ⟨h.it, h.cl, fun a ha hn hsa => ?_⟩
  by_cases ea : a = i
  · rcases hs with q | q
    · rw [ea]; exact q
    · rw [ea, q] at hsa; cases hsa
  · exact h.nx a (by omega) hn hsa
theorem Dn.pop {d : Nat} (h : Dn n m sec P lf Q d n n F) : Dn n m sec P lf Q (d + 1) 0 n F := by
  refine ⟨h.it, fun j hj => ?_, fun i hi => absurd hi (Nat.not_lt_zero _)⟩
  by_cases ej : j = d
  · rw [ej]; exact fun i hi => h.nx i hi hi
  · exact h.cl j (by omega)
theorem Dn.take {d i c : Nat} (h : Dn n m sec P lf Q d i n F) (hi : i < n) (hl : F.length = n) : Dn n m sec P lf Q d (i + 1) i (F.set i (c : Int)) := by
  have hg : ∀ a, (F.set i (c : Int)).getD a 0 = if a = i then (c : Int) else F.getD a 0 := fun a => getD_setL _ _ _ (by rw [hl]; exact hi)
  refine ⟨fun a ha hne hq => ?_, fun j hj a ha hsa => ?_, fun a ha hn hsa => ?_⟩
  · rw [hg a, if_neg hne] at hq
    exact h.it a ha (by omega) hq
  · rw [hg a]
    split
    · omega
    · exact h.cl j hj a ha hsa
  · rw [hg a]
    split
    · omega
    · exact h.nx a (by omega) hn hsa
theorem Dn.grow {d y x k : Nat} (h : Dn n m sec P lf Q d y x F) (hd : d < Q.length) : Dn n m sec P lf (Q ++ [k]) d y x F := by
  refine ⟨fun i hi hne hq => ?_, fun j hj i hi hsi => ?_, fun i hi hn hsi => ?_⟩
  · obtain ⟨h1, h2⟩ := h.it i hi hne hq
    exact ⟨h1, fun k hk hp => List.mem_append_left _ (h2 k hk hp)⟩
  · rw [nxt_nat _ _ _ (by omega)] at hsi
    exact h.cl j hj i hi hsi
  · rw [nxt_nat _ _ _ hd] at hsi
    exact h.nx i hi hn hsi
theorem Dn.done {d y x : Nat} (h : Dn n m sec P lf Q d y x F) (hl : ¬ 0 < lf x) (hq : ∀ k, k < m → 0 < P x k → k ∈ Q) : Dn n m sec P lf Q d y n F :=
  ⟨fun i hi _ g => by
    by_cases ei : i = x
    · rw [ei]; exact ⟨hl, hq⟩
    · exact h.it i hi ei g, h.cl, h.nx⟩
end
end Go.Proofs.YtmghobajmhdbfaaGreatDoor
