/-
  Part 7 of the texts that the law's proof is made of: the framework and the walks.
-/
import Derived.Test.YtdafaibhiobpaaaGreatDoorPr6
namespace Go.Proofs.YtdafaibhiobpaaaGreatDoor
open Go Go.RowKit Go.Sx
def enc5 (x : Nat → Nat) : List Value := Kr .u16 (tab 5 x)
theorem enc5_len : ∀ x, (enc5 x).length = 5 := fun _ => rfl
def creOf (a b : Nat) : Nat := if a ≤ b then b + 1 else b
def acqD (y : Nat) : Nat := if y % 4 = 3 then y / 8 % 50 else 0
def obOf (x : Nat → Nat) : Ob := ⟨((x 0 % 4 : Nat) : Int), ((creOf (x 0 % 4) (x 1 % 3) : Nat) : Int), amR (x 2), ((x 3 % 60 : Nat) : Int), ((x 3 % 60 : Nat) : Int) + ((acqD (x 4) : Nat) : Int), decide (((x 4 % 8 : Nat) : Int) = 7)⟩
def obsL (l : List (Nat → Nat)) (n : Nat) : List Ob := (l.take n).map obOf
theorem obsL_len (l : List (Nat → Nat)) (n : Nat) : (obsL l n).length = min n l.length := by simp [obsL]
theorem obsL_succ (l : List (Nat → Nat)) {i : Nat} (h : i < l.length) : obsL l (i + 1) = obsL l i ++ [obOf (l.getD i fun _ => 0)] := by
  unfold obsL; rw [take_succ' l i _ h, List.map_append]; rfl
theorem encOb_one (xs : List Ob) : ∀ u ∈ xs.flatMap encOb, u.oneCell' = true := by
  intro u hu
  obtain ⟨x, _, hx⟩ := List.mem_flatMap.1 hu
  simp only [encOb, List.mem_cons, List.not_mem_nil, or_false] at hx
  rcases hx with rfl | rfl | rfl | rfl | rfl | rfl | rfl | rfl <;> rfl
theorem built_Ob4 (a b i : Int) (c : Bool) (p : RR) : Tryz.prog.built 66 [(0, .int .i64 a), (1, .int .i64 b), (2, aggR p), (3, .int .i64 i), (5, .bool c)] = some #[.int .i64 a, .int .i64 b, .bool p.neg, .string p.num, .string p.den, .int .i64 i, .int .i64 0, .bool c] := by kernel_rfl
theorem sel4 (e k : Nat) (hk : k < 4) : [Value.int .i64 0, Value.int .i64 0, Value.int .i64 0, Value.int .i64 (e : Int)][0 + k * 1]? = some (Value.int .i64 (((if k = 3 then e else 0 : Nat)) : Int)) := by
  match k, hk with
  | 0, _ => rfl
  | 1, _ => rfl
  | 2, _ => rfl
  | 3, _ => rfl
set_option maxHeartbeats 2000000 in
theorem Obligations_ok (v : Value) (l : List (Nat → Nat)) (w : World) (hv : Sl enc5 5 w v l) (hl : ∀ x ∈ l, ∀ i, i < 5 → x i < 65536) :
    Ret Tryz.prog 7 #[v] w fun r w' => ∃ LO, Gl encOb 66 8 r (obsL l 16) LO ∧ St w w' ([] ++ LO) := by
  have hmax := hv.maxLen
  have hS := St.init w
  refine enter Tryz.func7 rfl Tryz.ntmps7 rfl ?_
  repeat (with_reducible first | refine c_seq ?_ | refine c_block ?_ | refine c_skip ?_ | refine x_then ?_ | refine x_block ?_)
  refine c_reg ?_
  refine l_pure rfl (s_asg  rfl ?_)
  refine l_nil ?_
  repeat (with_reducible first | refine c_seq ?_ | refine c_block ?_ | refine c_skip ?_ | refine x_then ?_ | refine x_block ?_)
  refine c_reg ?_
  refine l_pure rfl (s_asg  rfl ?_)
  refine l_nil ?_
  repeat (with_reducible first | refine c_seq ?_ | refine c_block ?_ | refine c_skip ?_ | refine x_then ?_ | refine x_block ?_)
  refine c_reg ?_
  refine l_pure rfl (s_asg  rfl ?_)
  refine l_nil ?_
  repeat (with_reducible first | refine c_seq ?_ | refine c_block ?_ | refine c_skip ?_ | refine x_then ?_ | refine x_block ?_)
  refine c_loop (σ := Nat) (fun i ρ w' => i ≤ l.length ∧ i ≤ 16 ∧ ρ 0 = v ∧ ρ 4 = .int .i64 i ∧ ∃ sO LO, ρ 3 = sO ∧ Gl encOb 66 8 sO (obsL l i) LO ∧ St w w' ([] ++ LO)) (fun i => l.length - i) 0
    ⟨Nat.zero_le _, Nat.zero_le _, rfl, rfl, ⟨_, [], rfl, Gl.nil _ _ _, hS⟩⟩ ?_
  clear hS
  rintro i ρ w2 ⟨hi, hi16, h0, h4, sO, LO, h3, hG, hS⟩
  have hol := obsL_len l i
  repeat (with_reducible first | refine c_seq ?_ | refine c_block ?_ | refine c_skip ?_ | refine x_then ?_ | refine x_block ?_)
  by_cases hlt : i < l.length
  · by_cases hlt16 : i < 16
    · repeat (with_reducible first | refine c_seq ?_ | refine c_block ?_ | refine c_skip ?_ | refine x_then ?_ | refine x_block ?_)
      refine c_reg ?_
      refine l_pure rfl (s_move  h4 ?_)
      refine l_pure rfl (s_move  h0 ?_)
      refine l_pure rfl (s_lenr  rfl (hv.below hS.below) ⟨_, Tryz.underlying22⟩ ?_)
      refine l_pure rfl (s_lss  rfl rfl ?_)
      refine l_pure rfl (s_move  rfl ?_)
      refine l_pure (gd_yes 13 (by kernel_rfl) rfl (decide_eq_true (by omega))) (s_move  h4 ?_)
      refine l_pure (gd_yes 13 (by kernel_rfl) rfl (decide_eq_true (by omega))) (s_lss  rfl rfl ?_)
      refine l_pure rfl (s_pick (vb rfl (decide_eq_true (by omega))) rfl ?_)
      refine l_nil ?_
      repeat (with_reducible first | refine c_seq ?_ | refine c_block ?_ | refine c_skip ?_ | refine x_then ?_ | refine x_block ?_)
      refine c_yes rfl (decide_eq_true (by omega)) ?_
      repeat (with_reducible first | refine c_seq ?_ | refine c_block ?_ | refine c_skip ?_ | refine x_then ?_ | refine x_block ?_)
      obtain ⟨x, hx⟩ : ∃ x, x = l.getD i fun _ => 0 := ⟨_, rfl⟩
      have hxb := hl x (by rw [hx]; exact getD_mem l i _ hlt)
      repeat (with_reducible first | refine c_seq ?_ | refine c_block ?_ | refine c_skip ?_ | refine x_then ?_ | refine x_block ?_)
      refine c_reg ?_
      refine l_pure rfl (s_move  h0 ?_)
      refine l_pure rfl (s_move  h4 ?_)
      refine l_pure rfl (s_ixr (i := i)  rfl rfl (hv.below hS.below) (by omega) (by first | omega | (simp; done) | (simp; omega)) si_22 ?_)
      refine l_read rfl (s_lde (i := i) (fun _ => 0)  rfl vi_63 (hv.below hS.below) (by first | omega | (simp; done) | (simp; omega)) rfl rfl (.inl rfl) ?_)
      refine l_heavy rfl (s_alloc  vi_63 hS ?_)
      intro b5 wz1 hS hBz1
      refine l_heavy rfl (s_sta (k := 0)  rfl rfl vi_63 hS rfl rfl rfl (Nat.le_of_ble_eq_true rfl) rfl ?_)
      intro wz2 hS
      refine l_nil ?_
      repeat (with_reducible first | refine c_seq ?_ | refine c_block ?_ | refine c_skip ?_ | refine x_then ?_ | refine x_block ?_)
      rw [← hx] at hS
      replace hS : St w _ ([(b5, 63, Kr .u16 (tab 5 x))] ++ LO) := hS
      have hx0 := hxb 0 (by decide)
      have hx1 := hxb 1 (by decide)
      have hx2 := hxb 2 (by decide)
      have hx3 := hxb 3 (by decide)
      have hx4 := hxb 4 (by decide)
      repeat (with_reducible first | refine c_seq ?_ | refine c_block ?_ | refine c_skip ?_ | refine x_then ?_ | refine x_block ?_)
      refine c_forget (fun ρ' => ρ' 0 = v ∧ ρ' 4 = .int .i64 i ∧ ρ' 3 = sO ∧ ρ' 5 = .pointer (some ⟨b5, 0, none⟩) ∧ True) ⟨h0, h4, h3, rfl, trivial⟩ ?_
      rintro ρk3 ⟨hk3_0, hk3_4, hk3_3, hk3_5, -⟩
      repeat (with_reducible first | refine c_seq ?_ | refine c_block ?_ | refine c_skip ?_ | refine x_then ?_ | refine x_block ?_)
      refine c_draw [(0, .pure), (1, .read), (2, .pure), (3, .pure), (4, .pure), (5, .read), (6, .pure), (7, .pure), (8, .pure), (9, .pure)] (by kernel_rfl) (by kernel_rfl) hS ?_
      intro wz4 hS hBz4
      refine w_pure rfl rfl (s_ixg (n := 5) (i := 0) hk3_5 rfl rfl (by decide) Tryz.underlying63 vi_62 ?_)
      refine w_read rfl rfl (s_ldk (k := 0) (i := 0)  rfl vi_62 hS rfl rfl (by rw [tab_len]; decide) ?_)
      refine w_pure rfl rfl (s_rem  rfl rfl (by omega) (r := ((x 0 % 4 : Nat) : Int)) (by exact rem_nat (x 0) 4) ?_)
      refine w_pure rfl rfl (s_conv  rfl Tryz.underlying3 ⟨_, Tryz.underlying62⟩ (r := ((x 0 % 4 : Nat) : Int)) (by exact wr_i64 _ ⟨rfl, by omega, by omega⟩) ?_)
      refine w_pure rfl rfl (s_ixg (n := 5) (i := 1) hk3_5 rfl rfl (by decide) Tryz.underlying63 vi_62 ?_)
      refine w_read rfl rfl (s_ldk (k := 0) (i := 1)  rfl vi_62 hS rfl rfl (by rw [tab_len]; decide) ?_)
      refine w_pure rfl rfl (s_rem  rfl rfl (by omega) (r := ((x 1 % 3 : Nat) : Int)) (by exact rem_nat (x 1) 3) ?_)
      refine w_pure rfl rfl (s_conv  rfl Tryz.underlying3 ⟨_, Tryz.underlying62⟩ (r := ((x 1 % 3 : Nat) : Int)) (by exact wr_i64 _ ⟨rfl, by omega, by omega⟩) ?_)
      refine w_pure rfl rfl (s_asg  rfl ?_)
      refine w_pure rfl rfl (s_asg  rfl ?_)
      refine w_end ?_
      repeat (with_reducible first | refine c_seq ?_ | refine c_block ?_ | refine c_skip ?_ | refine x_then ?_ | refine x_block ?_)
      refine c_forget (fun ρ' => ρ' 0 = v ∧ ρ' 4 = .int .i64 i ∧ ρ' 3 = sO ∧ ρ' 5 = .pointer (some ⟨b5, 0, none⟩) ∧ ρ' 6 = .int .i64 ((x 0 % 4 : Nat) : Int) ∧ ρ' 7 = .int .i64 ((x 1 % 3 : Nat) : Int) ∧ True) ⟨hk3_0, hk3_4, hk3_3, hk3_5, rfl, rfl, trivial⟩ ?_
      rintro ρk5 ⟨hk5_0, hk5_4, hk5_3, hk5_5, hk5_6, hk5_7, -⟩
      obtain ⟨c, hc⟩ : ∃ c, c = creOf (x 0 % 4) (x 1 % 3) := ⟨_, rfl⟩
      repeat (with_reducible first | refine c_seq ?_ | refine c_block ?_ | refine c_skip ?_ | refine x_then ?_ | refine x_block ?_)
      refine c_reg ?_
      refine l_pure rfl (s_move  hk5_7 ?_)
      refine l_pure rfl (s_move  hk5_6 ?_)
      refine l_pure rfl (s_geq  rfl rfl ?_)
      refine l_nil ?_
      repeat (with_reducible first | refine c_seq ?_ | refine c_skip ?_ | refine x_then ?_ | refine x_block ?_)
      refine c_cut1 (fun ρ w' => ρ 0 = v ∧ ρ 4 = .int .i64 i ∧ ρ 3 = sO ∧ ρ 5 = .pointer (some ⟨b5, 0, none⟩) ∧ ρ 6 = .int .i64 ((x 0 % 4 : Nat) : Int) ∧ ρ 7 = .int .i64 c ∧ St w w' ([(b5, 63, Kr .u16 (tab 5 x))] ++ LO)) ?_ ?_
      · repeat (with_reducible first | refine c_seq ?_ | refine c_block ?_ | refine c_skip ?_ | refine x_then ?_ | refine x_block ?_)
        by_cases hle : x 0 % 4 ≤ x 1 % 3
        · have hc2 : c = x 1 % 3 + 1 := by rw [hc]; exact if_pos hle
          refine c_yes rfl (decide_eq_true (by omega)) ?_
          repeat (with_reducible first | refine c_seq ?_ | refine c_block ?_ | refine c_skip ?_ | refine x_then ?_ | refine x_block ?_)
          refine c_reg ?_
          refine l_pure rfl (s_move  hk5_7 ?_)
          refine l_pure rfl (s_add  rfl rfl (IntWalk.i64_in _ (by omega)) ?_)
          refine l_pure rfl (s_asg  rfl ?_)
          refine l_nil ?_
          repeat (with_reducible first | refine c_seq ?_ | refine c_block ?_ | refine c_skip ?_ | refine x_then ?_ | refine x_block ?_)
          exact ⟨_, rfl, by assumption, by assumption, by assumption, by assumption, by assumption, vi rfl (by omega), hS⟩
        · have hc2 : c = x 1 % 3 := by rw [hc]; exact if_neg hle
          refine c_no rfl (decide_eq_false (by omega)) ?_
          repeat (with_reducible first | refine c_seq ?_ | refine c_block ?_ | refine c_skip ?_ | refine x_then ?_ | refine x_block ?_)
          exact ⟨_, rfl, by assumption, by assumption, by assumption, by assumption, by assumption, by rw [hc2]; assumption, hS⟩
      clear hS
      rintro ρ w3 ⟨h0, h4, h3, h5, h6, h7, hS⟩
      repeat (with_reducible first | refine c_seq ?_ | refine c_block ?_ | refine c_skip ?_ | refine x_then ?_ | refine x_block ?_)
      refine c_cut1 (fun ρ w' => ρ 0 = v ∧ ρ 4 = .int .i64 i ∧ ρ 3 = sO ∧ ρ 5 = .pointer (some ⟨b5, 0, none⟩) ∧ ∃ b8, ρ 8 = .pointer (some ⟨b8, 0, none⟩) ∧
        St w w' ([(b8, 66, encOb ⟨((x 0 % 4 : Nat) : Int), (c : Int), amR (x 2), ((x 3 % 60 : Nat) : Int), 0, decide (((x 4 % 8 : Nat) : Int) = 7)⟩), (b5, 63, Kr .u16 (tab 5 x))] ++ LO)) ?_ ?_
      · repeat (with_reducible first | refine c_seq ?_ | refine c_block ?_ | refine c_skip ?_ | refine x_then ?_ | refine x_block ?_)
        refine c_float 14 [(0, .pure), (1, .pure), (2, .pure), (3, .read), (5, .pure), (6, .read), (7, .pure), (8, .pure), (9, .pure), (10, .read), (11, .pure), (12, .pure), (4, .grow), (13, .pure), (15, .free)] (by kernel_rfl) (by kernel_rfl) hS ?_
        intro wz6 hS hBz6
        refine wx_pure (by kernel_rfl) rfl rfl (s_move  h6 ?_)
        refine wx_pure (by kernel_rfl) rfl rfl (s_move  h7 ?_)
        refine wx_pure (by kernel_rfl) rfl rfl (s_ixg (n := 5) (i := 2) h5 rfl rfl (by decide) Tryz.underlying63 vi_62 ?_)
        refine wx_read (by kernel_rfl) rfl rfl (s_ldk (k := 0) (i := 2)  rfl vi_62 hS rfl rfl (by rw [tab_len]; decide) ?_)
        refine wx_pure (by kernel_rfl) rfl rfl (s_ixg (n := 5) (i := 3) h5 rfl rfl (by decide) Tryz.underlying63 vi_62 ?_)
        refine wx_read (by kernel_rfl) rfl rfl (s_ldk (k := 0) (i := 3)  rfl vi_62 hS rfl rfl (by rw [tab_len]; decide) ?_)
        refine wx_pure (by kernel_rfl) rfl rfl (s_rem  rfl rfl (by omega) (r := ((x 3 % 60 : Nat) : Int)) (by exact rem_nat (x 3) 60) ?_)
        refine wx_pure (by kernel_rfl) rfl rfl (s_conv  rfl Tryz.underlying3 ⟨_, Tryz.underlying62⟩ (r := ((x 3 % 60 : Nat) : Int)) (by exact wr_i64 _ ⟨rfl, by omega, by omega⟩) ?_)
        refine wx_pure (by kernel_rfl) rfl rfl (s_ixg (n := 5) (i := 4) h5 rfl rfl (by decide) Tryz.underlying63 vi_62 ?_)
        refine wx_read (by kernel_rfl) rfl rfl (s_ldk (k := 0) (i := 4)  rfl vi_62 hS rfl rfl (by rw [tab_len]; decide) ?_)
        refine wx_pure (by kernel_rfl) rfl rfl (s_rem  rfl rfl (by omega) (r := ((x 4 % 8 : Nat) : Int)) (by exact rem_nat (x 4) 8) ?_)
        refine wx_pure (by kernel_rfl) rfl rfl (s_eql  rfl rfl ?_)
        refine wx_fork rfl rfl ?_ ?_
        · refine w_grow rfl rfl (s_alloc  vi_66 hS ?_)
          intro b8 wz7 hS hBz7
          refine ⟨hBz7, ?_⟩
          refine w_grow rfl rfl (s_call Tryz.call27 rfl (Amount_ok (x 2) _ hx2) ?_)
          rintro r w4 ⟨rfl, hB4⟩
          refine ⟨hB4, ?_⟩
          replace hS := hS.grow hB4
          refine w_pure rfl rfl (s_build  rfl (built_Ob4 _ _ _ _ _) ?_)
          refine w_free rfl rfl (s_sta (k := 0)  rfl rfl vi_66 hS rfl rfl rfl (Nat.le_of_ble_eq_true rfl) rfl ?_)
          intro wz8 hS
          refine w_end ?_
          repeat (with_reducible first | refine c_seq ?_ | refine c_block ?_ | refine c_skip ?_ | refine x_then ?_ | refine x_block ?_)
          replace hS : St w _ ([(b8, 66, encOb ⟨((x 0 % 4 : Nat) : Int), (c : Int), amR (x 2), ((x 3 % 60 : Nat) : Int), 0, decide (((x 4 % 8 : Nat) : Int) = 7)⟩), (b5, 63, Kr .u16 (tab 5 x))] ++ LO) := hS
          exact ⟨_, rfl, h0, h4, h3, h5, b8, rfl, hS⟩
        · refine s_call Tryz.call27 rfl (Amount_ok (x 2) _ hx2) ?_
          rintro r w4 ⟨rfl, hB4⟩
          refine ⟨hB4, ?_⟩
          replace hS := hS.grow hB4
          refine wx_pure (by kernel_rfl) rfl rfl (s_build  rfl (built_Ob4 _ _ _ _ _) ?_)
          refine wx_now (by kernel_rfl) ?_
          refine w_grow rfl rfl (s_alloc  vi_66 hS ?_)
          intro b8 wz9 hS hBz9
          refine ⟨hBz9, ?_⟩
          refine w_free rfl rfl (s_sta (k := 0)  rfl rfl vi_66 hS rfl rfl rfl (Nat.le_of_ble_eq_true rfl) rfl ?_)
          intro wz10 hS
          refine w_end ?_
          repeat (with_reducible first | refine c_seq ?_ | refine c_block ?_ | refine c_skip ?_ | refine x_then ?_ | refine x_block ?_)
          replace hS : St w _ ([(b8, 66, encOb ⟨((x 0 % 4 : Nat) : Int), (c : Int), amR (x 2), ((x 3 % 60 : Nat) : Int), 0, decide (((x 4 % 8 : Nat) : Int) = 7)⟩), (b5, 63, Kr .u16 (tab 5 x))] ++ LO) := hS
          exact ⟨_, rfl, h0, h4, h3, h5, b8, rfl, hS⟩
      clear hS h0 h4 h3 h5 h6 h7
      rintro ρ w4 ⟨h0, h4, h3, h5, b8, h8, hS⟩
      repeat (with_reducible first | refine c_seq ?_ | refine c_block ?_ | refine c_skip ?_ | refine x_then ?_ | refine x_block ?_)
      have hq50 : x 4 / 8 % 50 < 50 := Nat.mod_lt _ (by decide)
      repeat (with_reducible first | refine c_seq ?_ | refine c_block ?_ | refine c_skip ?_ | refine x_then ?_ | refine x_block ?_)
      refine c_draw [(0, .pure), (1, .read), (2, .pure), (3, .read), (4, .pure), (5, .pure), (6, .pure), (8, .pure), (9, .read), (10, .pure), (7, .grow), (11, .pure), (12, .read), (13, .pure), (14, .pure), (15, .free)] (by kernel_rfl) (by kernel_rfl) hS ?_
      intro wz11 hS hBz11
      refine w_pure rfl rfl (s_fld  h8 fo_66_3 ?_)
      refine w_read rfl rfl (s_ldo (k := 0)  rfl vi_3 hS rfl rfl rfl (.inr rfl) ?_)
      refine w_pure rfl rfl (s_ixg (n := 5) (i := 4) h5 rfl rfl (by decide) Tryz.underlying63 vi_62 ?_)
      refine w_read rfl rfl (s_ldk (k := 1) (i := 4)  rfl vi_62 hS rfl rfl (by rw [tab_len]; decide) ?_)
      refine w_pure rfl rfl (s_quo  rfl rfl (by omega) (quo_u16 (x 4) 8 hx4) ?_)
      refine w_pure rfl rfl (s_rem  rfl rfl (by omega) (r := ((x 4 / 8 % 50 : Nat) : Int)) (by exact rem_nat (x 4 / 8) 50) ?_)
      refine w_pure rfl rfl (s_conv  rfl Tryz.underlying3 ⟨_, Tryz.underlying62⟩ (r := ((x 4 / 8 % 50 : Nat) : Int)) (by exact wr_i64 _ ⟨rfl, by omega, by omega⟩) ?_)
      refine w_pure rfl rfl (s_ixg (n := 5) (i := 4) h5 rfl rfl (by decide) Tryz.underlying63 vi_62 ?_)
      refine w_read rfl rfl (s_ldk (k := 1) (i := 4)  rfl vi_62 hS rfl rfl (by rw [tab_len]; decide) ?_)
      refine w_pure rfl rfl (s_rem  rfl rfl (by omega) (r := ((x 4 % 4 : Nat) : Int)) (by exact rem_nat (x 4) 4) ?_)
      refine w_grow rfl rfl (s_bsl (vs := [.int .i64 0, .int .i64 0, .int .i64 0, .int .i64 ((x 4 / 8 % 50 : Nat) : Int)])  rfl si_67 rfl (by decide) (by decide) (by decide) (by simp [Value.cells]) rfl hS ?_)
      intro b57 wz12 hS hBz12
      refine ⟨hBz12, ?_⟩
      refine w_pure rfl rfl (s_ixo (i := x 4 % 4)  rfl rfl (by omega) (by first | omega | (simp; done) | (simp; omega)) si_67 ?_)
      refine w_read rfl rfl (s_ldc (k := 0)  rfl vi_3 hS rfl (sel4 (x 4 / 8 % 50) (x 4 % 4) (Nat.mod_lt _ (by decide))) ?_)
      refine w_pure rfl rfl (s_add  rfl rfl (r := ((x 3 % 60 : Nat) : Int) + ((acqD (x 4) : Nat) : Int)) (by exact wr_i64 _ ⟨rfl, by unfold acqD; split <;> omega, by unfold acqD; split <;> omega⟩) ?_)
      refine w_pure rfl rfl (s_fld  h8 fo_66_4 ?_)
      refine w_free rfl rfl (s_stc (k := 1)  rfl rfl vi_3 hS rfl (Nat.le_of_ble_eq_true rfl) rfl ?_)
      intro wz13 hS
      refine w_end ?_
      repeat (with_reducible first | refine c_seq ?_ | refine c_block ?_ | refine c_skip ?_ | refine x_then ?_ | refine x_block ?_)
      have e2 : obsL l i ++ [obOf x] = obsL l (i + 1) := by rw [obsL_succ l hlt, ← hx]
      replace hS : St w _ ([(b57, 3, [.int .i64 0, .int .i64 0, .int .i64 0, .int .i64 ((x 4 / 8 % 50 : Nat) : Int)]), (b8, 66, encOb ⟨((x 0 % 4 : Nat) : Int), (c : Int), amR (x 2), ((x 3 % 60 : Nat) : Int), ((x 3 % 60 : Nat) : Int) + ((acqD (x 4) : Nat) : Int), decide (((x 4 % 8 : Nat) : Int) = 7)⟩), (b5, 63, Kr .u16 (tab 5 x))] ++ LO) := hS
      rw [hc] at hS
      replace hS : St w _ ([(b57, 3, [.int .i64 0, .int .i64 0, .int .i64 0, .int .i64 ((x 4 / 8 % 50 : Nat) : Int)]), (b8, 66, encOb (obOf x)), (b5, 63, Kr .u16 (tab 5 x))] ++ LO) := hS
      repeat (with_reducible first | refine c_seq ?_ | refine c_block ?_ | refine c_skip ?_ | refine x_then ?_ | refine x_block ?_)
      refine c_forget (fun ρ' => ρ' 0 = v ∧ ρ' 4 = .int .i64 i ∧ ρ' 3 = sO ∧ ρ' 8 = .pointer (some ⟨b8, 0, none⟩) ∧ True) ⟨h0, h4, h3, h8, trivial⟩ ?_
      rintro ρk14 ⟨hk14_0, hk14_4, hk14_3, hk14_8, -⟩
      repeat (with_reducible first | refine c_seq ?_ | refine c_block ?_ | refine c_skip ?_ | refine x_then ?_ | refine x_block ?_)
      refine c_reg ?_
      refine l_pure rfl (s_move  hk14_3 ?_)
      refine l_read rfl (s_ldo (k := 1)  hk14_8 vi_66 hS rfl rfl rfl (.inl rfl) ?_)
      refine l_heavy rfl (s_bsl (vs := [aggOb (obOf x)])  rfl si_23 rfl (by decide) (by decide) (by decide) (by simp [Value.cells, aggOb]) rfl hS ?_)
      intro bx wz15 hS hBz15
      refine l_heavy rfl (s_appl [obOf x]  rfl rfl si_23 (by decide) hG hS rfl rfl encOb_len (encOb_one [obOf x]) (by first | omega | (simp only [List.length_cons, List.length_nil]; omega)) (by first | omega | (simp only [List.length_cons, List.length_nil]; omega)) ?_)
      intro va16 La16 wa16 hG hS hga16
      refine l_pure rfl (s_asg  rfl ?_)
      refine l_nil ?_
      repeat (with_reducible first | refine c_seq ?_ | refine c_block ?_ | refine c_skip ?_ | refine x_then ?_ | refine x_block ?_)
      rw [e2] at hG
      repeat (with_reducible first | refine c_seq ?_ | refine c_block ?_ | refine c_skip ?_ | refine x_then ?_ | refine x_block ?_)
      refine c_reg ?_
      refine l_pure rfl (s_move  hk14_4 ?_)
      refine l_pure rfl (s_add  rfl rfl (IntWalk.i64_in _ (by omega)) ?_)
      refine l_pure rfl (s_asg  rfl ?_)
      refine l_nil ?_
      repeat (with_reducible first | refine c_seq ?_ | refine c_block ?_ | refine c_skip ?_ | refine x_then ?_ | refine x_block ?_)
      exact ⟨i + 1, _, rfl, ⟨hlt, hlt16, by assumption, vi rfl (by omega), ⟨_, _, rfl, hG, hS.drop (List.sublist_append_right [_, _, _] _)⟩⟩, by omega⟩
    · repeat (with_reducible first | refine c_seq ?_ | refine c_block ?_ | refine c_skip ?_ | refine x_then ?_ | refine x_block ?_)
      refine c_reg ?_
      refine l_pure rfl (s_move  h4 ?_)
      refine l_pure rfl (s_move  h0 ?_)
      refine l_pure rfl (s_lenr  rfl (hv.below hS.below) ⟨_, Tryz.underlying22⟩ ?_)
      refine l_pure rfl (s_lss  rfl rfl ?_)
      refine l_pure rfl (s_move  rfl ?_)
      refine l_pure (gd_yes 13 (by kernel_rfl) rfl (decide_eq_true (by omega))) (s_move  h4 ?_)
      refine l_pure (gd_yes 13 (by kernel_rfl) rfl (decide_eq_true (by omega))) (s_lss  rfl rfl ?_)
      refine l_pure rfl (s_pick (vb rfl (decide_eq_true (by omega))) rfl ?_)
      refine l_nil ?_
      repeat (with_reducible first | refine c_seq ?_ | refine c_block ?_ | refine c_skip ?_ | refine x_then ?_ | refine x_block ?_)
      refine c_no rfl (decide_eq_false (by omega)) ?_
      repeat (with_reducible first | refine c_seq ?_ | refine c_block ?_ | refine c_skip ?_ | refine x_then ?_ | refine x_block ?_)
      refine c_exit ?_
      repeat (with_reducible first | refine x_then_exit ?_ | refine x_block_exit ?_ | refine x_block_pass rfl ?_)
      repeat (with_reducible first | refine c_seq ?_ | refine c_block ?_ | refine c_skip ?_ | refine x_then ?_ | refine x_block ?_)
      obtain rfl : i = 16 := by omega
      repeat (with_reducible first | refine c_seq ?_ | refine c_block ?_ | refine c_skip ?_ | refine x_then ?_ | refine x_block ?_)
      refine c_reg ?_
      refine l_pure rfl (s_move  h3 ?_)
      refine l_pure rfl (s_asg  rfl ?_)
      refine l_nil ?_
      repeat (with_reducible first | refine c_seq ?_ | refine c_block ?_ | refine c_skip ?_ | refine x_then ?_ | refine x_block ?_)
      refine c_ret ?_
      repeat (with_reducible first | refine x_then_ret ?_ | refine x_block_ret ?_)
      refine r_one rfl rfl ?_
      exact ⟨LO, hG, hS⟩
  · repeat (with_reducible first | refine c_seq ?_ | refine c_block ?_ | refine c_skip ?_ | refine x_then ?_ | refine x_block ?_)
    refine c_reg ?_
    refine l_pure rfl (s_move  h4 ?_)
    refine l_pure rfl (s_move  h0 ?_)
    refine l_pure rfl (s_lenr  rfl (hv.below hS.below) ⟨_, Tryz.underlying22⟩ ?_)
    refine l_pure rfl (s_lss  rfl rfl ?_)
    refine l_pure rfl (s_move  rfl ?_)
    refine l_no (gno_yes 13 (by kernel_rfl) rfl (decide_eq_false (by omega))) ?_
    refine l_no (gno_yes 13 (by kernel_rfl) rfl (decide_eq_false (by omega))) ?_
    refine l_pure rfl (s_pick (vb rfl (decide_eq_false (by omega))) rfl ?_)
    refine l_nil ?_
    repeat (with_reducible first | refine c_seq ?_ | refine c_block ?_ | refine c_skip ?_ | refine x_then ?_ | refine x_block ?_)
    refine c_no rfl (rfl) ?_
    repeat (with_reducible first | refine c_seq ?_ | refine c_block ?_ | refine c_skip ?_ | refine x_then ?_ | refine x_block ?_)
    refine c_exit ?_
    repeat (with_reducible first | refine x_then_exit ?_ | refine x_block_exit ?_ | refine x_block_pass rfl ?_)
    repeat (with_reducible first | refine c_seq ?_ | refine c_block ?_ | refine c_skip ?_ | refine x_then ?_ | refine x_block ?_)
    have e : obsL l i = obsL l 16 := by unfold obsL; rw [List.take_of_length_le (by omega), List.take_of_length_le (by omega)]
    rw [e] at hG
    repeat (with_reducible first | refine c_seq ?_ | refine c_block ?_ | refine c_skip ?_ | refine x_then ?_ | refine x_block ?_)
    refine c_reg ?_
    refine l_pure rfl (s_move  h3 ?_)
    refine l_pure rfl (s_asg  rfl ?_)
    refine l_nil ?_
    repeat (with_reducible first | refine c_seq ?_ | refine c_block ?_ | refine c_skip ?_ | refine x_then ?_ | refine x_block ?_)
    refine c_ret ?_
    repeat (with_reducible first | refine x_then_ret ?_ | refine x_block_ret ?_)
    refine r_one rfl rfl ?_
    exact ⟨LO, hG, hS⟩
end Go.Proofs.YtdafaibhiobpaaaGreatDoor
namespace Go.Proofs.YtdafaibhiobpaaaGreatDoor
open Go Go.RowKit Go.Sx Go.ChangeShapes Go.WideShapes
section
variable {H : Type} {enc0 : TypeId × Value → H} {P : Program} {w : World} {sp : Nat → Bool} {held : Bool}
/-- A slice whose elements can be read: as a list. -/
theorem open_sl {α : Type} {enc : α → List Value} {size : Nat} {G : α → Prop} {t e : TypeId} {fuel base : Nat} {cs : List Value} {x : DataW H × List MemPlace} (ht : P.underlying t = some (.slice e)) (hce : P.cellsOf e = size)
    (hel : ∀ (n : Nat) (cs : List Value) (y : DataW H × List MemPlace), DataW.trod enc0 P w base sp held n e cs = some y → ∃ a, cs = enc a ∧ G a)
    (h : DataW.trod enc0 P w base sp held fuel t cs = some x) : ∃ v L, cs = [v] ∧ Sl enc size w v L ∧ ∀ y ∈ L, G y := by
  rcases DataW.trod_slice ht h with ⟨h1, _⟩ | ⟨a, len, cap, elems, rest, n, _, h1, _, _, hlc, hm, hlen, hel2, _, _⟩
  · exact ⟨_, [], h1, Sl.nil _ _ _, fun x hx => by cases hx⟩
  · have each : ∀ i, i < len → ∃ y : α, G y ∧ ∀ j u, (enc y)[j]? = some u → w.cell? (a.add (i * size + j)) = some u := by
      intro i hi
      have h2 := hel2 i hi
      rw [hce, List.getElem?_eq_getElem (by omega : i < elems.length), Option.bind_eq_some_iff] at h2
      obtain ⟨cs2, hcs, htr⟩ := h2
      obtain ⟨_, hcl, hcell⟩ := World.cells?_some hcs
      obtain ⟨y, rfl, hG⟩ := hel _ _ _ htr
      refine ⟨y, hG, fun j u hj => ?_⟩
      have hjl : j < size := by
        rw [← hcl]
        exact (List.getElem?_eq_some_iff.1 hj).1
      rw [← hj, ← hcell j hjl, add_add]
    refine ⟨_, (List.range len).pmap (fun i hi => Classical.choose (each i hi)) (fun i hi => List.mem_range.1 hi), h1, ⟨⟨some a, cap, by simp, by simp; exact hlc, hm, fun q => by cases q⟩, fun i hi => ?_⟩, fun y hy => ?_⟩
    · have hil : i < len := by simpa using hi
      intro j u hu2
      rw [List.getElem_pmap] at hu2
      simp only [List.getElem_range] at hu2
      show w.cell? ((a.add (i * size)).add j) = _
      rw [add_add]
      exact (Classical.choose_spec (each i hil)).2 j u hu2
    · obtain ⟨i, hi, rfl⟩ := List.mem_pmap.1 hy
      exact (Classical.choose_spec (each i (List.mem_range.1 hi))).1
end
section
variable {H : Type} {enc0 : TypeId × Value → H} {w : World} {sp : Nat → Bool} {held : Bool}
theorem list3 {α : Type} {l : List α} (h : l.length = 3) : ∃ a b c, l = [a, b, c] := by
  match l, h with
  | [a, b, c], _ => exact ⟨a, b, c, rfl⟩
theorem cb_bool : Tryz.prog.cellsOf 4 = 1 := by kernel_rfl
theorem cb_string : Tryz.prog.cellsOf 9 = 1 := by kernel_rfl
theorem cb_int : Tryz.prog.cellsOf 3 = 1 := by kernel_rfl
theorem cb_rat : Tryz.prog.cellsOf 36 = 3 := by kernel_rfl
/-- How long a number's texts can be. -/
def rok (r : RR) : Prop := r.num.size ≤ maxLen ∧ r.den.size ≤ maxLen
theorem open_ratc {n base : Nat} {cs : List Value} {y : DataW H × List MemPlace} (h : DataW.trod enc0 Tryz.prog w base sp held n 36 cs = some y) : ∃ r : RR, cs = encR r ∧ rok r := by
  obtain ⟨xs, m, _, _, hl, hxl, hf⟩ := DataW.trod_struct Tryz.underlying36 h
  rw [cb_rat] at hl
  obtain ⟨u0, u1, u2, rfl⟩ := list3 hl
  have h3 : xs.length = 3 := hxl
  have h0 : DataW.trod enc0 Tryz.prog w base sp held m 4 (([u0, u1, u2].drop 0).take (Tryz.prog.cellsOf 4)) = xs[0]? := hf 0 _ rfl
  have h1 : DataW.trod enc0 Tryz.prog w base sp held m 9 (([u0, u1, u2].drop 1).take (Tryz.prog.cellsOf 9)) = xs[1]? := hf 1 _ rfl
  have h2 : DataW.trod enc0 Tryz.prog w base sp held m 9 (([u0, u1, u2].drop 2).take (Tryz.prog.cellsOf 9)) = xs[2]? := hf 2 _ rfl
  rw [cb_bool, List.getElem?_eq_getElem (by omega)] at h0
  rw [cb_string, List.getElem?_eq_getElem (by omega)] at h1 h2
  obtain ⟨b, e0, _⟩ := DataW.trod_bool Tryz.underlying4 h0
  obtain ⟨s, e1, _, hs⟩ := DataW.trod_string Tryz.underlying9 h1
  obtain ⟨d, e2, _, hd⟩ := DataW.trod_string Tryz.underlying9 h2
  obtain rfl : u0 = .bool b := (List.cons.inj e0).1
  obtain rfl : u1 = .string s := (List.cons.inj e1).1
  obtain rfl : u2 = .string d := (List.cons.inj e2).1
  exact ⟨⟨b, s, d⟩, rfl, hs, hd⟩
end
end Go.Proofs.YtdafaibhiobpaaaGreatDoor
namespace Go.Proofs.YtdafaibhiobpaaaGreatDoor
open Go Go.RowKit Go.Sx Go.ChangeShapes Go.WideShapes
section
variable {H : Type} {enc : TypeId × Value → H} {P : Program} {w : World}
/-- An array of five numbers. -/
theorem open_five {n base : Nat} {sp : Nat → Bool} {held : Bool} {e q : TypeId} {cs : List Value} {y : DataW H × List MemPlace} (he : P.underlying e = some (.array 5 q)) (hq : P.underlying q = some (.int .u16)) (hce : P.cellsOf e = 5) (hcq : P.cellsOf q = 1)
    (h : DataW.trod enc P w base sp held n e cs = some y) : ∃ x : Nat → Nat, cs = enc5 x ∧ ∀ i, i < 5 → x i < 65536 := by
  obtain ⟨xs, m, _, _, hl, hxl, hxs⟩ := DataW.trod_array he h
  rw [hce] at hl
  have hone : ∀ j, j < 5 → ∃ z : Nat, z < 65536 ∧ cs[j]? = some (.int .u16 (z : Int)) := by
    intro j hj
    have h3 := hxs j hj
    rw [hcq, Nat.mul_one, List.getElem?_eq_getElem (by omega)] at h3
    obtain ⟨z, e1, _, hw⟩ := DataW.trod_int hq h3
    have hb := bounds_u16 hw
    refine ⟨z.toNat, by omega, ?_⟩
    have h0 : ((cs.drop j).take 1)[0]? = some (.int .u16 z) := by rw [e1]; rfl
    rw [Int.toNat_of_nonneg hb.1]
    simpa using h0
  refine ⟨fun j => if hj : j < 5 then Classical.choose (hone j hj) else 0, ?_, fun j hj => ?_⟩
  · refine List.ext_getElem? fun j => ?_
    by_cases hj : j < 5
    · rw [(Classical.choose_spec (hone j hj)).2]
      unfold enc5
      rw [Kr_get _ _ (by rw [tab_len]; exact hj), tab_get _ _ hj]
      simp only [hj, dite_true]
    · rw [List.getElem?_eq_none (by omega), List.getElem?_eq_none (by rw [enc5_len]; omega)]
  · simp only [hj, dite_true]
    exact (Classical.choose_spec (hone j hj)).1
theorem open_u16fives {t e q : TypeId} {v : Value} {d : DataW H} {ps : List MemPlace} {b0 : Nat} (ht : P.underlying t = some (.slice e)) (he : P.underlying e = some (.array 5 q)) (hq : P.underlying q = some (.int .u16)) (hce : P.cellsOf e = 5) (hcq : P.cellsOf q = 1)
    (hval : Value.okWide P w .any b0 t v) (h : DataW.Trod enc P w 0 (fun _ => true) true t v d ps) : ∃ l : List (Nat → Nat), Sl enc5 5 w v l ∧ ∀ x ∈ l, ∀ i, i < 5 → x i < 65536 := by
  obtain ⟨a0, len0, cap0, rfl⟩ := okWide_slice ht hval
  obtain ⟨fuel, hf⟩ := h
  obtain ⟨v, L, e, hS, hG⟩ := open_sl (enc := enc5) (G := fun x => ∀ i, i < 5 → x i < 65536) ht hce (fun _ _ _ h => open_five he hq hce hcq h) hf
  simp only [Value.cells, List.cons.injEq, and_true] at e
  rw [e]
  exact ⟨L, hS, hG⟩
end
section
variable {H : Type} {enc0 : TypeId × Value → H} {w : World} {sp : Nat → Bool} {held : Bool}
theorem list8 {α : Type} {l : List α} (h : l.length = 8) : ∃ a b c d e f g k, l = [a, b, c, d, e, f, g, k] := by
  match l, h with
  | [a, b, c, d, e, f, g, k], _ => exact ⟨a, b, c, d, e, f, g, k, rfl⟩
theorem cb_ob : Tryz.prog.cellsOf 66 = 8 := by kernel_rfl
theorem open_obc {n base : Nat} {cs : List Value} {y : DataW H × List MemPlace} (h : DataW.trod enc0 Tryz.prog w base sp held n 66 cs = some y) : ∃ o : Ob, cs = encOb o ∧ rok o.amt := by
  obtain ⟨xs, m, _, _, hl, hxl, hf⟩ := DataW.trod_struct Tryz.underlying66 h
  rw [cb_ob] at hl
  obtain ⟨u0, u1, u2, u3, u4, u5, u6, u7, rfl⟩ := list8 hl
  have h6 : xs.length = 6 := hxl
  have h0 : DataW.trod enc0 Tryz.prog w base sp held m 3 (([u0, u1, u2, u3, u4, u5, u6, u7].drop 0).take (Tryz.prog.cellsOf 3)) = xs[0]? := hf 0 _ rfl
  have h1 : DataW.trod enc0 Tryz.prog w base sp held m 3 (([u0, u1, u2, u3, u4, u5, u6, u7].drop 1).take (Tryz.prog.cellsOf 3)) = xs[1]? := hf 1 _ rfl
  have h2 : DataW.trod enc0 Tryz.prog w base sp held m 36 (([u0, u1, u2, u3, u4, u5, u6, u7].drop 2).take (Tryz.prog.cellsOf 36)) = xs[2]? := hf 2 _ rfl
  have h3 : DataW.trod enc0 Tryz.prog w base sp held m 3 (([u0, u1, u2, u3, u4, u5, u6, u7].drop 5).take (Tryz.prog.cellsOf 3)) = xs[3]? := hf 3 _ rfl
  have h4 : DataW.trod enc0 Tryz.prog w base sp held m 3 (([u0, u1, u2, u3, u4, u5, u6, u7].drop 6).take (Tryz.prog.cellsOf 3)) = xs[4]? := hf 4 _ rfl
  have h5 : DataW.trod enc0 Tryz.prog w base sp held m 4 (([u0, u1, u2, u3, u4, u5, u6, u7].drop 7).take (Tryz.prog.cellsOf 4)) = xs[5]? := hf 5 _ rfl
  rw [cb_int, List.getElem?_eq_getElem (by omega)] at h0 h1 h3 h4
  rw [cb_rat, List.getElem?_eq_getElem (by omega)] at h2
  rw [cb_bool, List.getElem?_eq_getElem (by omega)] at h5
  obtain ⟨a, e0, _⟩ := DataW.trod_int Tryz.underlying3 h0
  obtain ⟨b, e1, _⟩ := DataW.trod_int Tryz.underlying3 h1
  obtain ⟨r, e2, hr⟩ := open_ratc h2
  obtain ⟨c, e3, _⟩ := DataW.trod_int Tryz.underlying3 h3
  obtain ⟨d, e4, _⟩ := DataW.trod_int Tryz.underlying3 h4
  obtain ⟨f, e5, _⟩ := DataW.trod_bool Tryz.underlying4 h5
  obtain rfl : u0 = .int .i64 a := (List.cons.inj e0).1
  obtain rfl : u1 = .int .i64 b := (List.cons.inj e1).1
  obtain rfl : u2 = .bool r.neg := (List.cons.inj e2).1
  obtain rfl : u3 = .string r.num := (List.cons.inj (List.cons.inj e2).2).1
  obtain rfl : u4 = .string r.den := (List.cons.inj (List.cons.inj (List.cons.inj e2).2).2).1
  obtain rfl : u5 = .int .i64 c := (List.cons.inj e3).1
  obtain rfl : u6 = .int .i64 d := (List.cons.inj e4).1
  obtain rfl : u7 = .bool f := (List.cons.inj e5).1
  exact ⟨⟨a, b, r, c, d, f⟩, rfl, hr⟩
/-- An argument of type []api.Obligation. -/
theorem open_obs {v : Value} {d : DataW H} {ps : List MemPlace} (hval : ∃ a n c, v = .slice a n c) (h : DataW.Trod enc0 Tryz.prog w 0 (fun _ => true) true 23 v d ps) : ∃ L : List Ob, Sl encOb 8 w v L := by
  obtain ⟨a, n, c, rfl⟩ := hval
  obtain ⟨fuel, hf⟩ := h
  obtain ⟨v, L, e, hS, hG⟩ := open_sl (enc := encOb) (G := fun o => rok o.amt) Tryz.underlying23 cb_ob (fun _ _ _ h => open_obc h) hf
  simp only [Value.cells, List.cons.injEq, and_true] at e
  rw [e]
  exact ⟨L, hS⟩
end
end Go.Proofs.YtdafaibhiobpaaaGreatDoor
namespace Go.Proofs.YtdafaibhiobpaaaGreatDoor
open Go Go.RowKit Go.Sx
theorem creOf_b (a b : Nat) (hb : b < 3) : creOf a b < 4 ∧ creOf a b ≠ a := by unfold creOf; split <;> omega
theorem obOf_fine (x : Nat → Nat) : pairB 4 (obOf x).deb (obOf x).cre = true ∧ 0 ≤ toQ (obOf x).amt ∧ isDay (obOf x).inc = true ∧ isDay (obOf x).acq = true ∧ (obOf x).inc ≤ (obOf x).acq := by
  have h0 : x 0 % 4 < 4 := Nat.mod_lt _ (by decide)
  have h1 : x 1 % 3 < 3 := Nat.mod_lt _ (by decide)
  have h3 : x 3 % 60 < 60 := Nat.mod_lt _ (by decide)
  have h5 : x 4 / 8 % 50 < 50 := Nat.mod_lt _ (by decide)
  obtain ⟨hc1, hc2⟩ := creOf_b (x 0 % 4) _ h1
  have ha : acqD (x 4) < 50 := by unfold acqD; split <;> omega
  refine ⟨?_, Rat.not_lt.1 toQ_amR, ?_, ?_, ?_⟩
  · show pairB 4 ((x 0 % 4 : Nat) : Int) ((creOf (x 0 % 4) (x 1 % 3) : Nat) : Int) = true
    exact decide_eq_true (by omega)
  · show isDay ((x 3 % 60 : Nat) : Int) = true
    exact decide_eq_true (by omega)
  · show isDay (((x 3 % 60 : Nat) : Int) + ((acqD (x 4) : Nat) : Int)) = true
    exact decide_eq_true (by omega)
  · show ((x 3 % 60 : Nat) : Int) ≤ ((x 3 % 60 : Nat) : Int) + ((acqD (x 4) : Nat) : Int)
    omega
theorem obsL_fine (l : List (Nat → Nat)) (n : Nat) : ∀ o ∈ obsL l n, pairB 4 o.deb o.cre = true ∧ 0 ≤ toQ o.amt ∧ isDay o.inc = true ∧ isDay o.acq = true ∧ o.inc ≤ o.acq := by
  intro o ho
  obtain ⟨x, _, rfl⟩ := List.mem_map.1 ho
  exact obOf_fine x
theorem obsL_E (l : List (Nat → Nat)) : obsE 4 (obsL l 16) = 0 := obs_of (by omega) (by rw [obsL_len]; omega) (obsL_fine l 16)
theorem obsL_B (l : List (Nat → Nat)) (n : Nat) : ObB 1 (obsL l n) := by
  intro o ho
  obtain ⟨x, _, rfl⟩ := List.mem_map.1 ho
  show Lr (amR (x 2)) ≤ 1
  unfold amR
  rw [Lr_ofQ]; exact L_amtQ _
theorem day_u8 {n : Nat} (h : n < 256) : isDay (n : Int) = true := decide_eq_true (by omega)
theorem obsL_chk (l : List (Nat → Nat)) {c s : Nat} (hc : c < 256) (hs : s < 256) : chkE 4 (obsL l 16) c s = 0 := chk_of (obsL_E l) (day_u8 hc) (day_u8 hs)
end Go.Proofs.YtdafaibhiobpaaaGreatDoor
namespace Go.Proofs.YtdafaibhiobpaaaGreatDoor
open Go Go.RowKit Go.Sx
def Nng (l : List Ob) : Prop := ∀ i, 0 ≤ oQ l i
theorem nng_of {n : Int} {l : List Ob} (h : obsE n l = 0) : Nng l := fun i => by
  by_cases hi : i < l.length
  · exact oQ_nonneg h hi
  · unfold oQ gO
    rw [List.getD_eq_getElem?_getD, List.getElem?_eq_none (by omega)]
    show 0 ≤ toQ zRR
    rw [toQ_zRR]; exact Rat.le_refl
theorem totS_nonneg {l : List Ob} (h : Nng l) (J : List Nat) : 0 ≤ totS (oQ l) J := sumQ_nonneg fun q hq => by
  obtain ⟨i, _, rfl⟩ := List.mem_map.1 hq
  exact h i
theorem mQ_le {l : List Ob} (c s a b : Int) : mQ l c s a b ≤ totS (oQ l) (ordL l c s a b) ∧ mQ l c s a b ≤ totS (oQ l) (ordL l c s b a) := by
  unfold mQ minQ
  split <;> grind
theorem mQ_nonneg {l : List Ob} (h : Nng l) (c s a b : Int) : 0 ≤ mQ l c s a b := by
  have h1 := totS_nonneg h (ordL l c s a b)
  have h2 := totS_nonneg h (ordL l c s b a)
  unfold mQ minQ
  split <;> grind
/-- Of an eligible obligation of a to b. -/
theorem finQ_at {l : List Ob} {c s a b : Int} {i : Nat} (hi : i ∈ ordL l c s a b) : finQ l c s i = (redu ⟨oQ l, mQ l c s a b⟩ (ordL l c s a b)).rest i := by
  have hg := (ordL_mem.1 hi).2
  unfold goes at hg
  simp only [Bool.and_eq_true, decide_eq_true_eq] at hg
  unfold finQ
  rw [hg.1.1, hg.1.2]
theorem totS_fin {l : List Ob} (c s a b : Int) : totS (finQ l c s) (ordL l c s a b) = totS (redu ⟨oQ l, mQ l c s a b⟩ (ordL l c s a b)).rest (ordL l c s a b) := by
  unfold totS
  rw [List.map_congr_left fun i hi => finQ_at hi]
/-- What is set off in one direction is what is set off in the other one. -/
theorem taken {l : List Ob} (h : Nng l) (c s a b : Int) : totS (oQ l) (ordL l c s a b) - totS (finQ l c s) (ordL l c s a b) = mQ l c s a b := by
  obtain ⟨f1, f2, f3, f4⟩ := redu_facts (ordL_nodup l c s a b) (s := ⟨oQ l, mQ l c s a b⟩) (fun j _ => h j) (mQ_nonneg h c s a b)
  rw [totS_fin]
  have hle := (mQ_le (l := l) c s a b).1
  have f3' : totS (oQ l) (ordL l c s a b) - totS (redu ⟨oQ l, mQ l c s a b⟩ (ordL l c s a b)).rest (ordL l c s a b) = mQ l c s a b - (redu ⟨oQ l, mQ l c s a b⟩ (ordL l c s a b)).amt := f3
  rw [f3']
  by_cases hp : 0 < (redu ⟨oQ l, mQ l c s a b⟩ (ordL l c s a b)).amt
  · exfalso
    have hz := f4 hp
    have e0 : totS (redu ⟨oQ l, mQ l c s a b⟩ (ordL l c s a b)).rest (ordL l c s a b) = 0 := by
      unfold totS
      rw [List.map_congr_left hz]
      generalize ordL l c s a b = J
      induction J with
      | nil => rfl
      | cons x J ih => rw [List.map_cons, sumQ_cons, ih]; grind
    rw [e0] at f3'
    grind
  · have := Rat.le_antisymm (Rat.not_lt.1 hp) f2
    rw [this]; grind
/-- A sum over the indexes in their order is one over the obligations. -/
theorem totS_ord {l : List Ob} (q : Nat → Rat) (c s a b : Int) : totS q (ordL l c s a b) = sumIf l.length (goes l c s a b) q := by
  have h1 : totS q (ordL l c s a b) = totS q (selL l c s a b l.length) := sumQ_perm ((isort_perm _ _).map q)
  rw [h1]
  have key : ∀ n, totS q (selL l c s a b n) = sumIf n (goes l c s a b) q := by
    intro n
    induction n with
    | zero => rfl
    | succ n ih =>
      rw [selL_succ, sumIf]
      unfold totS at ih ⊢
      split
      · rw [List.map_append, List.map_cons, List.map_nil, sumQ_snoc, ih]
      · rw [ih, Rat.add_zero]
  exact key _
theorem redu_zero' (B : List Nat) : ∀ (t : RS), t.amt = 0 → (∀ i ∈ B, 0 ≤ t.rest i) → ∀ i, (redu t B).rest i = t.rest i := by
  induction B with
  | nil => intro t _ _ i; rfl
  | cons b B ih =>
    intro t ht hb i
    rw [redu_cons]
    have hb0 := hb b (List.mem_cons_self ..)
    have hm : minQ (t.rest b) t.amt = 0 := by rw [ht]; unfold minQ; split <;> grind
    have hr : ∀ i, (rstp t b).rest i = t.rest i := fun i => by
      show (if i = b then t.rest b - minQ (t.rest b) t.amt else t.rest i) = t.rest i
      rw [hm]
      split
      · next g => rw [g]; grind
      · rfl
    rw [ih (rstp t b) (by show t.amt - minQ (t.rest b) t.amt = 0; rw [hm, ht]; grind) (fun j hj => by rw [hr]; exact hb j (List.mem_cons_of_mem _ hj)), hr]
end Go.Proofs.YtdafaibhiobpaaaGreatDoor
namespace Go.Proofs.YtdafaibhiobpaaaGreatDoor
open Go Go.RowKit Go.Sx
theorem rIsDay_ok (d : Int) (w : World) : Ret Tryz.prog 70 #[.int .i64 d] w fun v w' => v = .bool (isDay d) ∧ w' = w := by
  refine enter Tryz.func70 rfl Tryz.ntmps70 rfl ?_
  repeat (with_reducible first | refine c_seq ?_ | refine c_block ?_ | refine c_skip ?_ | refine x_then ?_ | refine x_block ?_)
  refine c_reg ?_
  refine l_pure rfl (s_asg  rfl ?_)
  refine l_nil ?_
  repeat (with_reducible first | refine c_seq ?_ | refine c_block ?_ | refine c_skip ?_ | refine x_then ?_ | refine x_block ?_)
  by_cases h : 0 ≤ d
  · repeat (with_reducible first | refine c_seq ?_ | refine c_block ?_ | refine c_skip ?_ | refine x_then ?_ | refine x_block ?_)
    refine c_reg ?_
    refine l_pure rfl (s_move  rfl ?_)
    refine l_pure rfl (s_geq  rfl rfl ?_)
    refine l_pure rfl (s_move  rfl ?_)
    refine l_pure (gd_yes 5 (by kernel_rfl) rfl (decide_eq_true h)) (s_move  rfl ?_)
    refine l_pure (gd_yes 5 (by kernel_rfl) rfl (decide_eq_true h)) (s_leq  rfl rfl ?_)
    refine l_pure rfl (s_pick (vb rfl (decide_eq_true h)) rfl ?_)
    refine l_pure rfl (s_asg  rfl ?_)
    refine l_nil ?_
    repeat (with_reducible first | refine c_seq ?_ | refine c_block ?_ | refine c_skip ?_ | refine x_then ?_ | refine x_block ?_)
    refine c_ret ?_
    repeat (with_reducible first | refine x_then_ret ?_ | refine x_block_ret ?_)
    refine r_one rfl rfl ?_
    exact ⟨vb rfl (by unfold isDay; simp [h]), rfl⟩
  · repeat (with_reducible first | refine c_seq ?_ | refine c_block ?_ | refine c_skip ?_ | refine x_then ?_ | refine x_block ?_)
    refine c_reg ?_
    refine l_pure rfl (s_move  rfl ?_)
    refine l_pure rfl (s_geq  rfl rfl ?_)
    refine l_pure rfl (s_move  rfl ?_)
    refine l_no (gno_yes 5 (by kernel_rfl) rfl (decide_eq_false h)) ?_
    refine l_no (gno_yes 5 (by kernel_rfl) rfl (decide_eq_false h)) ?_
    refine l_pure rfl (s_pick (vb rfl (decide_eq_false h)) rfl ?_)
    refine l_pure rfl (s_asg  rfl ?_)
    refine l_nil ?_
    repeat (with_reducible first | refine c_seq ?_ | refine c_block ?_ | refine c_skip ?_ | refine x_then ?_ | refine x_block ?_)
    refine c_ret ?_
    repeat (with_reducible first | refine x_then_ret ?_ | refine x_block_ret ?_)
    refine r_one rfl rfl ?_
    exact ⟨vb rfl (by unfold isDay; simp [h]), rfl⟩
theorem rpair_ok (n a b : Int) (w : World) : Ret Tryz.prog 44 #[.int .i64 n, .int .i64 a, .int .i64 b] w fun v w' => v = .bool (pairB n a b) ∧ w' = w := by
  refine enter Tryz.func44 rfl Tryz.ntmps44 rfl ?_
  repeat (with_reducible first | refine c_seq ?_ | refine c_block ?_ | refine c_skip ?_ | refine x_then ?_ | refine x_block ?_)
  refine c_reg ?_
  refine l_pure rfl (s_asg  rfl ?_)
  refine l_nil ?_
  repeat (with_reducible first | refine c_seq ?_ | refine c_block ?_ | refine c_skip ?_ | refine x_then ?_ | refine x_block ?_)
  by_cases h1 : 0 ≤ a
  case neg =>
    repeat (with_reducible first | refine c_seq ?_ | refine c_block ?_ | refine c_skip ?_ | refine x_then ?_ | refine x_block ?_)
    refine c_reg ?_
    refine l_pure rfl (s_move  rfl ?_)
    refine l_pure rfl (s_geq  rfl rfl ?_)
    refine l_pure rfl (s_move  rfl ?_)
    refine l_no (gno_yes 9 (by kernel_rfl) rfl (decide_eq_false h1)) ?_
    refine l_no (gno_yes 9 (by kernel_rfl) rfl (decide_eq_false h1)) ?_
    refine l_no (gno_yes 9 (by kernel_rfl) rfl (decide_eq_false h1)) ?_
    refine l_pure rfl (s_pick (vb rfl (decide_eq_false h1)) rfl ?_)
    refine l_pure rfl (s_move  rfl ?_)
    refine l_no (gno_yes 14 (by kernel_rfl) rfl rfl) ?_
    refine l_no (gno_yes 14 (by kernel_rfl) rfl rfl) ?_
    refine l_pure rfl (s_pick (vb rfl rfl) rfl ?_)
    refine l_pure rfl (s_move  rfl ?_)
    refine l_no (gno_yes 18 (by kernel_rfl) rfl rfl) ?_
    refine l_no (gno_yes 18 (by kernel_rfl) rfl rfl) ?_
    refine l_no (gno_yes 18 (by kernel_rfl) rfl rfl) ?_
    refine l_pure rfl (s_pick (vb rfl rfl) rfl ?_)
    refine l_pure rfl (s_move  rfl ?_)
    refine l_no (gno_yes 23 (by kernel_rfl) rfl rfl) ?_
    refine l_no (gno_yes 23 (by kernel_rfl) rfl rfl) ?_
    refine l_no (gno_yes 23 (by kernel_rfl) rfl rfl) ?_
    refine l_pure rfl (s_pick (vb rfl rfl) rfl ?_)
    refine l_pure rfl (s_asg  rfl ?_)
    refine l_nil ?_
    repeat (with_reducible first | refine c_seq ?_ | refine c_block ?_ | refine c_skip ?_ | refine x_then ?_ | refine x_block ?_)
    refine c_ret ?_
    repeat (with_reducible first | refine x_then_ret ?_ | refine x_block_ret ?_)
    refine r_one rfl rfl ?_
    exact ⟨vb rfl (by unfold pairB; simp [h1]), rfl⟩
  by_cases h2 : a < n
  case neg =>
    repeat (with_reducible first | refine c_seq ?_ | refine c_block ?_ | refine c_skip ?_ | refine x_then ?_ | refine x_block ?_)
    refine c_reg ?_
    refine l_pure rfl (s_move  rfl ?_)
    refine l_pure rfl (s_geq  rfl rfl ?_)
    refine l_pure rfl (s_move  rfl ?_)
    refine l_pure (gd_yes 9 (by kernel_rfl) rfl (decide_eq_true h1)) (s_move  rfl ?_)
    refine l_pure (gd_yes 9 (by kernel_rfl) rfl (decide_eq_true h1)) (s_move  rfl ?_)
    refine l_pure (gd_yes 9 (by kernel_rfl) rfl (decide_eq_true h1)) (s_lss  rfl rfl ?_)
    refine l_pure rfl (s_pick (vb rfl (decide_eq_true h1)) rfl ?_)
    refine l_pure rfl (s_move  rfl ?_)
    refine l_no (gno_yes 14 (by kernel_rfl) rfl (decide_eq_false h2)) ?_
    refine l_no (gno_yes 14 (by kernel_rfl) rfl (decide_eq_false h2)) ?_
    refine l_pure rfl (s_pick (vb rfl (decide_eq_false h2)) rfl ?_)
    refine l_pure rfl (s_move  rfl ?_)
    refine l_no (gno_yes 18 (by kernel_rfl) rfl rfl) ?_
    refine l_no (gno_yes 18 (by kernel_rfl) rfl rfl) ?_
    refine l_no (gno_yes 18 (by kernel_rfl) rfl rfl) ?_
    refine l_pure rfl (s_pick (vb rfl rfl) rfl ?_)
    refine l_pure rfl (s_move  rfl ?_)
    refine l_no (gno_yes 23 (by kernel_rfl) rfl rfl) ?_
    refine l_no (gno_yes 23 (by kernel_rfl) rfl rfl) ?_
    refine l_no (gno_yes 23 (by kernel_rfl) rfl rfl) ?_
    refine l_pure rfl (s_pick (vb rfl rfl) rfl ?_)
    refine l_pure rfl (s_asg  rfl ?_)
    refine l_nil ?_
    repeat (with_reducible first | refine c_seq ?_ | refine c_block ?_ | refine c_skip ?_ | refine x_then ?_ | refine x_block ?_)
    refine c_ret ?_
    repeat (with_reducible first | refine x_then_ret ?_ | refine x_block_ret ?_)
    refine r_one rfl rfl ?_
    exact ⟨vb rfl (by unfold pairB; simp [h2]), rfl⟩
  by_cases h3 : 0 ≤ b
  case neg =>
    repeat (with_reducible first | refine c_seq ?_ | refine c_block ?_ | refine c_skip ?_ | refine x_then ?_ | refine x_block ?_)
    refine c_reg ?_
    refine l_pure rfl (s_move  rfl ?_)
    refine l_pure rfl (s_geq  rfl rfl ?_)
    refine l_pure rfl (s_move  rfl ?_)
    refine l_pure (gd_yes 9 (by kernel_rfl) rfl (decide_eq_true h1)) (s_move  rfl ?_)
    refine l_pure (gd_yes 9 (by kernel_rfl) rfl (decide_eq_true h1)) (s_move  rfl ?_)
    refine l_pure (gd_yes 9 (by kernel_rfl) rfl (decide_eq_true h1)) (s_lss  rfl rfl ?_)
    refine l_pure rfl (s_pick (vb rfl (decide_eq_true h1)) rfl ?_)
    refine l_pure rfl (s_move  rfl ?_)
    refine l_pure (gd_yes 14 (by kernel_rfl) rfl (decide_eq_true h2)) (s_move  rfl ?_)
    refine l_pure (gd_yes 14 (by kernel_rfl) rfl (decide_eq_true h2)) (s_geq  rfl rfl ?_)
    refine l_pure rfl (s_pick (vb rfl (decide_eq_true h2)) rfl ?_)
    refine l_pure rfl (s_move  rfl ?_)
    refine l_no (gno_yes 18 (by kernel_rfl) rfl (decide_eq_false h3)) ?_
    refine l_no (gno_yes 18 (by kernel_rfl) rfl (decide_eq_false h3)) ?_
    refine l_no (gno_yes 18 (by kernel_rfl) rfl (decide_eq_false h3)) ?_
    refine l_pure rfl (s_pick (vb rfl (decide_eq_false h3)) rfl ?_)
    refine l_pure rfl (s_move  rfl ?_)
    refine l_no (gno_yes 23 (by kernel_rfl) rfl rfl) ?_
    refine l_no (gno_yes 23 (by kernel_rfl) rfl rfl) ?_
    refine l_no (gno_yes 23 (by kernel_rfl) rfl rfl) ?_
    refine l_pure rfl (s_pick (vb rfl rfl) rfl ?_)
    refine l_pure rfl (s_asg  rfl ?_)
    refine l_nil ?_
    repeat (with_reducible first | refine c_seq ?_ | refine c_block ?_ | refine c_skip ?_ | refine x_then ?_ | refine x_block ?_)
    refine c_ret ?_
    repeat (with_reducible first | refine x_then_ret ?_ | refine x_block_ret ?_)
    refine r_one rfl rfl ?_
    exact ⟨vb rfl (by unfold pairB; simp [h3]), rfl⟩
  by_cases h4 : b < n
  case neg =>
    repeat (with_reducible first | refine c_seq ?_ | refine c_block ?_ | refine c_skip ?_ | refine x_then ?_ | refine x_block ?_)
    refine c_reg ?_
    refine l_pure rfl (s_move  rfl ?_)
    refine l_pure rfl (s_geq  rfl rfl ?_)
    refine l_pure rfl (s_move  rfl ?_)
    refine l_pure (gd_yes 9 (by kernel_rfl) rfl (decide_eq_true h1)) (s_move  rfl ?_)
    refine l_pure (gd_yes 9 (by kernel_rfl) rfl (decide_eq_true h1)) (s_move  rfl ?_)
    refine l_pure (gd_yes 9 (by kernel_rfl) rfl (decide_eq_true h1)) (s_lss  rfl rfl ?_)
    refine l_pure rfl (s_pick (vb rfl (decide_eq_true h1)) rfl ?_)
    refine l_pure rfl (s_move  rfl ?_)
    refine l_pure (gd_yes 14 (by kernel_rfl) rfl (decide_eq_true h2)) (s_move  rfl ?_)
    refine l_pure (gd_yes 14 (by kernel_rfl) rfl (decide_eq_true h2)) (s_geq  rfl rfl ?_)
    refine l_pure rfl (s_pick (vb rfl (decide_eq_true h2)) rfl ?_)
    refine l_pure rfl (s_move  rfl ?_)
    refine l_pure (gd_yes 18 (by kernel_rfl) rfl (decide_eq_true h3)) (s_move  rfl ?_)
    refine l_pure (gd_yes 18 (by kernel_rfl) rfl (decide_eq_true h3)) (s_move  rfl ?_)
    refine l_pure (gd_yes 18 (by kernel_rfl) rfl (decide_eq_true h3)) (s_lss  rfl rfl ?_)
    refine l_pure rfl (s_pick (vb rfl (decide_eq_true h3)) rfl ?_)
    refine l_pure rfl (s_move  rfl ?_)
    refine l_no (gno_yes 23 (by kernel_rfl) rfl (decide_eq_false h4)) ?_
    refine l_no (gno_yes 23 (by kernel_rfl) rfl (decide_eq_false h4)) ?_
    refine l_no (gno_yes 23 (by kernel_rfl) rfl (decide_eq_false h4)) ?_
    refine l_pure rfl (s_pick (vb rfl (decide_eq_false h4)) rfl ?_)
    refine l_pure rfl (s_asg  rfl ?_)
    refine l_nil ?_
    repeat (with_reducible first | refine c_seq ?_ | refine c_block ?_ | refine c_skip ?_ | refine x_then ?_ | refine x_block ?_)
    refine c_ret ?_
    repeat (with_reducible first | refine x_then_ret ?_ | refine x_block_ret ?_)
    refine r_one rfl rfl ?_
    exact ⟨vb rfl (by unfold pairB; simp [h4]), rfl⟩
  repeat (with_reducible first | refine c_seq ?_ | refine c_block ?_ | refine c_skip ?_ | refine x_then ?_ | refine x_block ?_)
  refine c_reg ?_
  refine l_pure rfl (s_move  rfl ?_)
  refine l_pure rfl (s_geq  rfl rfl ?_)
  refine l_pure rfl (s_move  rfl ?_)
  refine l_pure (gd_yes 9 (by kernel_rfl) rfl (decide_eq_true h1)) (s_move  rfl ?_)
  refine l_pure (gd_yes 9 (by kernel_rfl) rfl (decide_eq_true h1)) (s_move  rfl ?_)
  refine l_pure (gd_yes 9 (by kernel_rfl) rfl (decide_eq_true h1)) (s_lss  rfl rfl ?_)
  refine l_pure rfl (s_pick (vb rfl (decide_eq_true h1)) rfl ?_)
  refine l_pure rfl (s_move  rfl ?_)
  refine l_pure (gd_yes 14 (by kernel_rfl) rfl (decide_eq_true h2)) (s_move  rfl ?_)
  refine l_pure (gd_yes 14 (by kernel_rfl) rfl (decide_eq_true h2)) (s_geq  rfl rfl ?_)
  refine l_pure rfl (s_pick (vb rfl (decide_eq_true h2)) rfl ?_)
  refine l_pure rfl (s_move  rfl ?_)
  refine l_pure (gd_yes 18 (by kernel_rfl) rfl (decide_eq_true h3)) (s_move  rfl ?_)
  refine l_pure (gd_yes 18 (by kernel_rfl) rfl (decide_eq_true h3)) (s_move  rfl ?_)
  refine l_pure (gd_yes 18 (by kernel_rfl) rfl (decide_eq_true h3)) (s_lss  rfl rfl ?_)
  refine l_pure rfl (s_pick (vb rfl (decide_eq_true h3)) rfl ?_)
  refine l_pure rfl (s_move  rfl ?_)
  refine l_pure (gd_yes 23 (by kernel_rfl) rfl (decide_eq_true h4)) (s_move  rfl ?_)
  refine l_pure (gd_yes 23 (by kernel_rfl) rfl (decide_eq_true h4)) (s_move  rfl ?_)
  refine l_pure (gd_yes 23 (by kernel_rfl) rfl (decide_eq_true h4)) (s_neq  rfl rfl ?_)
  refine l_pure rfl (s_pick (vb rfl (decide_eq_true h4)) rfl ?_)
  refine l_pure rfl (s_asg  rfl ?_)
  refine l_nil ?_
  repeat (with_reducible first | refine c_seq ?_ | refine c_block ?_ | refine c_skip ?_ | refine x_then ?_ | refine x_block ?_)
  refine c_ret ?_
  repeat (with_reducible first | refine x_then_ret ?_ | refine x_block_ret ?_)
  refine r_one rfl rfl ?_
  exact ⟨vb rfl (by unfold pairB; simp [h1, h2, h3, h4]), rfl⟩
set_option maxHeartbeats 1000000 in
theorem rEligible_ok (o : Ob) (c s : Int) (w : World) : Ret Tryz.prog 73 #[aggOb o, .int .i64 c, .int .i64 s] w fun v w' => v = .bool (eligB o c s) ∧ Below w.heap.size w w' := by
  have hS := St.init w
  refine enter Tryz.func73 rfl Tryz.ntmps73 rfl ?_
  repeat (with_reducible first | refine c_seq ?_ | refine c_block ?_ | refine c_skip ?_ | refine x_then ?_ | refine x_block ?_)
  refine c_reg ?_
  refine l_heavy rfl (s_box  rfl rfl hS ?_)
  intro b3 wz1 hS hBz1
  refine l_pure rfl (s_asg  rfl ?_)
  refine l_nil ?_
  repeat (with_reducible first | refine c_seq ?_ | refine c_block ?_ | refine c_skip ?_ | refine x_then ?_ | refine x_block ?_)
  replace hS : St w _ [(b3, 66, encOb o)] := hS
  obtain ⟨bad, hbad⟩ : ∃ bad : Bool, bad = (!isDay c || !isDay s || o.cont || decide (c < o.inc)) := ⟨_, rfl⟩
  refine c_cut1 (fun ρ w' => ρ 1 = .int .i64 c ∧ ρ 2 = .int .i64 s ∧ ρ 3 = .pointer (some ⟨b3, 0, none⟩) ∧ ρ 24 = .bool bad ∧ St w w' [(b3, 66, encOb o)]) ?_ ?_
  · cases h1 : isDay c with
    | false =>
      have h1n : (!isDay c) = true := by rw [h1]; rfl
      repeat (with_reducible first | refine c_seq ?_ | refine c_block ?_ | refine c_skip ?_ | refine x_then ?_ | refine x_block ?_)
      refine c_reg ?_
      refine l_pure rfl (s_move  rfl ?_)
      refine l_heavy rfl (s_call Tryz.call70 rfl (rIsDay_ok c _) ?_)
      rintro _ wq2 ⟨rfl, hq2⟩
      replace hq2 := hq2.symm
      subst hq2
      refine l_pure rfl (s_not  rfl ?_)
      refine l_pure rfl (s_move  rfl ?_)
      refine l_no (gno_yes 10 (by kernel_rfl) rfl h1n) ?_
      refine l_no (gno_yes 10 (by kernel_rfl) rfl h1n) ?_
      refine l_no (gno_yes 10 (by kernel_rfl) rfl h1n) ?_
      refine l_pure rfl (s_pick (vb rfl h1n) rfl ?_)
      refine l_pure rfl (s_move  rfl ?_)
      refine l_no (gno_yes 15 (by kernel_rfl) rfl rfl) ?_
      refine l_no (gno_yes 15 (by kernel_rfl) rfl rfl) ?_
      refine l_pure rfl (s_pick (vb rfl rfl) rfl ?_)
      refine l_pure rfl (s_move  rfl ?_)
      refine l_no (gno_yes 19 (by kernel_rfl) rfl rfl) ?_
      refine l_no (gno_yes 19 (by kernel_rfl) rfl rfl) ?_
      refine l_no (gno_yes 19 (by kernel_rfl) rfl rfl) ?_
      refine l_no (gno_yes 19 (by kernel_rfl) rfl rfl) ?_
      refine l_pure rfl (s_pick (vb rfl rfl) rfl ?_)
      refine l_nil ?_
      repeat (with_reducible first | refine c_seq ?_ | refine c_block ?_ | refine c_skip ?_ | refine x_then ?_ | refine x_block ?_)
      exact ⟨_, rfl, rfl, rfl, rfl, vb rfl (by rw [hbad, h1]; simp), hS⟩
    | true =>
    have h1y : (!isDay c) = false := by rw [h1]; rfl
    cases h2 : isDay s with
    | false =>
      have h2n : (!isDay s) = true := by rw [h2]; rfl
      repeat (with_reducible first | refine c_seq ?_ | refine c_block ?_ | refine c_skip ?_ | refine x_then ?_ | refine x_block ?_)
      refine c_reg ?_
      refine l_pure rfl (s_move  rfl ?_)
      refine l_heavy rfl (s_call Tryz.call70 rfl (rIsDay_ok c _) ?_)
      rintro _ wq3 ⟨rfl, hq3⟩
      replace hq3 := hq3.symm
      subst hq3
      refine l_pure rfl (s_not  rfl ?_)
      refine l_pure rfl (s_move  rfl ?_)
      refine l_pure (gd_yes 10 (by kernel_rfl) rfl h1y) (s_move  rfl ?_)
      refine l_heavy (gd_yes 10 (by kernel_rfl) rfl h1y) (s_call Tryz.call70 rfl (rIsDay_ok s _) ?_)
      rintro _ wq4 ⟨rfl, hq4⟩
      replace hq4 := hq4.symm
      subst hq4
      refine l_pure (gd_yes 10 (by kernel_rfl) rfl h1y) (s_not  rfl ?_)
      refine l_pure rfl (s_pick (vb rfl h1y) rfl ?_)
      refine l_pure rfl (s_move  rfl ?_)
      refine l_no (gno_yes 15 (by kernel_rfl) rfl h2n) ?_
      refine l_no (gno_yes 15 (by kernel_rfl) rfl h2n) ?_
      refine l_pure rfl (s_pick (vb rfl h2n) rfl ?_)
      refine l_pure rfl (s_move  rfl ?_)
      refine l_no (gno_yes 19 (by kernel_rfl) rfl rfl) ?_
      refine l_no (gno_yes 19 (by kernel_rfl) rfl rfl) ?_
      refine l_no (gno_yes 19 (by kernel_rfl) rfl rfl) ?_
      refine l_no (gno_yes 19 (by kernel_rfl) rfl rfl) ?_
      refine l_pure rfl (s_pick (vb rfl rfl) rfl ?_)
      refine l_nil ?_
      repeat (with_reducible first | refine c_seq ?_ | refine c_block ?_ | refine c_skip ?_ | refine x_then ?_ | refine x_block ?_)
      exact ⟨_, rfl, rfl, rfl, rfl, vb rfl (by rw [hbad, h2]; simp), hS⟩
    | true =>
    have h2y : (!isDay s) = false := by rw [h2]; rfl
    cases h3 : o.cont with
    | true =>
      repeat (with_reducible first | refine c_seq ?_ | refine c_block ?_ | refine c_skip ?_ | refine x_then ?_ | refine x_block ?_)
      refine c_reg ?_
      refine l_pure rfl (s_move  rfl ?_)
      refine l_heavy rfl (s_call Tryz.call70 rfl (rIsDay_ok c _) ?_)
      rintro _ wq5 ⟨rfl, hq5⟩
      replace hq5 := hq5.symm
      subst hq5
      refine l_pure rfl (s_not  rfl ?_)
      refine l_pure rfl (s_move  rfl ?_)
      refine l_pure (gd_yes 10 (by kernel_rfl) rfl h1y) (s_move  rfl ?_)
      refine l_heavy (gd_yes 10 (by kernel_rfl) rfl h1y) (s_call Tryz.call70 rfl (rIsDay_ok s _) ?_)
      rintro _ wq6 ⟨rfl, hq6⟩
      replace hq6 := hq6.symm
      subst hq6
      refine l_pure (gd_yes 10 (by kernel_rfl) rfl h1y) (s_not  rfl ?_)
      refine l_pure rfl (s_pick (vb rfl h1y) rfl ?_)
      refine l_pure rfl (s_move  rfl ?_)
      refine l_pure (gd_yes 15 (by kernel_rfl) rfl h2y) (s_fld  rfl fo_66_5 ?_)
      refine l_read (gd_yes 15 (by kernel_rfl) rfl h2y) (s_ldo (k := 0)  rfl vi_4 hS rfl rfl rfl (.inr rfl) ?_)
      refine l_pure rfl (s_pick (vb rfl h2y) rfl ?_)
      refine l_pure rfl (s_move  rfl ?_)
      refine l_no (gno_yes 19 (by kernel_rfl) rfl h3) ?_
      refine l_no (gno_yes 19 (by kernel_rfl) rfl h3) ?_
      refine l_no (gno_yes 19 (by kernel_rfl) rfl h3) ?_
      refine l_no (gno_yes 19 (by kernel_rfl) rfl h3) ?_
      refine l_pure rfl (s_pick (vb rfl h3) rfl ?_)
      refine l_nil ?_
      repeat (with_reducible first | refine c_seq ?_ | refine c_block ?_ | refine c_skip ?_ | refine x_then ?_ | refine x_block ?_)
      exact ⟨_, rfl, rfl, rfl, rfl, vb rfl (by rw [hbad, h3]; simp), hS⟩
    | false =>
      repeat (with_reducible first | refine c_seq ?_ | refine c_block ?_ | refine c_skip ?_ | refine x_then ?_ | refine x_block ?_)
      refine c_reg ?_
      refine l_pure rfl (s_move  rfl ?_)
      refine l_heavy rfl (s_call Tryz.call70 rfl (rIsDay_ok c _) ?_)
      rintro _ wq7 ⟨rfl, hq7⟩
      replace hq7 := hq7.symm
      subst hq7
      refine l_pure rfl (s_not  rfl ?_)
      refine l_pure rfl (s_move  rfl ?_)
      refine l_pure (gd_yes 10 (by kernel_rfl) rfl h1y) (s_move  rfl ?_)
      refine l_heavy (gd_yes 10 (by kernel_rfl) rfl h1y) (s_call Tryz.call70 rfl (rIsDay_ok s _) ?_)
      rintro _ wq8 ⟨rfl, hq8⟩
      replace hq8 := hq8.symm
      subst hq8
      refine l_pure (gd_yes 10 (by kernel_rfl) rfl h1y) (s_not  rfl ?_)
      refine l_pure rfl (s_pick (vb rfl h1y) rfl ?_)
      refine l_pure rfl (s_move  rfl ?_)
      refine l_pure (gd_yes 15 (by kernel_rfl) rfl h2y) (s_fld  rfl fo_66_5 ?_)
      refine l_read (gd_yes 15 (by kernel_rfl) rfl h2y) (s_ldo (k := 0)  rfl vi_4 hS rfl rfl rfl (.inr rfl) ?_)
      refine l_pure rfl (s_pick (vb rfl h2y) rfl ?_)
      refine l_pure rfl (s_move  rfl ?_)
      refine l_pure (gd_yes 19 (by kernel_rfl) rfl h3) (s_fld  rfl fo_66_3 ?_)
      refine l_read (gd_yes 19 (by kernel_rfl) rfl h3) (s_ldo (k := 0)  rfl vi_3 hS rfl rfl rfl (.inr rfl) ?_)
      refine l_pure (gd_yes 19 (by kernel_rfl) rfl h3) (s_move  rfl ?_)
      refine l_pure (gd_yes 19 (by kernel_rfl) rfl h3) (s_gtr  rfl rfl ?_)
      refine l_pure rfl (s_pick (vb rfl h3) rfl ?_)
      refine l_nil ?_
      repeat (with_reducible first | refine c_seq ?_ | refine c_block ?_ | refine c_skip ?_ | refine x_then ?_ | refine x_block ?_)
      exact ⟨_, rfl, rfl, rfl, rfl, vb rfl (by rw [hbad, h1, h2, h3]; simp), hS⟩
  clear hS
  rintro ρ w2 ⟨h1, h2, h3, h24, hS⟩
  repeat (with_reducible first | refine c_seq ?_ | refine c_block ?_ | refine c_skip ?_ | refine x_then ?_ | refine x_block ?_)
  cases hb : bad with
  | true =>
    have he : eligB o c s = false := by
      rw [hb] at hbad
      have hbad := hbad.symm
      simp only [Bool.or_eq_true, Bool.not_eq_true', decide_eq_true_eq] at hbad
      unfold eligB
      rcases hbad with ((g | g) | g) | g
      · simp [g]
      · simp [g]
      · simp [g]
      · have : ¬ o.inc ≤ c := by omega
        simp [this]
    refine c_yes h24 hb ?_
    repeat (with_reducible first | refine c_seq ?_ | refine c_block ?_ | refine c_skip ?_ | refine x_then ?_ | refine x_block ?_)
    refine c_reg ?_
    refine l_pure rfl (s_asg  rfl ?_)
    refine l_nil ?_
    repeat (with_reducible first | refine c_seq ?_ | refine c_block ?_ | refine c_skip ?_ | refine x_then ?_ | refine x_block ?_)
    refine c_ret ?_
    repeat (with_reducible first | refine x_then_ret ?_ | refine x_block_ret ?_)
    refine r_one rfl rfl ?_
    exact ⟨vb rfl he.symm, hS.below⟩
  | false =>
    rw [hb] at hbad
    have hbad := hbad.symm
    simp only [Bool.or_eq_false_iff, Bool.not_eq_false', decide_eq_false_iff_not] at hbad
    obtain ⟨⟨⟨g1, g2⟩, g3⟩, g4⟩ := hbad
    have c1 := isDay_b g1
    have s1 := isDay_b g2
    have g5 : o.inc ≤ c := by omega
    refine c_no h24 hb ?_
    repeat (with_reducible first | refine c_seq ?_ | refine c_block ?_ | refine c_skip ?_ | refine x_then ?_ | refine x_block ?_)
    by_cases h5 : o.acq = o.inc
    · repeat (with_reducible first | refine c_seq ?_ | refine c_block ?_ | refine c_skip ?_ | refine x_then ?_ | refine x_block ?_)
      refine c_reg ?_
      refine l_pure rfl (s_fld  h3 fo_66_4 ?_)
      refine l_read rfl (s_ldo (k := 0)  rfl vi_3 hS rfl rfl rfl (.inr rfl) ?_)
      refine l_pure rfl (s_fld  h3 fo_66_3 ?_)
      refine l_read rfl (s_ldo (k := 0)  rfl vi_3 hS rfl rfl rfl (.inr rfl) ?_)
      refine l_pure rfl (s_eql  rfl rfl ?_)
      refine l_pure rfl (s_move  rfl ?_)
      refine l_no (gno_yes 30 (by kernel_rfl) rfl (decide_eq_true h5)) ?_
      refine l_no (gno_yes 30 (by kernel_rfl) rfl (decide_eq_true h5)) ?_
      refine l_no (gno_yes 30 (by kernel_rfl) rfl (decide_eq_true h5)) ?_
      refine l_no (gno_yes 30 (by kernel_rfl) rfl (decide_eq_true h5)) ?_
      refine l_no (gno_yes 30 (by kernel_rfl) rfl (decide_eq_true h5)) ?_
      refine l_no (gno_yes 30 (by kernel_rfl) rfl (decide_eq_true h5)) ?_
      refine l_pure rfl (s_pick (vb rfl (decide_eq_true h5)) rfl ?_)
      refine l_pure rfl (s_asg  rfl ?_)
      refine l_nil ?_
      repeat (with_reducible first | refine c_seq ?_ | refine c_block ?_ | refine c_skip ?_ | refine x_then ?_ | refine x_block ?_)
      refine c_ret ?_
      repeat (with_reducible first | refine x_then_ret ?_ | refine x_block_ret ?_)
      refine r_one rfl rfl ?_
      exact ⟨vb rfl (by unfold eligB; simp [g1, g2, g3, g5, h5]), hS.below⟩
    · repeat (with_reducible first | refine c_seq ?_ | refine c_block ?_ | refine c_skip ?_ | refine x_then ?_ | refine x_block ?_)
      refine c_reg ?_
      refine l_pure rfl (s_fld  h3 fo_66_4 ?_)
      refine l_read rfl (s_ldo (k := 0)  rfl vi_3 hS rfl rfl rfl (.inr rfl) ?_)
      refine l_pure rfl (s_fld  h3 fo_66_3 ?_)
      refine l_read rfl (s_ldo (k := 0)  rfl vi_3 hS rfl rfl rfl (.inr rfl) ?_)
      refine l_pure rfl (s_eql  rfl rfl ?_)
      refine l_pure rfl (s_move  rfl ?_)
      refine l_pure (gd_yes 30 (by kernel_rfl) rfl (decide_eq_false h5)) (s_fld  h3 fo_66_4 ?_)
      refine l_read (gd_yes 30 (by kernel_rfl) rfl (decide_eq_false h5)) (s_ldo (k := 0)  rfl vi_3 hS rfl rfl rfl (.inr rfl) ?_)
      refine l_pure (gd_yes 30 (by kernel_rfl) rfl (decide_eq_false h5)) (s_move  h1 ?_)
      refine l_pure (gd_yes 30 (by kernel_rfl) rfl (decide_eq_false h5)) (s_move  h2 ?_)
      refine l_pure (gd_yes 30 (by kernel_rfl) rfl (decide_eq_false h5)) (s_sub  rfl rfl (IntWalk.i64_in _ (by omega)) ?_)
      refine l_pure (gd_yes 30 (by kernel_rfl) rfl (decide_eq_false h5)) (s_lss  rfl rfl ?_)
      refine l_pure rfl (s_pick (vb rfl (decide_eq_false h5)) rfl ?_)
      refine l_pure rfl (s_asg  rfl ?_)
      refine l_nil ?_
      repeat (with_reducible first | refine c_seq ?_ | refine c_block ?_ | refine c_skip ?_ | refine x_then ?_ | refine x_block ?_)
      refine c_ret ?_
      repeat (with_reducible first | refine x_then_ret ?_ | refine x_block_ret ?_)
      refine r_one rfl rfl ?_
      exact ⟨vb rfl (by unfold eligB; simp [g1, g2, g3, g5, h5]), hS.below⟩
set_option maxHeartbeats 1000000 in
theorem rOCheck_ok (n : Int) (vl : Value) (l : List Ob) (w : World) (hl : Sl encOb 8 w vl l) (hB : ObB MX l) :
    Ret Tryz.prog 69 #[.int .i64 n, vl] w fun v w' => v = .int .i64 (obsE n l) ∧ Below w.heap.size w w' := by
  have hmax := hl.maxLen
  have hS := St.init w
  refine enter Tryz.func69 rfl Tryz.ntmps69 rfl ?_
  repeat (with_reducible first | refine c_seq ?_ | refine c_block ?_ | refine c_skip ?_ | refine x_then ?_ | refine x_block ?_)
  refine c_reg ?_
  refine l_pure rfl (s_asg  rfl ?_)
  refine l_nil ?_
  repeat (with_reducible first | refine c_seq ?_ | refine c_block ?_ | refine c_skip ?_ | refine x_then ?_ | refine x_block ?_)
  refine c_cut1 (fun ρ w' => ρ 0 = .int .i64 n ∧ ρ 1 = vl ∧ ρ 12 = .bool (decide (n < 0 ∨ 32 < n)) ∧ w' = w) ?_ ?_
  · by_cases h1 : n < 0
    · repeat (with_reducible first | refine c_seq ?_ | refine c_block ?_ | refine c_skip ?_ | refine x_then ?_ | refine x_block ?_)
      refine c_reg ?_
      refine l_pure rfl (s_move  rfl ?_)
      refine l_pure rfl (s_lss  rfl rfl ?_)
      refine l_pure rfl (s_move  rfl ?_)
      refine l_no (gno_yes 9 (by kernel_rfl) rfl (decide_eq_true h1)) ?_
      refine l_no (gno_yes 9 (by kernel_rfl) rfl (decide_eq_true h1)) ?_
      refine l_pure rfl (s_pick (vb rfl (decide_eq_true h1)) rfl ?_)
      refine l_nil ?_
      repeat (with_reducible first | refine c_seq ?_ | refine c_block ?_ | refine c_skip ?_ | refine x_then ?_ | refine x_block ?_)
      exact ⟨_, rfl, rfl, rfl, vb rfl (by simp [h1]), rfl⟩
    · repeat (with_reducible first | refine c_seq ?_ | refine c_block ?_ | refine c_skip ?_ | refine x_then ?_ | refine x_block ?_)
      refine c_reg ?_
      refine l_pure rfl (s_move  rfl ?_)
      refine l_pure rfl (s_lss  rfl rfl ?_)
      refine l_pure rfl (s_move  rfl ?_)
      refine l_pure (gd_yes 9 (by kernel_rfl) rfl (decide_eq_false h1)) (s_move  rfl ?_)
      refine l_pure (gd_yes 9 (by kernel_rfl) rfl (decide_eq_false h1)) (s_gtr  rfl rfl ?_)
      refine l_pure rfl (s_pick (vb rfl (decide_eq_false h1)) rfl ?_)
      refine l_nil ?_
      repeat (with_reducible first | refine c_seq ?_ | refine c_block ?_ | refine c_skip ?_ | refine x_then ?_ | refine x_block ?_)
      exact ⟨_, rfl, rfl, rfl, vb rfl (by simp [h1]), rfl⟩
  rintro ρ w2 ⟨h0, h1, h12, rfl⟩
  repeat (with_reducible first | refine c_seq ?_ | refine c_block ?_ | refine c_skip ?_ | refine x_then ?_ | refine x_block ?_)
  by_cases hr : n < 0 ∨ 32 < n
  · refine c_yes h12 (decide_eq_true hr) ?_
    repeat (with_reducible first | refine c_seq ?_ | refine c_block ?_ | refine c_skip ?_ | refine x_then ?_ | refine x_block ?_)
    refine c_reg ?_
    refine l_pure rfl (s_asg  rfl ?_)
    refine l_nil ?_
    repeat (with_reducible first | refine c_seq ?_ | refine c_block ?_ | refine c_skip ?_ | refine x_then ?_ | refine x_block ?_)
    refine c_ret ?_
    repeat (with_reducible first | refine x_then_ret ?_ | refine x_block_ret ?_)
    refine r_one rfl rfl ?_
    exact ⟨vi rfl (by unfold obsE; rw [if_pos hr]), hS.below⟩
  refine c_no h12 (decide_eq_false hr) ?_
  repeat (with_reducible first | refine c_seq ?_ | refine c_block ?_ | refine c_skip ?_ | refine x_then ?_ | refine x_block ?_)
  refine c_reg ?_
  refine l_pure rfl (s_move  h1 ?_)
  refine l_pure rfl (s_lenr  rfl (hl.below hS.below) ⟨_, Tryz.underlying23⟩ ?_)
  refine l_pure rfl (s_gtr  rfl rfl ?_)
  refine l_nil ?_
  repeat (with_reducible first | refine c_seq ?_ | refine c_block ?_ | refine c_skip ?_ | refine x_then ?_ | refine x_block ?_)
  by_cases h64 : 64 < l.length
  · refine c_yes rfl (decide_eq_true (by omega)) ?_
    repeat (with_reducible first | refine c_seq ?_ | refine c_block ?_ | refine c_skip ?_ | refine x_then ?_ | refine x_block ?_)
    refine c_reg ?_
    refine l_pure rfl (s_asg  rfl ?_)
    refine l_nil ?_
    repeat (with_reducible first | refine c_seq ?_ | refine c_block ?_ | refine c_skip ?_ | refine x_then ?_ | refine x_block ?_)
    refine c_ret ?_
    repeat (with_reducible first | refine x_then_ret ?_ | refine x_block_ret ?_)
    refine r_one rfl rfl ?_
    exact ⟨vi rfl (by unfold obsE; rw [if_neg hr, if_pos h64]), hS.below⟩
  refine c_no rfl (decide_eq_false (by omega)) ?_
  repeat (with_reducible first | refine c_seq ?_ | refine c_block ?_ | refine c_skip ?_ | refine x_then ?_ | refine x_block ?_)
  have hfin : obsE n l = firstE (obErr n) l := by unfold obsE; rw [if_neg hr, if_neg h64]
  rw [hfin]
  repeat (with_reducible first | refine c_seq ?_ | refine c_block ?_ | refine c_skip ?_ | refine x_then ?_ | refine x_block ?_)
  refine c_reg ?_
  refine l_pure rfl (s_asg  rfl ?_)
  refine l_nil ?_
  repeat (with_reducible first | refine c_seq ?_ | refine c_block ?_ | refine c_skip ?_ | refine x_then ?_ | refine x_block ?_)
  refine c_loop (σ := Nat) (fun i ρ w' => i ≤ l.length ∧ firstE (obErr n) (l.take i) = 0 ∧ ρ 0 = .int .i64 n ∧ ρ 1 = vl ∧ ρ 5 = .int .i64 i ∧ St w2 w' []) (fun i => l.length - i) 0
    ⟨Nat.zero_le _, rfl, h0, h1, rfl, hS⟩ ?_
  clear hS h0 h1
  rintro i ρ w3 ⟨hi, hok, h0, h1, h5, hS⟩
  repeat (with_reducible first | refine c_seq ?_ | refine c_block ?_ | refine c_skip ?_ | refine x_then ?_ | refine x_block ?_)
  refine c_reg ?_
  refine l_pure rfl (s_move  h5 ?_)
  refine l_pure rfl (s_move  h1 ?_)
  refine l_pure rfl (s_lenr  rfl (hl.below hS.below) ⟨_, Tryz.underlying23⟩ ?_)
  refine l_pure rfl (s_lss  rfl rfl ?_)
  refine l_nil ?_
  repeat (with_reducible first | refine c_seq ?_ | refine c_block ?_ | refine c_skip ?_ | refine x_then ?_ | refine x_block ?_)
  by_cases hlt : i < l.length
  · refine c_yes rfl (decide_eq_true (by omega)) ?_
    repeat (with_reducible first | refine c_seq ?_ | refine c_block ?_ | refine c_skip ?_ | refine x_then ?_ | refine x_block ?_)
    obtain ⟨o, ho⟩ : ∃ o, o = l.getD i zOb := ⟨_, rfl⟩
    obtain ⟨f1, f2⟩ := firstE_step (obErr n) l zOb hlt hok
    have hoB : Lr o.amt ≤ MX := by rw [ho]; exact hB _ (getD_mem l i zOb hlt)
    rw [← ho] at f1 f2
    repeat (with_reducible first | refine c_seq ?_ | refine c_block ?_ | refine c_skip ?_ | refine x_then ?_ | refine x_block ?_)
    refine c_reg ?_
    refine l_pure rfl (s_move  h1 ?_)
    refine l_pure rfl (s_move  h5 ?_)
    refine l_pure rfl (s_ixr (i := i)  rfl rfl (hl.below hS.below) (by omega) (by first | omega | (simp; done) | (simp; omega)) si_23 ?_)
    refine l_read rfl (s_lde (i := i) zOb  rfl vi_66 (hl.below hS.below) (by first | omega | (simp; done) | (simp; omega)) rfl rfl (.inl rfl) ?_)
    refine l_heavy rfl (s_alloc  vi_66 hS ?_)
    intro b6 wz1 hS hBz1
    refine l_heavy rfl (s_sta (k := 0)  rfl rfl vi_66 hS rfl rfl rfl (Nat.le_of_ble_eq_true rfl) rfl ?_)
    intro wz2 hS
    refine l_nil ?_
    repeat (with_reducible first | refine c_seq ?_ | refine c_block ?_ | refine c_skip ?_ | refine x_then ?_ | refine x_block ?_)
    replace hS : St w2 _ [(b6, 66, encOb (l.getD i zOb))] := hS
    rw [← ho] at hS
    repeat (with_reducible first | refine c_seq ?_ | refine c_block ?_ | refine c_skip ?_ | refine x_then ?_ | refine x_block ?_)
    refine c_forget (fun ρ' => ρ' 0 = .int .i64 n ∧ ρ' 1 = vl ∧ ρ' 6 = .pointer (some ⟨b6, 0, none⟩) ∧ ρ' 5 = .int .i64 i ∧ True) ⟨h0, h1, rfl, h5, trivial⟩ ?_
    rintro ρk3 ⟨hk3_0, hk3_1, hk3_6, hk3_5, -⟩
    repeat (with_reducible first | refine c_seq ?_ | refine c_block ?_ | refine c_skip ?_ | refine x_then ?_ | refine x_block ?_)
    refine c_reg ?_
    refine l_pure rfl (s_move  hk3_0 ?_)
    refine l_pure rfl (s_fld  hk3_6 fo_66_0 ?_)
    refine l_read rfl (s_ldo (k := 0)  rfl vi_3 hS rfl rfl rfl (.inr rfl) ?_)
    refine l_pure rfl (s_fld  hk3_6 fo_66_1 ?_)
    refine l_read rfl (s_ldo (k := 0)  rfl vi_3 hS rfl rfl rfl (.inr rfl) ?_)
    refine l_heavy rfl (s_call Tryz.call44 rfl (rpair_ok n o.deb o.cre _) ?_)
    rintro _ wq4 ⟨rfl, hq4⟩
    replace hq4 := hq4.symm
    subst hq4
    refine l_pure rfl (s_not  rfl ?_)
    refine l_pure rfl (s_asg  rfl ?_)
    refine l_nil ?_
    repeat (with_reducible first | refine c_seq ?_ | refine c_block ?_ | refine c_skip ?_ | refine x_then ?_ | refine x_block ?_)
    cases hp : pairB n o.deb o.cre with
    | false =>
      refine c_yes rfl (rfl) ?_
      repeat (with_reducible first | refine c_seq ?_ | refine c_block ?_ | refine c_skip ?_ | refine x_then ?_ | refine x_block ?_)
      have he : obErr n o = 14 := by unfold obErr; rw [if_pos hp]
      repeat (with_reducible first | refine c_seq ?_ | refine c_block ?_ | refine c_skip ?_ | refine x_then ?_ | refine x_block ?_)
      refine c_reg ?_
      refine l_pure rfl (s_asg  rfl ?_)
      refine l_nil ?_
      repeat (with_reducible first | refine c_seq ?_ | refine c_block ?_ | refine c_skip ?_ | refine x_then ?_ | refine x_block ?_)
      refine c_ret ?_
      repeat (with_reducible first | refine x_then_ret ?_ | refine x_block_ret ?_)
      refine r_one rfl rfl ?_
      exact ⟨vi rfl (by rw [f2 (by rw [he]; decide), he]), hS.below⟩
    | true =>
    have hp' : ¬ pairB n o.deb o.cre = false := by simp [hp]
    refine c_no rfl (rfl) ?_
    repeat (with_reducible first | refine c_seq ?_ | refine c_block ?_ | refine c_skip ?_ | refine x_then ?_ | refine x_block ?_)
    refine c_reg ?_
    refine l_pure rfl (s_fld  hk3_6 fo_66_2 ?_)
    refine l_read rfl (s_ldo (k := 0)  rfl vi_36 hS rfl rfl rfl (.inl rfl) ?_)
    refine l_heavy rfl (s_call Tryz.call52 rfl (rSign_ok o.amt _ hoB) ?_)
    rintro _ wc5 ⟨rfl, hBc5⟩
    replace hS := hS.grow hBc5
    refine l_pure rfl (s_lss  rfl rfl ?_)
    refine l_pure rfl (s_asg  rfl ?_)
    refine l_nil ?_
    repeat (with_reducible first | refine c_seq ?_ | refine c_block ?_ | refine c_skip ?_ | refine x_then ?_ | refine x_block ?_)
    by_cases hneg : toQ o.amt < 0
    · refine c_yes rfl (decide_eq_true (sgnQ_neg.2 hneg)) ?_
      repeat (with_reducible first | refine c_seq ?_ | refine c_block ?_ | refine c_skip ?_ | refine x_then ?_ | refine x_block ?_)
      have he : obErr n o = 7 := by unfold obErr; rw [if_neg hp', if_pos hneg]
      repeat (with_reducible first | refine c_seq ?_ | refine c_block ?_ | refine c_skip ?_ | refine x_then ?_ | refine x_block ?_)
      refine c_reg ?_
      refine l_pure rfl (s_asg  rfl ?_)
      refine l_nil ?_
      repeat (with_reducible first | refine c_seq ?_ | refine c_block ?_ | refine c_skip ?_ | refine x_then ?_ | refine x_block ?_)
      refine c_ret ?_
      repeat (with_reducible first | refine x_then_ret ?_ | refine x_block_ret ?_)
      refine r_one rfl rfl ?_
      exact ⟨vi rfl (by rw [f2 (by rw [he]; decide), he]), hS.below⟩
    refine c_no rfl (decide_eq_false (fun g => hneg (sgnQ_neg.1 g))) ?_
    repeat (with_reducible first | refine c_seq ?_ | refine c_block ?_ | refine c_skip ?_ | refine x_then ?_ | refine x_block ?_)
    refine c_cut1 (fun ρ w' => ρ 0 = .int .i64 n ∧ ρ 6 = .pointer (some ⟨b6, 0, none⟩) ∧ ρ 1 = vl ∧ ρ 5 = .int .i64 i ∧ ρ 39 = .bool (decide (isDay o.inc = false ∨ isDay o.acq = false)) ∧ St w2 w' [(b6, 66, encOb o)]) ?_ ?_
    · repeat (with_reducible first | refine c_seq ?_ | refine c_block ?_ | refine c_skip ?_ | refine x_then ?_ | refine x_block ?_)
      cases hd : isDay o.inc with
      | false =>
        have hdn : (!isDay o.inc) = true := by rw [hd]; rfl
        repeat (with_reducible first | refine c_seq ?_ | refine c_block ?_ | refine c_skip ?_ | refine x_then ?_ | refine x_block ?_)
        refine c_reg ?_
        refine l_pure rfl (s_fld  hk3_6 fo_66_3 ?_)
        refine l_read rfl (s_ldo (k := 0)  rfl vi_3 hS rfl rfl rfl (.inr rfl) ?_)
        refine l_heavy rfl (s_call Tryz.call70 rfl (rIsDay_ok o.inc _) ?_)
        rintro _ wq6 ⟨rfl, hq6⟩
        replace hq6 := hq6.symm
        subst hq6
        refine l_pure rfl (s_not  rfl ?_)
        refine l_pure rfl (s_move  rfl ?_)
        refine l_no (gno_yes 44 (by kernel_rfl) rfl hdn) ?_
        refine l_no (gno_yes 44 (by kernel_rfl) rfl hdn) ?_
        refine l_no (gno_yes 44 (by kernel_rfl) rfl hdn) ?_
        refine l_no (gno_yes 44 (by kernel_rfl) rfl hdn) ?_
        refine l_pure rfl (s_pick (vb rfl hdn) rfl ?_)
        refine l_pure rfl (s_asg  rfl ?_)
        refine l_nil ?_
        repeat (with_reducible first | refine c_seq ?_ | refine c_block ?_ | refine c_skip ?_ | refine x_then ?_ | refine x_block ?_)
        exact ⟨_, rfl, by assumption, by assumption, by assumption, by assumption, vb rfl (by simp), hS⟩
      | true =>
        have hdy : (!isDay o.inc) = false := by rw [hd]; rfl
        repeat (with_reducible first | refine c_seq ?_ | refine c_block ?_ | refine c_skip ?_ | refine x_then ?_ | refine x_block ?_)
        refine c_reg ?_
        refine l_pure rfl (s_fld  hk3_6 fo_66_3 ?_)
        refine l_read rfl (s_ldo (k := 0)  rfl vi_3 hS rfl rfl rfl (.inr rfl) ?_)
        refine l_heavy rfl (s_call Tryz.call70 rfl (rIsDay_ok o.inc _) ?_)
        rintro _ wq7 ⟨rfl, hq7⟩
        replace hq7 := hq7.symm
        subst hq7
        refine l_pure rfl (s_not  rfl ?_)
        refine l_pure rfl (s_move  rfl ?_)
        refine l_pure (gd_yes 44 (by kernel_rfl) rfl hdy) (s_fld  hk3_6 fo_66_4 ?_)
        refine l_read (gd_yes 44 (by kernel_rfl) rfl hdy) (s_ldo (k := 0)  rfl vi_3 hS rfl rfl rfl (.inr rfl) ?_)
        refine l_heavy (gd_yes 44 (by kernel_rfl) rfl hdy) (s_call Tryz.call70 rfl (rIsDay_ok o.acq _) ?_)
        rintro _ wq8 ⟨rfl, hq8⟩
        replace hq8 := hq8.symm
        subst hq8
        refine l_pure (gd_yes 44 (by kernel_rfl) rfl hdy) (s_not  rfl ?_)
        refine l_pure rfl (s_pick (vb rfl hdy) rfl ?_)
        refine l_pure rfl (s_asg  rfl ?_)
        refine l_nil ?_
        repeat (with_reducible first | refine c_seq ?_ | refine c_block ?_ | refine c_skip ?_ | refine x_then ?_ | refine x_block ?_)
        exact ⟨_, rfl, by assumption, by assumption, by assumption, by assumption, vb rfl (by cases isDay o.acq <;> simp), hS⟩
    clear hS
    rintro ρ w4 ⟨h0, h6, h1, h5, h39, hS⟩
    repeat (with_reducible first | refine c_seq ?_ | refine c_block ?_ | refine c_skip ?_ | refine x_then ?_ | refine x_block ?_)
    by_cases hday : isDay o.inc = false ∨ isDay o.acq = false
    · refine c_yes h39 (decide_eq_true hday) ?_
      repeat (with_reducible first | refine c_seq ?_ | refine c_block ?_ | refine c_skip ?_ | refine x_then ?_ | refine x_block ?_)
      have he : obErr n o = 1 := by unfold obErr; rw [if_neg hp', if_neg hneg, if_pos hday]
      repeat (with_reducible first | refine c_seq ?_ | refine c_block ?_ | refine c_skip ?_ | refine x_then ?_ | refine x_block ?_)
      refine c_reg ?_
      refine l_pure rfl (s_asg  rfl ?_)
      refine l_nil ?_
      repeat (with_reducible first | refine c_seq ?_ | refine c_block ?_ | refine c_skip ?_ | refine x_then ?_ | refine x_block ?_)
      refine c_ret ?_
      repeat (with_reducible first | refine x_then_ret ?_ | refine x_block_ret ?_)
      refine r_one rfl rfl ?_
      exact ⟨vi rfl (by rw [f2 (by rw [he]; decide), he]), hS.below⟩
    refine c_no h39 (decide_eq_false hday) ?_
    repeat (with_reducible first | refine c_seq ?_ | refine c_block ?_ | refine c_skip ?_ | refine x_then ?_ | refine x_block ?_)
    refine c_reg ?_
    refine l_pure rfl (s_fld  h6 fo_66_4 ?_)
    refine l_read rfl (s_ldo (k := 0)  rfl vi_3 hS rfl rfl rfl (.inr rfl) ?_)
    refine l_pure rfl (s_fld  h6 fo_66_3 ?_)
    refine l_read rfl (s_ldo (k := 0)  rfl vi_3 hS rfl rfl rfl (.inr rfl) ?_)
    refine l_pure rfl (s_lss  rfl rfl ?_)
    refine l_pure rfl (s_asg  rfl ?_)
    refine l_nil ?_
    repeat (with_reducible first | refine c_seq ?_ | refine c_block ?_ | refine c_skip ?_ | refine x_then ?_ | refine x_block ?_)
    by_cases hord : o.acq < o.inc
    · refine c_yes rfl (decide_eq_true hord) ?_
      repeat (with_reducible first | refine c_seq ?_ | refine c_block ?_ | refine c_skip ?_ | refine x_then ?_ | refine x_block ?_)
      have he : obErr n o = 15 := by unfold obErr; rw [if_neg hp', if_neg hneg, if_neg hday, if_pos hord]
      repeat (with_reducible first | refine c_seq ?_ | refine c_block ?_ | refine c_skip ?_ | refine x_then ?_ | refine x_block ?_)
      refine c_reg ?_
      refine l_pure rfl (s_asg  rfl ?_)
      refine l_nil ?_
      repeat (with_reducible first | refine c_seq ?_ | refine c_block ?_ | refine c_skip ?_ | refine x_then ?_ | refine x_block ?_)
      refine c_ret ?_
      repeat (with_reducible first | refine x_then_ret ?_ | refine x_block_ret ?_)
      refine r_one rfl rfl ?_
      exact ⟨vi rfl (by rw [f2 (by rw [he]; decide), he]), hS.below⟩
    · refine c_no rfl (decide_eq_false hord) ?_
      repeat (with_reducible first | refine c_seq ?_ | refine c_block ?_ | refine c_skip ?_ | refine x_then ?_ | refine x_block ?_)
      have he : obErr n o = 0 := by unfold obErr; rw [if_neg hp', if_neg hneg, if_neg hday, if_neg hord]
      repeat (with_reducible first | refine c_seq ?_ | refine c_block ?_ | refine c_skip ?_ | refine x_then ?_ | refine x_block ?_)
      refine c_reg ?_
      refine l_pure rfl (s_move  h5 ?_)
      refine l_pure rfl (s_add  rfl rfl (IntWalk.i64_in _ (by omega)) ?_)
      refine l_pure rfl (s_asg  rfl ?_)
      refine l_nil ?_
      repeat (with_reducible first | refine c_seq ?_ | refine c_block ?_ | refine c_skip ?_ | refine x_then ?_ | refine x_block ?_)
      exact ⟨i + 1, _, rfl, ⟨hlt, f1 he, by assumption, by assumption, vi rfl (by omega), hS.drop (List.sublist_cons_self _ _)⟩, by omega⟩
  · refine c_no rfl (decide_eq_false (by omega)) ?_
    repeat (with_reducible first | refine c_seq ?_ | refine c_block ?_ | refine c_skip ?_ | refine x_then ?_ | refine x_block ?_)
    refine c_exit ?_
    repeat (with_reducible first | refine x_then_exit ?_ | refine x_block_exit ?_ | refine x_block_pass rfl ?_)
    repeat (with_reducible first | refine c_seq ?_ | refine c_block ?_ | refine c_skip ?_ | refine x_then ?_ | refine x_block ?_)
    have e : l.take i = l := List.take_of_length_le (by omega)
    rw [e] at hok
    repeat (with_reducible first | refine c_seq ?_ | refine c_block ?_ | refine c_skip ?_ | refine x_then ?_ | refine x_block ?_)
    refine c_reg ?_
    refine l_pure rfl (s_asg  rfl ?_)
    refine l_nil ?_
    repeat (with_reducible first | refine c_seq ?_ | refine c_block ?_ | refine c_skip ?_ | refine x_then ?_ | refine x_block ?_)
    refine c_ret ?_
    repeat (with_reducible first | refine x_then_ret ?_ | refine x_block_ret ?_)
    refine r_one rfl rfl ?_
    exact ⟨vi rfl hok.symm, hS.below⟩
end Go.Proofs.YtdafaibhiobpaaaGreatDoor
namespace Go.Proofs.YtdafaibhiobpaaaGreatDoor
open Go Go.RowKit Go.Sx
set_option maxHeartbeats 1000000 in
theorem rdays_ok (n c s : Int) (vl : Value) (l : List Ob) (w : World) (hl : Sl encOb 8 w vl l) (hB : ObB MX l) :
    Ret Tryz.prog 34 #[.int .i64 n, vl, .int .i64 c, .int .i64 s] w fun v w' => v = .int .i64 (chkE n l c s) ∧ Below w.heap.size w w' := by
  have hS := St.init w
  refine enter Tryz.func34 rfl Tryz.ntmps34 rfl ?_
  repeat (with_reducible first | refine c_seq ?_ | refine c_block ?_ | refine c_skip ?_ | refine x_then ?_ | refine x_block ?_)
  refine c_reg ?_
  refine l_pure rfl (s_asg  rfl ?_)
  refine l_nil ?_
  repeat (with_reducible first | refine c_seq ?_ | refine c_block ?_ | refine c_skip ?_ | refine x_then ?_ | refine x_block ?_)
  refine c_reg ?_
  refine l_pure rfl (s_move  rfl ?_)
  refine l_pure rfl (s_move  rfl ?_)
  refine l_heavy rfl (s_call Tryz.call69 rfl (rOCheck_ok n vl l _ hl hB) ?_)
  rintro _ wc1 ⟨rfl, hBc1⟩
  replace hS := hS.grow hBc1
  refine l_pure rfl (s_asg  rfl ?_)
  refine l_nil ?_
  repeat (with_reducible first | refine c_seq ?_ | refine c_block ?_ | refine c_skip ?_ | refine x_then ?_ | refine x_block ?_)
  refine c_cut1 (fun ρ w' => ρ 9 = .int .i64 (obsE n l) ∧ ρ 24 = .bool (decide (obsE n l = 0 ∧ (isDay c = false ∨ isDay s = false))) ∧ St w w' []) ?_ ?_
  · by_cases he : obsE n l = 0
    case neg =>
      repeat (with_reducible first | refine c_seq ?_ | refine c_block ?_ | refine c_skip ?_ | refine x_then ?_ | refine x_block ?_)
      refine c_reg ?_
      refine l_pure rfl (s_move  rfl ?_)
      refine l_pure rfl (s_eql  rfl rfl ?_)
      refine l_pure rfl (s_move  rfl ?_)
      refine l_no (gno_yes 15 (by kernel_rfl) rfl (decide_eq_false he)) ?_
      refine l_no (gno_yes 15 (by kernel_rfl) rfl (decide_eq_false he)) ?_
      refine l_no (gno_yes 15 (by kernel_rfl) rfl (decide_eq_false he)) ?_
      refine l_no (gno_yes 15 (by kernel_rfl) rfl (decide_eq_false he)) ?_
      refine l_no (gno_un 19 (by kernel_rfl) rfl) ?_
      refine l_no (gno_un 19 (by kernel_rfl) rfl) ?_
      refine l_no (gno_un 19 (by kernel_rfl) rfl) ?_
      refine l_no (gno_yes 15 (by kernel_rfl) rfl (decide_eq_false he)) ?_
      refine l_pure rfl (s_pick (vb rfl (decide_eq_false he)) rfl ?_)
      refine l_nil ?_
      repeat (with_reducible first | refine c_seq ?_ | refine c_block ?_ | refine c_skip ?_ | refine x_then ?_ | refine x_block ?_)
      exact ⟨_, rfl, rfl, vb rfl (by simp [he]), hS⟩
    cases hd : isDay c with
    | false =>
      have hdn : (!isDay c) = true := by rw [hd]; rfl
      repeat (with_reducible first | refine c_seq ?_ | refine c_block ?_ | refine c_skip ?_ | refine x_then ?_ | refine x_block ?_)
      refine c_reg ?_
      refine l_pure rfl (s_move  rfl ?_)
      refine l_pure rfl (s_eql  rfl rfl ?_)
      refine l_pure rfl (s_move  rfl ?_)
      refine l_pure (gd_yes 15 (by kernel_rfl) rfl (decide_eq_true he)) (s_move  rfl ?_)
      refine l_heavy (gd_yes 15 (by kernel_rfl) rfl (decide_eq_true he)) (s_call Tryz.call70 rfl (rIsDay_ok c _) ?_)
      rintro _ wq2 ⟨rfl, hq2⟩
      replace hq2 := hq2.symm
      subst hq2
      refine l_pure (gd_yes 15 (by kernel_rfl) rfl (decide_eq_true he)) (s_not  rfl ?_)
      refine l_pure (gd_yes 15 (by kernel_rfl) rfl (decide_eq_true he)) (s_move  rfl ?_)
      refine l_no (gno_yes 19 (by kernel_rfl) rfl hdn) ?_
      refine l_no (gno_yes 19 (by kernel_rfl) rfl hdn) ?_
      refine l_no (gno_yes 19 (by kernel_rfl) rfl hdn) ?_
      refine l_pure (gd_yes 15 (by kernel_rfl) rfl (decide_eq_true he)) (s_pick (vb rfl hdn) rfl ?_)
      refine l_pure rfl (s_pick (vb rfl (decide_eq_true he)) rfl ?_)
      refine l_nil ?_
      repeat (with_reducible first | refine c_seq ?_ | refine c_block ?_ | refine c_skip ?_ | refine x_then ?_ | refine x_block ?_)
      exact ⟨_, rfl, rfl, vb rfl (by simp [he]), hS⟩
    | true =>
      have hdy : (!isDay c) = false := by rw [hd]; rfl
      repeat (with_reducible first | refine c_seq ?_ | refine c_block ?_ | refine c_skip ?_ | refine x_then ?_ | refine x_block ?_)
      refine c_reg ?_
      refine l_pure rfl (s_move  rfl ?_)
      refine l_pure rfl (s_eql  rfl rfl ?_)
      refine l_pure rfl (s_move  rfl ?_)
      refine l_pure (gd_yes 15 (by kernel_rfl) rfl (decide_eq_true he)) (s_move  rfl ?_)
      refine l_heavy (gd_yes 15 (by kernel_rfl) rfl (decide_eq_true he)) (s_call Tryz.call70 rfl (rIsDay_ok c _) ?_)
      rintro _ wq3 ⟨rfl, hq3⟩
      replace hq3 := hq3.symm
      subst hq3
      refine l_pure (gd_yes 15 (by kernel_rfl) rfl (decide_eq_true he)) (s_not  rfl ?_)
      refine l_pure (gd_yes 15 (by kernel_rfl) rfl (decide_eq_true he)) (s_move  rfl ?_)
      refine l_pure (gd_yes 19 (by kernel_rfl) rfl hdy) (s_move  rfl ?_)
      refine l_heavy (gd_yes 19 (by kernel_rfl) rfl hdy) (s_call Tryz.call70 rfl (rIsDay_ok s _) ?_)
      rintro _ wq4 ⟨rfl, hq4⟩
      replace hq4 := hq4.symm
      subst hq4
      refine l_pure (gd_yes 19 (by kernel_rfl) rfl hdy) (s_not  rfl ?_)
      refine l_pure (gd_yes 15 (by kernel_rfl) rfl (decide_eq_true he)) (s_pick (vb rfl hdy) rfl ?_)
      refine l_pure rfl (s_pick (vb rfl (decide_eq_true he)) rfl ?_)
      refine l_nil ?_
      repeat (with_reducible first | refine c_seq ?_ | refine c_block ?_ | refine c_skip ?_ | refine x_then ?_ | refine x_block ?_)
      exact ⟨_, rfl, rfl, vb rfl (by cases isDay s <;> simp [he]), hS⟩
  clear hS
  rintro ρ w2 ⟨h9, h24, hS⟩
  repeat (with_reducible first | refine c_seq ?_ | refine c_block ?_ | refine c_skip ?_ | refine x_then ?_ | refine x_block ?_)
  refine c_cut1 (fun ρ w' => ρ 9 = .int .i64 (chkE n l c s) ∧ St w w' []) ?_ ?_
  · by_cases hb : obsE n l = 0 ∧ (isDay c = false ∨ isDay s = false)
    · refine c_yes h24 (decide_eq_true hb) ?_
      repeat (with_reducible first | refine c_seq ?_ | refine c_block ?_ | refine c_skip ?_ | refine x_then ?_ | refine x_block ?_)
      refine c_reg ?_
      refine l_pure rfl (s_asg  rfl ?_)
      refine l_nil ?_
      repeat (with_reducible first | refine c_seq ?_ | refine c_block ?_ | refine c_skip ?_ | refine x_then ?_ | refine x_block ?_)
      exact ⟨_, rfl, vi rfl (by unfold chkE; rw [if_neg (fun g => g hb.1), if_pos hb.2]), hS⟩
    · refine c_no h24 (decide_eq_false hb) ?_
      repeat (with_reducible first | refine c_seq ?_ | refine c_block ?_ | refine c_skip ?_ | refine x_then ?_ | refine x_block ?_)
      refine ⟨_, rfl, vi h9 ?_, hS⟩
      unfold chkE
      by_cases he : obsE n l = 0
      · rw [if_neg (fun g => g he), if_neg (fun g => hb ⟨he, g⟩), he]
      · rw [if_pos he]
  clear hS h9 h24
  rintro ρ w3 ⟨h9, hS⟩
  repeat (with_reducible first | refine c_seq ?_ | refine c_block ?_ | refine c_skip ?_ | refine x_then ?_ | refine x_block ?_)
  refine c_reg ?_
  refine l_pure rfl (s_move  h9 ?_)
  refine l_pure rfl (s_asg  rfl ?_)
  refine l_nil ?_
  repeat (with_reducible first | refine c_seq ?_ | refine c_block ?_ | refine c_skip ?_ | refine x_then ?_ | refine x_block ?_)
  refine c_ret ?_
  repeat (with_reducible first | refine x_then_ret ?_ | refine x_block_ret ?_)
  refine r_one rfl rfl ?_
  exact ⟨rfl, hS.below⟩
set_option maxHeartbeats 1000000 in
theorem rowes_ok (vl : Value) (l : List Ob) (c s a b : Int) (K : Nat) (w : World) (hl : Sl encOb 8 w vl l) (hB : ObB K l) (h20 : l.length ≤ 20) (hK : 100 * K + 100 ≤ MX) :
    Ret Tryz.prog 37 #[vl, .int .i64 c, .int .i64 s, .int .i64 a, .int .i64 b] w fun r w' => r = aggR (ofQ (totS (oQ l) (ordL l c s a b))) ∧ Below w.heap.size w w' := by
  rw [totS_ord]
  have hS := St.init w
  refine enter Tryz.func37 rfl Tryz.ntmps37 rfl ?_
  repeat (with_reducible first | refine c_seq ?_ | refine c_block ?_ | refine c_skip ?_ | refine x_then ?_ | refine x_block ?_)
  refine c_reg ?_
  refine l_heavy rfl (s_alloc  vi_36 hS ?_)
  intro b10 wz1 hS hBz1
  refine l_nil ?_
  repeat (with_reducible first | refine c_seq ?_ | refine c_block ?_ | refine c_skip ?_ | refine x_then ?_ | refine x_block ?_)
  refine c_reg ?_
  refine l_pure rfl (s_build  rfl bz_36 ?_)
  refine l_heavy rfl (s_alloc  vi_36 hS ?_)
  intro b11 wz2 hS hBz2
  refine l_heavy rfl (s_sta (k := 0)  rfl rfl vi_36 hS rfl rfl rfl (Nat.le_of_ble_eq_true rfl) rfl ?_)
  intro wz3 hS
  refine l_nil ?_
  repeat (with_reducible first | refine c_seq ?_ | refine c_block ?_ | refine c_skip ?_ | refine x_then ?_ | refine x_block ?_)
  replace hS : St w _ [(b11, 36, encR zRR), (b10, 36, encR zRR)] := hS
  rw [encR_zero] at hS
  repeat (with_reducible first | refine c_seq ?_ | refine c_block ?_ | refine c_skip ?_ | refine x_then ?_ | refine x_block ?_)
  refine c_reg ?_
  refine l_pure rfl (s_asg  rfl ?_)
  refine l_nil ?_
  repeat (with_reducible first | refine c_seq ?_ | refine c_block ?_ | refine c_skip ?_ | refine x_then ?_ | refine x_block ?_)
  refine c_loop (σ := Nat) (fun i ρ w' => i ≤ l.length ∧ ρ 0 = vl ∧ ρ 1 = .int .i64 c ∧ ρ 2 = .int .i64 s ∧ ρ 3 = .int .i64 a ∧ ρ 4 = .int .i64 b ∧ ρ 10 = .pointer (some ⟨b10, 0, none⟩) ∧ ρ 11 = .pointer (some ⟨b11, 0, none⟩) ∧ ρ 12 = .int .i64 i ∧
      St w w' [(b11, 36, encR (ofQ (sumIf i (goes l c s a b) (oQ l)))), (b10, 36, encR (ofQ 0))]) (fun i => l.length - i) 0
    ⟨Nat.zero_le _, rfl, rfl, rfl, rfl, rfl, rfl, rfl, rfl, hS⟩ ?_
  clear hS
  rintro i ρ w2 ⟨hi, h0, h1, h2, h3, h4, h10, h11, h12, hS⟩
  repeat (with_reducible first | refine c_seq ?_ | refine c_block ?_ | refine c_skip ?_ | refine x_then ?_ | refine x_block ?_)
  refine c_reg ?_
  refine l_pure rfl (s_move  h12 ?_)
  refine l_pure rfl (s_move  h0 ?_)
  refine l_pure rfl (s_lenr  rfl (hl.below hS.below) ⟨_, Tryz.underlying23⟩ ?_)
  refine l_pure rfl (s_lss  rfl rfl ?_)
  refine l_nil ?_
  repeat (with_reducible first | refine c_seq ?_ | refine c_block ?_ | refine c_skip ?_ | refine x_then ?_ | refine x_block ?_)
  by_cases hlt : i < l.length
  · refine c_yes rfl (decide_eq_true (by omega)) ?_
    repeat (with_reducible first | refine c_seq ?_ | refine c_block ?_ | refine c_skip ?_ | refine x_then ?_ | refine x_block ?_)
    obtain ⟨o, ho⟩ : ∃ o, o = gO l i := ⟨_, rfl⟩
    have hgo : goes l c s a b i = (decide (o.deb = a) && decide (o.cre = b) && eligB o c s) := by rw [ho]; rfl
    have hoQ : toQ o.amt = oQ l i := by rw [ho]; rfl
    have hoL : Lr o.amt ≤ K := by rw [ho]; exact hB _ (goO hlt)
    have hld : l.getD i zOb = o := by rw [ho]; rfl
    obtain ⟨A, hA⟩ : ∃ A, A = sumIf i (goes l c s a b) (oQ l) := ⟨_, rfl⟩
    have hA1 : sumIf (i + 1) (goes l c s a b) (oQ l) = A + if goes l c s a b i = true then oQ l i else 0 := by rw [sumIf, hA]
    have lA : L A ≤ 20 * (K + 1) + 1 := by
      have h1 := L_sumIf i (goes l c s a b) (oQ l) K (fun j hj => L_oQ hB (by omega))
      have h2 : i * (K + 1) ≤ 20 * (K + 1) := Nat.mul_le_mul_right _ (by omega)
      rw [hA]; omega
    rw [← hA] at hS
    refine c_cut1 (fun ρ w' => ρ 0 = vl ∧ ρ 1 = .int .i64 c ∧ ρ 2 = .int .i64 s ∧ ρ 3 = .int .i64 a ∧ ρ 4 = .int .i64 b ∧ ρ 10 = .pointer (some ⟨b10, 0, none⟩) ∧ ρ 11 = .pointer (some ⟨b11, 0, none⟩) ∧ ρ 12 = .int .i64 i ∧ ρ 44 = .bool (goes l c s a b i) ∧
        St w w' [(b11, 36, encR (ofQ A)), (b10, 36, encR (ofQ 0))]) ?_ ?_
    · rw [hgo]
      by_cases g1 : o.deb = a
      case neg =>
        repeat (with_reducible first | refine c_seq ?_ | refine c_block ?_ | refine c_skip ?_ | refine x_then ?_ | refine x_block ?_)
        refine c_reg ?_
        refine l_pure rfl (s_move  h0 ?_)
        refine l_pure rfl (s_move  h12 ?_)
        refine l_pure rfl (s_ixr (i := i)  rfl rfl (hl.below hS.below) (by omega) (by first | omega | (simp; done) | (simp; omega)) si_23 ?_)
        refine l_pure rfl (s_fldr  rfl (spot_el (hl.below hS.below) (fun _ => rfl) (by decide) (by first | omega | (simp; done) | (simp; omega))) fo_66_0 ?_)
        refine l_read rfl (s_ldfe (i := i) (off := 0) zOb  rfl vi_3 (hl.below hS.below) (fun _ => rfl) (by decide) (by first | omega | (simp; done) | (simp; omega)) rfl rfl (.inr rfl) ?_)
        refine l_pure rfl (s_move  h3 ?_)
        refine l_pure rfl (s_eql  rfl rfl ?_)
        refine l_pure rfl (s_move  rfl ?_)
        refine l_no (gno_yes 27 (by kernel_rfl) rfl (decide_eq_false (by rw [hld]; exact g1))) ?_
        refine l_no (gno_yes 27 (by kernel_rfl) rfl (decide_eq_false (by rw [hld]; exact g1))) ?_
        refine l_no (gno_yes 27 (by kernel_rfl) rfl (decide_eq_false (by rw [hld]; exact g1))) ?_
        refine l_no (gno_yes 27 (by kernel_rfl) rfl (decide_eq_false (by rw [hld]; exact g1))) ?_
        refine l_no (gno_yes 27 (by kernel_rfl) rfl (decide_eq_false (by rw [hld]; exact g1))) ?_
        refine l_no (gno_yes 27 (by kernel_rfl) rfl (decide_eq_false (by rw [hld]; exact g1))) ?_
        refine l_no (gno_yes 27 (by kernel_rfl) rfl (decide_eq_false (by rw [hld]; exact g1))) ?_
        refine l_pure rfl (s_pick (vb rfl (decide_eq_false (by rw [hld]; exact g1))) rfl ?_)
        refine l_pure rfl (s_move  rfl ?_)
        refine l_no (gno_yes 36 (by kernel_rfl) rfl rfl) ?_
        refine l_no (gno_yes 36 (by kernel_rfl) rfl rfl) ?_
        refine l_no (gno_yes 36 (by kernel_rfl) rfl rfl) ?_
        refine l_no (gno_yes 36 (by kernel_rfl) rfl rfl) ?_
        refine l_no (gno_yes 36 (by kernel_rfl) rfl rfl) ?_
        refine l_no (gno_yes 36 (by kernel_rfl) rfl rfl) ?_
        refine l_no (gno_yes 36 (by kernel_rfl) rfl rfl) ?_
        refine l_pure rfl (s_pick (vb rfl rfl) rfl ?_)
        refine l_nil ?_
        repeat (with_reducible first | refine c_seq ?_ | refine c_block ?_ | refine c_skip ?_ | refine x_then ?_ | refine x_block ?_)
        exact ⟨_, rfl, by assumption, by assumption, by assumption, by assumption, by assumption, by assumption, by assumption, by assumption, vb rfl (by simp [g1]), hS⟩
      by_cases g2 : o.cre = b
      case neg =>
        repeat (with_reducible first | refine c_seq ?_ | refine c_block ?_ | refine c_skip ?_ | refine x_then ?_ | refine x_block ?_)
        refine c_reg ?_
        refine l_pure rfl (s_move  h0 ?_)
        refine l_pure rfl (s_move  h12 ?_)
        refine l_pure rfl (s_ixr (i := i)  rfl rfl (hl.below hS.below) (by omega) (by first | omega | (simp; done) | (simp; omega)) si_23 ?_)
        refine l_pure rfl (s_fldr  rfl (spot_el (hl.below hS.below) (fun _ => rfl) (by decide) (by first | omega | (simp; done) | (simp; omega))) fo_66_0 ?_)
        refine l_read rfl (s_ldfe (i := i) (off := 0) zOb  rfl vi_3 (hl.below hS.below) (fun _ => rfl) (by decide) (by first | omega | (simp; done) | (simp; omega)) rfl rfl (.inr rfl) ?_)
        refine l_pure rfl (s_move  h3 ?_)
        refine l_pure rfl (s_eql  rfl rfl ?_)
        refine l_pure rfl (s_move  rfl ?_)
        refine l_pure (gd_yes 27 (by kernel_rfl) rfl (decide_eq_true (by rw [hld]; exact g1))) (s_move  h0 ?_)
        refine l_pure (gd_yes 27 (by kernel_rfl) rfl (decide_eq_true (by rw [hld]; exact g1))) (s_move  h12 ?_)
        refine l_pure (gd_yes 27 (by kernel_rfl) rfl (decide_eq_true (by rw [hld]; exact g1))) (s_ixr (i := i)  rfl rfl (hl.below hS.below) (by omega) (by first | omega | (simp; done) | (simp; omega)) si_23 ?_)
        refine l_pure (gd_yes 27 (by kernel_rfl) rfl (decide_eq_true (by rw [hld]; exact g1))) (s_fldr  rfl (spot_el (hl.below hS.below) (fun _ => rfl) (by decide) (by first | omega | (simp; done) | (simp; omega))) fo_66_1 ?_)
        refine l_read (gd_yes 27 (by kernel_rfl) rfl (decide_eq_true (by rw [hld]; exact g1))) (s_ldfe (i := i) (off := 1) zOb  rfl vi_3 (hl.below hS.below) (fun _ => rfl) (by decide) (by first | omega | (simp; done) | (simp; omega)) rfl rfl (.inr rfl) ?_)
        refine l_pure (gd_yes 27 (by kernel_rfl) rfl (decide_eq_true (by rw [hld]; exact g1))) (s_move  h4 ?_)
        refine l_pure (gd_yes 27 (by kernel_rfl) rfl (decide_eq_true (by rw [hld]; exact g1))) (s_eql  rfl rfl ?_)
        refine l_pure rfl (s_pick (vb rfl (decide_eq_true (by rw [hld]; exact g1))) rfl ?_)
        refine l_pure rfl (s_move  rfl ?_)
        refine l_no (gno_yes 36 (by kernel_rfl) rfl (decide_eq_false (by rw [hld]; exact g2))) ?_
        refine l_no (gno_yes 36 (by kernel_rfl) rfl (decide_eq_false (by rw [hld]; exact g2))) ?_
        refine l_no (gno_yes 36 (by kernel_rfl) rfl (decide_eq_false (by rw [hld]; exact g2))) ?_
        refine l_no (gno_yes 36 (by kernel_rfl) rfl (decide_eq_false (by rw [hld]; exact g2))) ?_
        refine l_no (gno_yes 36 (by kernel_rfl) rfl (decide_eq_false (by rw [hld]; exact g2))) ?_
        refine l_no (gno_yes 36 (by kernel_rfl) rfl (decide_eq_false (by rw [hld]; exact g2))) ?_
        refine l_no (gno_yes 36 (by kernel_rfl) rfl (decide_eq_false (by rw [hld]; exact g2))) ?_
        refine l_pure rfl (s_pick (vb rfl (decide_eq_false (by rw [hld]; exact g2))) rfl ?_)
        refine l_nil ?_
        repeat (with_reducible first | refine c_seq ?_ | refine c_block ?_ | refine c_skip ?_ | refine x_then ?_ | refine x_block ?_)
        exact ⟨_, rfl, by assumption, by assumption, by assumption, by assumption, by assumption, by assumption, by assumption, by assumption, vb rfl (by simp [g2]), hS⟩
      repeat (with_reducible first | refine c_seq ?_ | refine c_block ?_ | refine c_skip ?_ | refine x_then ?_ | refine x_block ?_)
      refine c_reg ?_
      refine l_pure rfl (s_move  h0 ?_)
      refine l_pure rfl (s_move  h12 ?_)
      refine l_pure rfl (s_ixr (i := i)  rfl rfl (hl.below hS.below) (by omega) (by first | omega | (simp; done) | (simp; omega)) si_23 ?_)
      refine l_pure rfl (s_fldr  rfl (spot_el (hl.below hS.below) (fun _ => rfl) (by decide) (by first | omega | (simp; done) | (simp; omega))) fo_66_0 ?_)
      refine l_read rfl (s_ldfe (i := i) (off := 0) zOb  rfl vi_3 (hl.below hS.below) (fun _ => rfl) (by decide) (by first | omega | (simp; done) | (simp; omega)) rfl rfl (.inr rfl) ?_)
      refine l_pure rfl (s_move  h3 ?_)
      refine l_pure rfl (s_eql  rfl rfl ?_)
      refine l_pure rfl (s_move  rfl ?_)
      refine l_pure (gd_yes 27 (by kernel_rfl) rfl (decide_eq_true (by rw [hld]; exact g1))) (s_move  h0 ?_)
      refine l_pure (gd_yes 27 (by kernel_rfl) rfl (decide_eq_true (by rw [hld]; exact g1))) (s_move  h12 ?_)
      refine l_pure (gd_yes 27 (by kernel_rfl) rfl (decide_eq_true (by rw [hld]; exact g1))) (s_ixr (i := i)  rfl rfl (hl.below hS.below) (by omega) (by first | omega | (simp; done) | (simp; omega)) si_23 ?_)
      refine l_pure (gd_yes 27 (by kernel_rfl) rfl (decide_eq_true (by rw [hld]; exact g1))) (s_fldr  rfl (spot_el (hl.below hS.below) (fun _ => rfl) (by decide) (by first | omega | (simp; done) | (simp; omega))) fo_66_1 ?_)
      refine l_read (gd_yes 27 (by kernel_rfl) rfl (decide_eq_true (by rw [hld]; exact g1))) (s_ldfe (i := i) (off := 1) zOb  rfl vi_3 (hl.below hS.below) (fun _ => rfl) (by decide) (by first | omega | (simp; done) | (simp; omega)) rfl rfl (.inr rfl) ?_)
      refine l_pure (gd_yes 27 (by kernel_rfl) rfl (decide_eq_true (by rw [hld]; exact g1))) (s_move  h4 ?_)
      refine l_pure (gd_yes 27 (by kernel_rfl) rfl (decide_eq_true (by rw [hld]; exact g1))) (s_eql  rfl rfl ?_)
      refine l_pure rfl (s_pick (vb rfl (decide_eq_true (by rw [hld]; exact g1))) rfl ?_)
      refine l_pure rfl (s_move  rfl ?_)
      refine l_pure (gd_yes 36 (by kernel_rfl) rfl (decide_eq_true (by rw [hld]; exact g2))) (s_move  h0 ?_)
      refine l_pure (gd_yes 36 (by kernel_rfl) rfl (decide_eq_true (by rw [hld]; exact g2))) (s_move  h12 ?_)
      refine l_pure (gd_yes 36 (by kernel_rfl) rfl (decide_eq_true (by rw [hld]; exact g2))) (s_ixr (i := i)  rfl rfl (hl.below hS.below) (by omega) (by first | omega | (simp; done) | (simp; omega)) si_23 ?_)
      refine l_read (gd_yes 36 (by kernel_rfl) rfl (decide_eq_true (by rw [hld]; exact g2))) (s_lde (v := aggOb o) (i := i) zOb  rfl vi_66 (hl.below hS.below) (by omega) rfl (by rw [hld]; rfl) (.inl rfl) ?_)
      refine l_pure (gd_yes 36 (by kernel_rfl) rfl (decide_eq_true (by rw [hld]; exact g2))) (s_move  h1 ?_)
      refine l_pure (gd_yes 36 (by kernel_rfl) rfl (decide_eq_true (by rw [hld]; exact g2))) (s_move  h2 ?_)
      refine l_heavy (gd_yes 36 (by kernel_rfl) rfl (decide_eq_true (by rw [hld]; exact g2))) (s_call Tryz.call73 rfl (rEligible_ok o c s _) ?_)
      rintro _ wc4 ⟨rfl, hBc4⟩
      replace hS := hS.grow hBc4
      refine l_pure rfl (s_pick (vb rfl (decide_eq_true (by rw [hld]; exact g2))) rfl ?_)
      refine l_nil ?_
      repeat (with_reducible first | refine c_seq ?_ | refine c_block ?_ | refine c_skip ?_ | refine x_then ?_ | refine x_block ?_)
      exact ⟨_, rfl, by assumption, by assumption, by assumption, by assumption, by assumption, by assumption, by assumption, by assumption, vb rfl (by simp [g1, g2]), hS⟩
    clear hS h0 h1 h2 h3 h4 h10 h11 h12
    rintro ρ w4 ⟨h0, h1, h2, h3, h4, h10, h11, h12, h44, hS⟩
    repeat (with_reducible first | refine c_seq ?_ | refine c_block ?_ | refine c_skip ?_ | refine x_then ?_ | refine x_block ?_)
    cases hg : goes l c s a b i with
    | true =>
      rw [hg, if_pos rfl] at hA1
      refine c_yes h44 hg ?_
      repeat (with_reducible first | refine c_seq ?_ | refine c_block ?_ | refine c_skip ?_ | refine x_then ?_ | refine x_block ?_)
      refine c_draw [(0, .read), (1, .pure), (2, .pure), (3, .pure), (4, .pure), (5, .read), (6, .grow), (7, .grow), (8, .free)] (by kernel_rfl) (by kernel_rfl) hS ?_
      intro wz5 hS hBz5
      refine w_read rfl rfl (s_ldo (k := 0)  h11 vi_36 hS rfl rfl rfl (.inl rfl) ?_)
      refine w_pure rfl rfl (s_move  h0 ?_)
      refine w_pure rfl rfl (s_move  h12 ?_)
      refine w_pure rfl rfl (s_ixr (i := i)  rfl rfl (hl.below hS.below) (by omega) (by first | omega | (simp; done) | (simp; omega)) si_23 ?_)
      refine w_pure rfl rfl (s_fldr  rfl (spot_el (hl.below hS.below) (fun _ => rfl) (by decide) (by first | omega | (simp; done) | (simp; omega))) fo_66_2 ?_)
      refine w_read rfl rfl (s_ldfe (i := i) (off := 2) zOb  rfl vi_36 (hl.below hS.below) (fun _ => rfl) (by decide) (by first | omega | (simp; done) | (simp; omega)) rfl rfl (.inl rfl) ?_)
      rw [hld]
      refine w_grow rfl rfl (s_call Tryz.call35 rfl (rFix_ok o.amt _ (by omega)) ?_)
      rintro r w5 ⟨rfl, hB5⟩
      refine ⟨hB5, ?_⟩
      rw [show fx o.amt = ofQ (oQ l i) by unfold fx; rw [hoQ]]
      replace hS := hS.grow hB5
      have lq := L_oQ hB hlt
      refine w_grow rfl rfl (s_call Tryz.call74 rfl (rPlus_ok A (oQ l i) _ (by omega)) ?_)
      rintro r w6 ⟨rfl, hB6⟩
      refine ⟨hB6, ?_⟩
      rw [← hA1]
      replace hS := hS.grow hB6
      refine w_free rfl rfl (s_sta (k := 0)  h11 rfl vi_36 hS rfl rfl rfl (Nat.le_of_ble_eq_true rfl) rfl ?_)
      intro wz6 hS
      refine w_end ?_
      repeat (with_reducible first | refine c_seq ?_ | refine c_block ?_ | refine c_skip ?_ | refine x_then ?_ | refine x_block ?_)
      refine c_reg ?_
      refine l_pure rfl (s_move  h12 ?_)
      refine l_pure rfl (s_add  rfl rfl (IntWalk.i64_in _ (by omega)) ?_)
      refine l_pure rfl (s_asg  rfl ?_)
      refine l_nil ?_
      repeat (with_reducible first | refine c_seq ?_ | refine c_block ?_ | refine c_skip ?_ | refine x_then ?_ | refine x_block ?_)
      exact ⟨i + 1, _, rfl, ⟨hlt, by assumption, by assumption, by assumption, by assumption, by assumption, by assumption, by assumption, vi rfl (by omega), hS⟩, by omega⟩
    | false =>
      rw [hg, if_neg (by decide), Rat.add_zero] at hA1
      refine c_no h44 hg ?_
      repeat (with_reducible first | refine c_seq ?_ | refine c_block ?_ | refine c_skip ?_ | refine x_then ?_ | refine x_block ?_)
      refine c_reg ?_
      refine l_pure rfl (s_move  h12 ?_)
      refine l_pure rfl (s_add  rfl rfl (IntWalk.i64_in _ (by omega)) ?_)
      refine l_pure rfl (s_asg  rfl ?_)
      refine l_nil ?_
      repeat (with_reducible first | refine c_seq ?_ | refine c_block ?_ | refine c_skip ?_ | refine x_then ?_ | refine x_block ?_)
      exact ⟨i + 1, _, rfl, ⟨hlt, by assumption, by assumption, by assumption, by assumption, by assumption, by assumption, by assumption, vi rfl (by omega), by rw [hA1]; exact hS⟩, by omega⟩
  · refine c_no rfl (decide_eq_false (by omega)) ?_
    repeat (with_reducible first | refine c_seq ?_ | refine c_block ?_ | refine c_skip ?_ | refine x_then ?_ | refine x_block ?_)
    refine c_exit ?_
    repeat (with_reducible first | refine x_then_exit ?_ | refine x_block_exit ?_ | refine x_block_pass rfl ?_)
    repeat (with_reducible first | refine c_seq ?_ | refine c_block ?_ | refine c_skip ?_ | refine x_then ?_ | refine x_block ?_)
    obtain rfl : i = l.length := by omega
    repeat (with_reducible first | refine c_seq ?_ | refine c_block ?_ | refine c_skip ?_ | refine x_then ?_ | refine x_block ?_)
    refine c_reg ?_
    refine l_read rfl (s_ldo (k := 0)  h11 vi_36 hS rfl rfl rfl (.inl rfl) ?_)
    refine l_heavy rfl (s_sta (k := 1)  h10 rfl vi_36 hS rfl rfl rfl (Nat.le_of_ble_eq_true rfl) rfl ?_)
    intro wz7 hS
    refine l_nil ?_
    repeat (with_reducible first | refine c_seq ?_ | refine c_block ?_ | refine c_skip ?_ | refine x_then ?_ | refine x_block ?_)
    refine c_ret ?_
    repeat (with_reducible first | refine x_then_ret ?_ | refine x_block_ret ?_)
    refine r_cell (k := 1) rfl h10 vi_36 hS rfl rfl ?_
    exact ⟨rfl, hS.below⟩
set_option maxHeartbeats 1000000 in
theorem rOAmount_ok (n c s a b : Int) (vl : Value) (l : List Ob) (K : Nat) (w : World) (hl : Sl encOb 8 w vl l) (hB : ObB K l) (hK : 100 * K + 100 ≤ MX) (h20 : l.length ≤ 20) :
    Ret Tryz.prog 14 #[.int .i64 n, vl, .int .i64 c, .int .i64 s, .int .i64 a, .int .i64 b] w fun r w' => r = .tuple #[aggR (amtR2 n l c s a b), .int .i64 (amtE n l c s a b)] ∧ Below w.heap.size w w' := by
  have hBX : ObB MX l := fun o ho => Nat.le_trans (hB o ho) (by omega)
  have hS := St.init w
  refine enter Tryz.func14 rfl Tryz.ntmps14 rfl ?_
  repeat (with_reducible first | refine c_seq ?_ | refine c_block ?_ | refine c_skip ?_ | refine x_then ?_ | refine x_block ?_)
  refine c_reg ?_
  refine l_heavy rfl (s_alloc  vi_36 hS ?_)
  intro b12 wz1 hS hBz1
  refine l_pure rfl (s_asg  rfl ?_)
  refine l_nil ?_
  repeat (with_reducible first | refine c_seq ?_ | refine c_block ?_ | refine c_skip ?_ | refine x_then ?_ | refine x_block ?_)
  refine c_reg ?_
  refine l_pure rfl (s_move  rfl ?_)
  refine l_pure rfl (s_move  rfl ?_)
  refine l_pure rfl (s_move  rfl ?_)
  refine l_pure rfl (s_move  rfl ?_)
  refine l_heavy rfl (s_call Tryz.call34 rfl (rdays_ok n c s vl l _ (hl.below hS.below) hBX) ?_)
  rintro _ wc2 ⟨rfl, hBc2⟩
  replace hS := hS.grow hBc2
  refine l_pure rfl (s_asg  rfl ?_)
  refine l_nil ?_
  repeat (with_reducible first | refine c_seq ?_ | refine c_block ?_ | refine c_skip ?_ | refine x_then ?_ | refine x_block ?_)
  replace hS : St w _ [(b12, 36, encR zRR)] := hS
  refine c_cut1 (fun ρ w' => ρ 1 = vl ∧ ρ 2 = .int .i64 c ∧ ρ 3 = .int .i64 s ∧ ρ 4 = .int .i64 a ∧ ρ 5 = .int .i64 b ∧ ρ 12 = .pointer (some ⟨b12, 0, none⟩) ∧ ρ 14 = .int .i64 (chkE n l c s) ∧ ρ 28 = .bool (decide (chkE n l c s = 0 ∧ pairB n a b = false)) ∧ St w w' [(b12, 36, encR zRR)]) ?_ ?_
  · by_cases he : chkE n l c s = 0
    · repeat (with_reducible first | refine c_seq ?_ | refine c_block ?_ | refine c_skip ?_ | refine x_then ?_ | refine x_block ?_)
      refine c_reg ?_
      refine l_pure rfl (s_move  rfl ?_)
      refine l_pure rfl (s_eql  rfl rfl ?_)
      refine l_pure rfl (s_move  rfl ?_)
      refine l_pure (gd_yes 22 (by kernel_rfl) rfl (decide_eq_true he)) (s_move  rfl ?_)
      refine l_pure (gd_yes 22 (by kernel_rfl) rfl (decide_eq_true he)) (s_move  rfl ?_)
      refine l_pure (gd_yes 22 (by kernel_rfl) rfl (decide_eq_true he)) (s_move  rfl ?_)
      refine l_heavy (gd_yes 22 (by kernel_rfl) rfl (decide_eq_true he)) (s_call Tryz.call44 rfl (rpair_ok n a b _) ?_)
      rintro _ wq3 ⟨rfl, hq3⟩
      replace hq3 := hq3.symm
      subst hq3
      refine l_pure (gd_yes 22 (by kernel_rfl) rfl (decide_eq_true he)) (s_not  rfl ?_)
      refine l_pure rfl (s_pick (vb rfl (decide_eq_true he)) rfl ?_)
      refine l_nil ?_
      repeat (with_reducible first | refine c_seq ?_ | refine c_block ?_ | refine c_skip ?_ | refine x_then ?_ | refine x_block ?_)
      exact ⟨_, rfl, rfl, rfl, rfl, rfl, rfl, rfl, rfl, vb rfl (by cases pairB n a b <;> simp [he]), hS⟩
    · repeat (with_reducible first | refine c_seq ?_ | refine c_block ?_ | refine c_skip ?_ | refine x_then ?_ | refine x_block ?_)
      refine c_reg ?_
      refine l_pure rfl (s_move  rfl ?_)
      refine l_pure rfl (s_eql  rfl rfl ?_)
      refine l_pure rfl (s_move  rfl ?_)
      refine l_no (gno_yes 22 (by kernel_rfl) rfl (decide_eq_false he)) ?_
      refine l_no (gno_yes 22 (by kernel_rfl) rfl (decide_eq_false he)) ?_
      refine l_no (gno_yes 22 (by kernel_rfl) rfl (decide_eq_false he)) ?_
      refine l_no (gno_yes 22 (by kernel_rfl) rfl (decide_eq_false he)) ?_
      refine l_no (gno_yes 22 (by kernel_rfl) rfl (decide_eq_false he)) ?_
      refine l_pure rfl (s_pick (vb rfl (decide_eq_false he)) rfl ?_)
      refine l_nil ?_
      repeat (with_reducible first | refine c_seq ?_ | refine c_block ?_ | refine c_skip ?_ | refine x_then ?_ | refine x_block ?_)
      exact ⟨_, rfl, rfl, rfl, rfl, rfl, rfl, rfl, rfl, vb rfl (by simp [he]), hS⟩
  clear hS
  rintro ρ w2 ⟨h1, h2, h3, h4, h5, h12, h14, h28, hS⟩
  repeat (with_reducible first | refine c_seq ?_ | refine c_block ?_ | refine c_skip ?_ | refine x_then ?_ | refine x_block ?_)
  refine c_cut1 (fun ρ w' => ρ 1 = vl ∧ ρ 2 = .int .i64 c ∧ ρ 3 = .int .i64 s ∧ ρ 4 = .int .i64 a ∧ ρ 5 = .int .i64 b ∧ ρ 12 = .pointer (some ⟨b12, 0, none⟩) ∧ ρ 14 = .int .i64 (amtE n l c s a b) ∧ St w w' [(b12, 36, encR zRR)]) ?_ ?_
  · by_cases hb : chkE n l c s = 0 ∧ pairB n a b = false
    · refine c_yes h28 (decide_eq_true hb) ?_
      repeat (with_reducible first | refine c_seq ?_ | refine c_block ?_ | refine c_skip ?_ | refine x_then ?_ | refine x_block ?_)
      refine c_reg ?_
      refine l_pure rfl (s_asg  rfl ?_)
      refine l_nil ?_
      repeat (with_reducible first | refine c_seq ?_ | refine c_block ?_ | refine c_skip ?_ | refine x_then ?_ | refine x_block ?_)
      exact ⟨_, rfl, h1, h2, h3, h4, h5, h12, vi rfl (by unfold amtE; rw [if_neg (fun g => g hb.1), if_pos hb.2]), hS⟩
    · refine c_no h28 (decide_eq_false hb) ?_
      repeat (with_reducible first | refine c_seq ?_ | refine c_block ?_ | refine c_skip ?_ | refine x_then ?_ | refine x_block ?_)
      refine ⟨_, rfl, h1, h2, h3, h4, h5, h12, vi h14 ?_, hS⟩
      unfold amtE
      by_cases he : chkE n l c s = 0
      · rw [if_neg (fun g => g he), if_neg (fun g => hb ⟨he, g⟩), he]
      · rw [if_pos he]
  clear hS h1 h2 h3 h4 h5 h12 h14 h28
  rintro ρ w3 ⟨h1, h2, h3, h4, h5, h12, h14, hS⟩
  repeat (with_reducible first | refine c_seq ?_ | refine c_block ?_ | refine c_skip ?_ | refine x_then ?_ | refine x_block ?_)
  refine c_reg ?_
  refine l_pure rfl (s_move  h14 ?_)
  refine l_pure rfl (s_neq  rfl rfl ?_)
  refine l_nil ?_
  repeat (with_reducible first | refine c_seq ?_ | refine c_block ?_ | refine c_skip ?_ | refine x_then ?_ | refine x_block ?_)
  by_cases he : amtE n l c s a b = 0
  case neg =>
    have e2 : amtR2 n l c s a b = zRR := if_neg he
    refine c_yes rfl (decide_eq_true he) ?_
    repeat (with_reducible first | refine c_seq ?_ | refine c_block ?_ | refine c_skip ?_ | refine x_then ?_ | refine x_block ?_)
    refine c_reg ?_
    refine l_pure rfl (s_build  rfl bz_36 ?_)
    refine l_pure rfl (s_move  h14 ?_)
    refine l_heavy rfl (s_sta (k := 0)  h12 rfl vi_36 hS rfl rfl rfl (Nat.le_of_ble_eq_true rfl) rfl ?_)
    intro wz4 hS
    refine l_pure rfl (s_asg  rfl ?_)
    refine l_nil ?_
    repeat (with_reducible first | refine c_seq ?_ | refine c_block ?_ | refine c_skip ?_ | refine x_then ?_ | refine x_block ?_)
    refine c_ret ?_
    repeat (with_reducible first | refine x_then_ret ?_ | refine x_block_ret ?_)
    refine r_cell_tmp (k := 0) rfl h12 rfl vi_36 hS rfl rfl ?_
    exact ⟨by rw [e2]; rfl, hS.below⟩
  have e2 : amtR2 n l c s a b = ofQ (mQ l c s a b) := if_pos he
  refine c_no rfl (decide_eq_false (fun g => g he)) ?_
  repeat (with_reducible first | refine c_seq ?_ | refine c_block ?_ | refine c_skip ?_ | refine x_then ?_ | refine x_block ?_)
  refine c_reg ?_
  refine l_pure rfl (s_move  h1 ?_)
  refine l_pure rfl (s_move  h2 ?_)
  refine l_pure rfl (s_move  h3 ?_)
  refine l_pure rfl (s_move  h4 ?_)
  refine l_pure rfl (s_move  h5 ?_)
  refine l_heavy rfl (s_call Tryz.call37 rfl (rowes_ok vl l c s a b K _ (hl.below hS.below) hB h20 hK) ?_)
  rintro r w4 ⟨rfl, hB4⟩
  replace hS := hS.grow hB4
  refine l_pure rfl (s_move  h1 ?_)
  refine l_pure rfl (s_move  h2 ?_)
  refine l_pure rfl (s_move  h3 ?_)
  refine l_pure rfl (s_move  h5 ?_)
  refine l_pure rfl (s_move  h4 ?_)
  refine l_heavy rfl (s_call Tryz.call37 rfl (rowes_ok vl l c s b a K _ (hl.below hS.below) hB h20 hK) ?_)
  rintro r w5 ⟨rfl, hB5⟩
  replace hS := hS.grow hB5
  have l3 := L_tot hB h20 c s a b
  have l4 := L_tot hB h20 c s b a
  refine l_heavy rfl (s_call Tryz.call36 rfl (rLesser_ok (totS (oQ l) (ordL l c s a b)) (totS (oQ l) (ordL l c s b a)) _ (by omega)) ?_)
  rintro r w6 ⟨rfl, hB6⟩
  replace hS := hS.grow hB6
  refine l_heavy rfl (s_sta (k := 0)  h12 rfl vi_36 hS rfl rfl rfl (Nat.le_of_ble_eq_true rfl) rfl ?_)
  intro wz5 hS
  refine l_pure rfl (s_asg  rfl ?_)
  refine l_nil ?_
  repeat (with_reducible first | refine c_seq ?_ | refine c_block ?_ | refine c_skip ?_ | refine x_then ?_ | refine x_block ?_)
  refine c_ret ?_
  repeat (with_reducible first | refine x_then_ret ?_ | refine x_block_ret ?_)
  refine r_cell_tmp (k := 0) rfl h12 rfl vi_36 hS rfl rfl ?_
  exact ⟨by rw [e2, he]; rfl, hS.below⟩
end Go.Proofs.YtdafaibhiobpaaaGreatDoor
namespace Go.Proofs.YtdafaibhiobpaaaGreatDoor
open Go Go.RowKit Go.Sx
def bestI (l : List Ob) (p : Nat → Bool) : Nat → Int
  | 0 => -1
  | k + 1 => if p k = true ∧ (bestI l p k < 0 ∨ (gO l k).inc < (gO l (bestI l p k).toNat).inc) then (k : Int) else bestI l p k
theorem bestI_spec (l : List Ob) (p : Nat → Bool) (k : Nat) : (bestI l p k = -1 ∧ ∀ i, i < k → p i = false) ∨ ∃ j : Nat, bestI l p k = (j : Int) ∧ j < k ∧ p j = true ∧ ∀ i, i < k → p i = true → i = j ∨ ahead l j i := by
  induction k with
  | zero => exact .inl ⟨rfl, fun i hi => by omega⟩
  | succ k ih =>
    rw [bestI]
    rcases ih with ⟨e, h⟩ | ⟨j, e, hj, hpj, h⟩
    · rw [e]
      cases hp : p k with
      | true =>
        right
        rw [if_pos ⟨rfl, .inl (by decide)⟩]
        refine ⟨k, rfl, by omega, hp, fun i hi hpi => ?_⟩
        by_cases g : i = k
        · exact .inl g
        · rw [h i (by omega)] at hpi; cases hpi
      | false =>
        left
        rw [if_neg (by simp)]
        refine ⟨rfl, fun i hi => ?_⟩
        by_cases g : i = k
        · rw [g]; exact hp
        · exact h i (by omega)
    · right
      rw [e, Int.toNat_natCast]
      by_cases hc : p k = true ∧ ((j : Int) < 0 ∨ (gO l k).inc < (gO l j).inc)
      · rw [if_pos hc]
        have hlt : (gO l k).inc < (gO l j).inc := hc.2.resolve_left (by omega)
        refine ⟨k, rfl, by omega, hc.1, fun i hi hpi => ?_⟩
        by_cases g : i = k
        · exact .inl g
        · right
          rcases h i (by omega) hpi with g2 | g2
          · rw [g2]; exact .inl hlt
          · left
            unfold ahead at g2
            omega
      · rw [if_neg hc]
        refine ⟨j, rfl, by omega, hpj, fun i hi hpi => ?_⟩
        by_cases g : i = k
        · right
          subst g
          have hnl : ¬ (gO l i).inc < (gO l j).inc := fun g2 => hc ⟨hpi, .inr g2⟩
          unfold ahead
          omega
        · exact h i (by omega) hpi
/-- Of those in their order, the first that is not done. -/
theorem bestI_ord {l : List Ob} {c s a b : Int} {t : Nat} (ht : t < (ordL l c s a b).length) : bestI l (fun i => goes l c s a b i && !decide (i ∈ (ordL l c s a b).take t)) l.length = (((ordL l c s a b).getD t 0 : Nat) : Int) := by
  obtain ⟨J, hJ⟩ : ∃ J, J = ordL l c s a b := ⟨_, rfl⟩
  have hnd := ordL_nodup l c s a b
  have hso := ordL_sorted l c s a b
  have hmem : ∀ i, i ∈ ordL l c s a b ↔ i < l.length ∧ goes l c s a b i = true := fun i => ordL_mem
  rw [← hJ] at ht hnd hso hmem ⊢
  have hxJ : J.getD t 0 ∈ J := getD_mem J t 0 ht
  obtain ⟨x, hx⟩ : ∃ x, x = J.getD t 0 := ⟨_, rfl⟩
  have hxt : J[t] = x := by rw [hx, List.getD_eq_getElem?_getD, List.getElem?_eq_getElem ht]; rfl
  rw [← hx] at hxJ ⊢
  have hnot : x ∉ J.take t := by
    intro g
    obtain ⟨j, hj, e⟩ := List.mem_iff_getElem.1 g
    rw [List.length_take] at hj
    rw [List.getElem_take, ← hxt] at e
    have := (List.getElem_inj hnd).1 e
    omega
  have hpx : (goes l c s a b x && !decide (x ∈ J.take t)) = true := by
    rw [((hmem x).1 hxJ).2, decide_eq_false hnot]; rfl
  rcases bestI_spec l (fun i => goes l c s a b i && !decide (i ∈ J.take t)) l.length with ⟨_, h⟩ | ⟨j, e, hj, hpj, h⟩
  · have := h x ((hmem x).1 hxJ).1
    rw [hpx] at this; cases this
  · rw [e]
    rcases h x ((hmem x).1 hxJ).1 hpx with g | g
    · rw [g]
    · exfalso
      simp only [Bool.and_eq_true, Bool.not_eq_true', decide_eq_false_iff_not] at hpj
      have hjJ : j ∈ J := (hmem j).2 ⟨hj, hpj.1⟩
      obtain ⟨u, hu, hu2⟩ := List.mem_iff_getElem.1 hjJ
      have hut : t < u := by
        rcases Nat.lt_trichotomy u t with q | q | q
        · exfalso
          refine hpj.2 (List.mem_iff_getElem.2 ⟨u, by rw [List.length_take]; omega, ?_⟩)
          rw [List.getElem_take]; exact hu2
        · exfalso
          subst q
          rw [hxt] at hu2
          subst hu2
          unfold ahead at g
          omega
        · exact q
      have := List.pairwise_iff_getElem.1 hso t u ht hu hut
      rw [hxt, hu2] at this
      unfold ahead at this g
      omega
set_option maxHeartbeats 2000000 in
theorem roldest_ok (vl vd : Value) (l : List Ob) (dn : Nat → Bool) (c s a b : Int) (w : World) (hl : Sl encOb 8 w vl l) (hd : Sl enB 1 w vd (tab l.length dn)) :
    Ret Tryz.prog 38 #[vl, .int .i64 c, .int .i64 s, .int .i64 a, .int .i64 b, vd] w fun r w' => r = .int .i64 (bestI l (fun i => goes l c s a b i && !dn i) l.length) ∧ Below w.heap.size w w' := by
  have hmax := hl.maxLen
  have htl : (tab l.length dn).length = l.length := tab_len _ _
  obtain ⟨P, hP⟩ : ∃ P : Nat → Bool, P = fun i => goes l c s a b i && !dn i := ⟨_, rfl⟩
  rw [← hP]
  have hS := St.init w
  refine enter Tryz.func38 rfl Tryz.ntmps38 rfl ?_
  repeat (with_reducible first | refine c_seq ?_ | refine c_block ?_ | refine c_skip ?_ | refine x_then ?_ | refine x_block ?_)
  refine c_reg ?_
  refine l_pure rfl (s_asg  rfl ?_)
  refine l_nil ?_
  repeat (with_reducible first | refine c_seq ?_ | refine c_block ?_ | refine c_skip ?_ | refine x_then ?_ | refine x_block ?_)
  refine c_reg ?_
  refine l_pure rfl (s_asg  rfl ?_)
  refine l_nil ?_
  repeat (with_reducible first | refine c_seq ?_ | refine c_block ?_ | refine c_skip ?_ | refine x_then ?_ | refine x_block ?_)
  refine c_reg ?_
  refine l_pure rfl (s_asg  rfl ?_)
  refine l_nil ?_
  repeat (with_reducible first | refine c_seq ?_ | refine c_block ?_ | refine c_skip ?_ | refine x_then ?_ | refine x_block ?_)
  refine c_loop (σ := Nat) (fun i ρ w' => i ≤ l.length ∧ ρ 0 = vl ∧ ρ 1 = .int .i64 c ∧ ρ 2 = .int .i64 s ∧ ρ 3 = .int .i64 a ∧ ρ 4 = .int .i64 b ∧ ρ 5 = vd ∧ ρ 13 = .int .i64 (bestI l P i) ∧ ρ 14 = .int .i64 i ∧ St w w' []) (fun i => l.length - i) 0
    ⟨Nat.zero_le _, rfl, rfl, rfl, rfl, rfl, rfl, rfl, rfl, hS⟩ ?_
  clear hS
  rintro i ρ w2 ⟨hi, h0, h1, h2, h3, h4, h5, h13, h14, hS⟩
  have hsp := bestI_spec l P i
  repeat (with_reducible first | refine c_seq ?_ | refine c_block ?_ | refine c_skip ?_ | refine x_then ?_ | refine x_block ?_)
  refine c_reg ?_
  refine l_pure rfl (s_move  h14 ?_)
  refine l_pure rfl (s_move  h0 ?_)
  refine l_pure rfl (s_lenr  rfl (hl.below hS.below) ⟨_, Tryz.underlying23⟩ ?_)
  refine l_pure rfl (s_lss  rfl rfl ?_)
  refine l_nil ?_
  repeat (with_reducible first | refine c_seq ?_ | refine c_block ?_ | refine c_skip ?_ | refine x_then ?_ | refine x_block ?_)
  by_cases hlt : i < l.length
  · refine c_yes rfl (decide_eq_true (by omega)) ?_
    repeat (with_reducible first | refine c_seq ?_ | refine c_block ?_ | refine c_skip ?_ | refine x_then ?_ | refine x_block ?_)
    obtain ⟨o, ho⟩ : ∃ o, o = gO l i := ⟨_, rfl⟩
    have hld : l.getD i zOb = o := by rw [ho]; rfl
    have hdi : (tab l.length dn).getD i false = dn i := tab_get _ _ hlt
    have hPi : P i = ((decide (o.deb = a) && decide (o.cre = b) && eligB o c s) && !dn i) := by rw [hP, ho]; rfl
    have hnx : bestI l P (i + 1) = if P i = true ∧ (bestI l P i < 0 ∨ (gO l i).inc < (gO l (bestI l P i).toNat).inc) then (i : Int) else bestI l P i := rfl
    refine c_cut1 (fun ρ w' => ρ 0 = vl ∧ ρ 1 = .int .i64 c ∧ ρ 2 = .int .i64 s ∧ ρ 3 = .int .i64 a ∧ ρ 4 = .int .i64 b ∧ ρ 5 = vd ∧ ρ 13 = .int .i64 (bestI l P i) ∧ ρ 14 = .int .i64 i ∧ ρ 52 = .bool (!P i) ∧ St w w' []) ?_ ?_
    · rw [hPi]
      cases g0 : dn i with
      | true =>
        have g0' : (tab l.length dn).getD i false = true := by rw [hdi, g0]
        repeat (with_reducible first | refine c_seq ?_ | refine c_block ?_ | refine c_skip ?_ | refine x_then ?_ | refine x_block ?_)
        refine c_reg ?_
        refine l_pure rfl (s_move  h5 ?_)
        refine l_pure rfl (s_move  h14 ?_)
        refine l_pure rfl (s_ixr (i := i)  rfl rfl (hd.below hS.below) (by omega) (by first | omega | (simp; done) | (simp; omega)) si_76 ?_)
        refine l_read rfl (s_lde (i := i) false  rfl vi_4 (hd.below hS.below) (by first | omega | (simp; done) | (simp; omega)) rfl rfl (.inr rfl) ?_)
        refine l_pure rfl (s_move  rfl ?_)
        refine l_no (gno_yes 25 (by kernel_rfl) rfl g0') ?_
        refine l_no (gno_yes 25 (by kernel_rfl) rfl g0') ?_
        refine l_no (gno_yes 25 (by kernel_rfl) rfl g0') ?_
        refine l_no (gno_yes 25 (by kernel_rfl) rfl g0') ?_
        refine l_no (gno_yes 25 (by kernel_rfl) rfl g0') ?_
        refine l_no (gno_yes 25 (by kernel_rfl) rfl g0') ?_
        refine l_no (gno_yes 25 (by kernel_rfl) rfl g0') ?_
        refine l_pure rfl (s_pick (vb rfl g0') rfl ?_)
        refine l_pure rfl (s_move  rfl ?_)
        refine l_no (gno_yes 34 (by kernel_rfl) rfl rfl) ?_
        refine l_no (gno_yes 34 (by kernel_rfl) rfl rfl) ?_
        refine l_no (gno_yes 34 (by kernel_rfl) rfl rfl) ?_
        refine l_no (gno_yes 34 (by kernel_rfl) rfl rfl) ?_
        refine l_no (gno_yes 34 (by kernel_rfl) rfl rfl) ?_
        refine l_no (gno_yes 34 (by kernel_rfl) rfl rfl) ?_
        refine l_no (gno_yes 34 (by kernel_rfl) rfl rfl) ?_
        refine l_pure rfl (s_pick (vb rfl rfl) rfl ?_)
        refine l_pure rfl (s_move  rfl ?_)
        refine l_no (gno_yes 43 (by kernel_rfl) rfl rfl) ?_
        refine l_no (gno_yes 43 (by kernel_rfl) rfl rfl) ?_
        refine l_no (gno_yes 43 (by kernel_rfl) rfl rfl) ?_
        refine l_no (gno_yes 43 (by kernel_rfl) rfl rfl) ?_
        refine l_no (gno_yes 43 (by kernel_rfl) rfl rfl) ?_
        refine l_no (gno_yes 43 (by kernel_rfl) rfl rfl) ?_
        refine l_no (gno_yes 43 (by kernel_rfl) rfl rfl) ?_
        refine l_no (gno_yes 43 (by kernel_rfl) rfl rfl) ?_
        refine l_pure rfl (s_pick (vb rfl rfl) rfl ?_)
        refine l_nil ?_
        repeat (with_reducible first | refine c_seq ?_ | refine c_block ?_ | refine c_skip ?_ | refine x_then ?_ | refine x_block ?_)
        exact ⟨_, rfl, by assumption, by assumption, by assumption, by assumption, by assumption, by assumption, by assumption, by assumption, vb rfl (by simp), hS⟩
      | false =>
      have g0' : (tab l.length dn).getD i false = false := by rw [hdi, g0]
      by_cases g1 : o.deb = a
      case neg =>
        repeat (with_reducible first | refine c_seq ?_ | refine c_block ?_ | refine c_skip ?_ | refine x_then ?_ | refine x_block ?_)
        refine c_reg ?_
        refine l_pure rfl (s_move  h5 ?_)
        refine l_pure rfl (s_move  h14 ?_)
        refine l_pure rfl (s_ixr (i := i)  rfl rfl (hd.below hS.below) (by omega) (by first | omega | (simp; done) | (simp; omega)) si_76 ?_)
        refine l_read rfl (s_lde (i := i) false  rfl vi_4 (hd.below hS.below) (by first | omega | (simp; done) | (simp; omega)) rfl rfl (.inr rfl) ?_)
        refine l_pure rfl (s_move  rfl ?_)
        refine l_pure (gd_yes 25 (by kernel_rfl) rfl g0') (s_move  h0 ?_)
        refine l_pure (gd_yes 25 (by kernel_rfl) rfl g0') (s_move  h14 ?_)
        refine l_pure (gd_yes 25 (by kernel_rfl) rfl g0') (s_ixr (i := i)  rfl rfl (hl.below hS.below) (by omega) (by first | omega | (simp; done) | (simp; omega)) si_23 ?_)
        refine l_pure (gd_yes 25 (by kernel_rfl) rfl g0') (s_fldr  rfl (spot_el (hl.below hS.below) (fun _ => rfl) (by decide) (by first | omega | (simp; done) | (simp; omega))) fo_66_0 ?_)
        refine l_read (gd_yes 25 (by kernel_rfl) rfl g0') (s_ldfe (i := i) (off := 0) zOb  rfl vi_3 (hl.below hS.below) (fun _ => rfl) (by decide) (by first | omega | (simp; done) | (simp; omega)) rfl rfl (.inr rfl) ?_)
        refine l_pure (gd_yes 25 (by kernel_rfl) rfl g0') (s_move  h3 ?_)
        refine l_pure (gd_yes 25 (by kernel_rfl) rfl g0') (s_neq  rfl rfl ?_)
        refine l_pure rfl (s_pick (vb rfl g0') rfl ?_)
        refine l_pure rfl (s_move  rfl ?_)
        refine l_no (gno_yes 34 (by kernel_rfl) rfl (decide_eq_true (by rw [hld]; exact g1))) ?_
        refine l_no (gno_yes 34 (by kernel_rfl) rfl (decide_eq_true (by rw [hld]; exact g1))) ?_
        refine l_no (gno_yes 34 (by kernel_rfl) rfl (decide_eq_true (by rw [hld]; exact g1))) ?_
        refine l_no (gno_yes 34 (by kernel_rfl) rfl (decide_eq_true (by rw [hld]; exact g1))) ?_
        refine l_no (gno_yes 34 (by kernel_rfl) rfl (decide_eq_true (by rw [hld]; exact g1))) ?_
        refine l_no (gno_yes 34 (by kernel_rfl) rfl (decide_eq_true (by rw [hld]; exact g1))) ?_
        refine l_no (gno_yes 34 (by kernel_rfl) rfl (decide_eq_true (by rw [hld]; exact g1))) ?_
        refine l_pure rfl (s_pick (vb rfl (decide_eq_true (by rw [hld]; exact g1))) rfl ?_)
        refine l_pure rfl (s_move  rfl ?_)
        refine l_no (gno_yes 43 (by kernel_rfl) rfl rfl) ?_
        refine l_no (gno_yes 43 (by kernel_rfl) rfl rfl) ?_
        refine l_no (gno_yes 43 (by kernel_rfl) rfl rfl) ?_
        refine l_no (gno_yes 43 (by kernel_rfl) rfl rfl) ?_
        refine l_no (gno_yes 43 (by kernel_rfl) rfl rfl) ?_
        refine l_no (gno_yes 43 (by kernel_rfl) rfl rfl) ?_
        refine l_no (gno_yes 43 (by kernel_rfl) rfl rfl) ?_
        refine l_no (gno_yes 43 (by kernel_rfl) rfl rfl) ?_
        refine l_pure rfl (s_pick (vb rfl rfl) rfl ?_)
        refine l_nil ?_
        repeat (with_reducible first | refine c_seq ?_ | refine c_block ?_ | refine c_skip ?_ | refine x_then ?_ | refine x_block ?_)
        exact ⟨_, rfl, by assumption, by assumption, by assumption, by assumption, by assumption, by assumption, by assumption, by assumption, vb rfl (by simp [g1]), hS⟩
      by_cases g2 : o.cre = b
      case neg =>
        repeat (with_reducible first | refine c_seq ?_ | refine c_block ?_ | refine c_skip ?_ | refine x_then ?_ | refine x_block ?_)
        refine c_reg ?_
        refine l_pure rfl (s_move  h5 ?_)
        refine l_pure rfl (s_move  h14 ?_)
        refine l_pure rfl (s_ixr (i := i)  rfl rfl (hd.below hS.below) (by omega) (by first | omega | (simp; done) | (simp; omega)) si_76 ?_)
        refine l_read rfl (s_lde (i := i) false  rfl vi_4 (hd.below hS.below) (by first | omega | (simp; done) | (simp; omega)) rfl rfl (.inr rfl) ?_)
        refine l_pure rfl (s_move  rfl ?_)
        refine l_pure (gd_yes 25 (by kernel_rfl) rfl g0') (s_move  h0 ?_)
        refine l_pure (gd_yes 25 (by kernel_rfl) rfl g0') (s_move  h14 ?_)
        refine l_pure (gd_yes 25 (by kernel_rfl) rfl g0') (s_ixr (i := i)  rfl rfl (hl.below hS.below) (by omega) (by first | omega | (simp; done) | (simp; omega)) si_23 ?_)
        refine l_pure (gd_yes 25 (by kernel_rfl) rfl g0') (s_fldr  rfl (spot_el (hl.below hS.below) (fun _ => rfl) (by decide) (by first | omega | (simp; done) | (simp; omega))) fo_66_0 ?_)
        refine l_read (gd_yes 25 (by kernel_rfl) rfl g0') (s_ldfe (i := i) (off := 0) zOb  rfl vi_3 (hl.below hS.below) (fun _ => rfl) (by decide) (by first | omega | (simp; done) | (simp; omega)) rfl rfl (.inr rfl) ?_)
        refine l_pure (gd_yes 25 (by kernel_rfl) rfl g0') (s_move  h3 ?_)
        refine l_pure (gd_yes 25 (by kernel_rfl) rfl g0') (s_neq  rfl rfl ?_)
        refine l_pure rfl (s_pick (vb rfl g0') rfl ?_)
        refine l_pure rfl (s_move  rfl ?_)
        refine l_pure (gd_yes 34 (by kernel_rfl) rfl (decide_eq_false (by rw [hld]; exact fun q => q g1))) (s_move  h0 ?_)
        refine l_pure (gd_yes 34 (by kernel_rfl) rfl (decide_eq_false (by rw [hld]; exact fun q => q g1))) (s_move  h14 ?_)
        refine l_pure (gd_yes 34 (by kernel_rfl) rfl (decide_eq_false (by rw [hld]; exact fun q => q g1))) (s_ixr (i := i)  rfl rfl (hl.below hS.below) (by omega) (by first | omega | (simp; done) | (simp; omega)) si_23 ?_)
        refine l_pure (gd_yes 34 (by kernel_rfl) rfl (decide_eq_false (by rw [hld]; exact fun q => q g1))) (s_fldr  rfl (spot_el (hl.below hS.below) (fun _ => rfl) (by decide) (by first | omega | (simp; done) | (simp; omega))) fo_66_1 ?_)
        refine l_read (gd_yes 34 (by kernel_rfl) rfl (decide_eq_false (by rw [hld]; exact fun q => q g1))) (s_ldfe (i := i) (off := 1) zOb  rfl vi_3 (hl.below hS.below) (fun _ => rfl) (by decide) (by first | omega | (simp; done) | (simp; omega)) rfl rfl (.inr rfl) ?_)
        refine l_pure (gd_yes 34 (by kernel_rfl) rfl (decide_eq_false (by rw [hld]; exact fun q => q g1))) (s_move  h4 ?_)
        refine l_pure (gd_yes 34 (by kernel_rfl) rfl (decide_eq_false (by rw [hld]; exact fun q => q g1))) (s_neq  rfl rfl ?_)
        refine l_pure rfl (s_pick (vb rfl (decide_eq_false (by rw [hld]; exact fun q => q g1))) rfl ?_)
        refine l_pure rfl (s_move  rfl ?_)
        refine l_no (gno_yes 43 (by kernel_rfl) rfl (decide_eq_true (by rw [hld]; exact g2))) ?_
        refine l_no (gno_yes 43 (by kernel_rfl) rfl (decide_eq_true (by rw [hld]; exact g2))) ?_
        refine l_no (gno_yes 43 (by kernel_rfl) rfl (decide_eq_true (by rw [hld]; exact g2))) ?_
        refine l_no (gno_yes 43 (by kernel_rfl) rfl (decide_eq_true (by rw [hld]; exact g2))) ?_
        refine l_no (gno_yes 43 (by kernel_rfl) rfl (decide_eq_true (by rw [hld]; exact g2))) ?_
        refine l_no (gno_yes 43 (by kernel_rfl) rfl (decide_eq_true (by rw [hld]; exact g2))) ?_
        refine l_no (gno_yes 43 (by kernel_rfl) rfl (decide_eq_true (by rw [hld]; exact g2))) ?_
        refine l_no (gno_yes 43 (by kernel_rfl) rfl (decide_eq_true (by rw [hld]; exact g2))) ?_
        refine l_pure rfl (s_pick (vb rfl (decide_eq_true (by rw [hld]; exact g2))) rfl ?_)
        refine l_nil ?_
        repeat (with_reducible first | refine c_seq ?_ | refine c_block ?_ | refine c_skip ?_ | refine x_then ?_ | refine x_block ?_)
        exact ⟨_, rfl, by assumption, by assumption, by assumption, by assumption, by assumption, by assumption, by assumption, by assumption, vb rfl (by simp [g2]), hS⟩
      repeat (with_reducible first | refine c_seq ?_ | refine c_block ?_ | refine c_skip ?_ | refine x_then ?_ | refine x_block ?_)
      refine c_reg ?_
      refine l_pure rfl (s_move  h5 ?_)
      refine l_pure rfl (s_move  h14 ?_)
      refine l_pure rfl (s_ixr (i := i)  rfl rfl (hd.below hS.below) (by omega) (by first | omega | (simp; done) | (simp; omega)) si_76 ?_)
      refine l_read rfl (s_lde (i := i) false  rfl vi_4 (hd.below hS.below) (by first | omega | (simp; done) | (simp; omega)) rfl rfl (.inr rfl) ?_)
      refine l_pure rfl (s_move  rfl ?_)
      refine l_pure (gd_yes 25 (by kernel_rfl) rfl g0') (s_move  h0 ?_)
      refine l_pure (gd_yes 25 (by kernel_rfl) rfl g0') (s_move  h14 ?_)
      refine l_pure (gd_yes 25 (by kernel_rfl) rfl g0') (s_ixr (i := i)  rfl rfl (hl.below hS.below) (by omega) (by first | omega | (simp; done) | (simp; omega)) si_23 ?_)
      refine l_pure (gd_yes 25 (by kernel_rfl) rfl g0') (s_fldr  rfl (spot_el (hl.below hS.below) (fun _ => rfl) (by decide) (by first | omega | (simp; done) | (simp; omega))) fo_66_0 ?_)
      refine l_read (gd_yes 25 (by kernel_rfl) rfl g0') (s_ldfe (i := i) (off := 0) zOb  rfl vi_3 (hl.below hS.below) (fun _ => rfl) (by decide) (by first | omega | (simp; done) | (simp; omega)) rfl rfl (.inr rfl) ?_)
      refine l_pure (gd_yes 25 (by kernel_rfl) rfl g0') (s_move  h3 ?_)
      refine l_pure (gd_yes 25 (by kernel_rfl) rfl g0') (s_neq  rfl rfl ?_)
      refine l_pure rfl (s_pick (vb rfl g0') rfl ?_)
      refine l_pure rfl (s_move  rfl ?_)
      refine l_pure (gd_yes 34 (by kernel_rfl) rfl (decide_eq_false (by rw [hld]; exact fun q => q g1))) (s_move  h0 ?_)
      refine l_pure (gd_yes 34 (by kernel_rfl) rfl (decide_eq_false (by rw [hld]; exact fun q => q g1))) (s_move  h14 ?_)
      refine l_pure (gd_yes 34 (by kernel_rfl) rfl (decide_eq_false (by rw [hld]; exact fun q => q g1))) (s_ixr (i := i)  rfl rfl (hl.below hS.below) (by omega) (by first | omega | (simp; done) | (simp; omega)) si_23 ?_)
      refine l_pure (gd_yes 34 (by kernel_rfl) rfl (decide_eq_false (by rw [hld]; exact fun q => q g1))) (s_fldr  rfl (spot_el (hl.below hS.below) (fun _ => rfl) (by decide) (by first | omega | (simp; done) | (simp; omega))) fo_66_1 ?_)
      refine l_read (gd_yes 34 (by kernel_rfl) rfl (decide_eq_false (by rw [hld]; exact fun q => q g1))) (s_ldfe (i := i) (off := 1) zOb  rfl vi_3 (hl.below hS.below) (fun _ => rfl) (by decide) (by first | omega | (simp; done) | (simp; omega)) rfl rfl (.inr rfl) ?_)
      refine l_pure (gd_yes 34 (by kernel_rfl) rfl (decide_eq_false (by rw [hld]; exact fun q => q g1))) (s_move  h4 ?_)
      refine l_pure (gd_yes 34 (by kernel_rfl) rfl (decide_eq_false (by rw [hld]; exact fun q => q g1))) (s_neq  rfl rfl ?_)
      refine l_pure rfl (s_pick (vb rfl (decide_eq_false (by rw [hld]; exact fun q => q g1))) rfl ?_)
      refine l_pure rfl (s_move  rfl ?_)
      refine l_pure (gd_yes 43 (by kernel_rfl) rfl (decide_eq_false (by rw [hld]; exact fun q => q g2))) (s_move  h0 ?_)
      refine l_pure (gd_yes 43 (by kernel_rfl) rfl (decide_eq_false (by rw [hld]; exact fun q => q g2))) (s_move  h14 ?_)
      refine l_pure (gd_yes 43 (by kernel_rfl) rfl (decide_eq_false (by rw [hld]; exact fun q => q g2))) (s_ixr (i := i)  rfl rfl (hl.below hS.below) (by omega) (by first | omega | (simp; done) | (simp; omega)) si_23 ?_)
      refine l_read (gd_yes 43 (by kernel_rfl) rfl (decide_eq_false (by rw [hld]; exact fun q => q g2))) (s_lde (v := aggOb o) (i := i) zOb  rfl vi_66 (hl.below hS.below) (by omega) rfl (by rw [hld]; rfl) (.inl rfl) ?_)
      refine l_pure (gd_yes 43 (by kernel_rfl) rfl (decide_eq_false (by rw [hld]; exact fun q => q g2))) (s_move  h1 ?_)
      refine l_pure (gd_yes 43 (by kernel_rfl) rfl (decide_eq_false (by rw [hld]; exact fun q => q g2))) (s_move  h2 ?_)
      refine l_heavy (gd_yes 43 (by kernel_rfl) rfl (decide_eq_false (by rw [hld]; exact fun q => q g2))) (s_call Tryz.call73 rfl (rEligible_ok o c s _) ?_)
      rintro _ wc1 ⟨rfl, hBc1⟩
      replace hS := hS.grow hBc1
      refine l_pure (gd_yes 43 (by kernel_rfl) rfl (decide_eq_false (by rw [hld]; exact fun q => q g2))) (s_not  rfl ?_)
      refine l_pure rfl (s_pick (vb rfl (decide_eq_false (by rw [hld]; exact fun q => q g2))) rfl ?_)
      refine l_nil ?_
      repeat (with_reducible first | refine c_seq ?_ | refine c_block ?_ | refine c_skip ?_ | refine x_then ?_ | refine x_block ?_)
      exact ⟨_, rfl, by assumption, by assumption, by assumption, by assumption, by assumption, by assumption, by assumption, by assumption, vb rfl (by simp [g1, g2]), hS⟩
    clear hS h0 h1 h2 h3 h4 h5 h13 h14
    rintro ρ w4 ⟨h0, h1, h2, h3, h4, h5, h13, h14, h52, hS⟩
    repeat (with_reducible first | refine c_seq ?_ | refine c_block ?_ | refine c_skip ?_ | refine x_then ?_ | refine x_block ?_)
    cases hp : P i with
    | false =>
      have hnp : (!P i) = true := by rw [hp]; rfl
      have hnx2 : bestI l P (i + 1) = bestI l P i := by rw [hnx, if_neg (by rw [hp]; simp)]
      refine c_yes h52 hnp ?_
      repeat (with_reducible first | refine c_seq ?_ | refine c_block ?_ | refine c_skip ?_ | refine x_then ?_ | refine x_block ?_)
      refine c_exit ?_
      repeat (with_reducible first | refine x_then_exit ?_ | refine x_block_exit ?_ | refine x_block_pass rfl ?_)
      repeat (with_reducible first | refine c_seq ?_ | refine c_block ?_ | refine c_skip ?_ | refine x_then ?_ | refine x_block ?_)
      refine c_reg ?_
      refine l_pure rfl (s_move  h14 ?_)
      refine l_pure rfl (s_add  rfl rfl (IntWalk.i64_in _ (by omega)) ?_)
      refine l_pure rfl (s_asg  rfl ?_)
      refine l_nil ?_
      repeat (with_reducible first | refine c_seq ?_ | refine c_block ?_ | refine c_skip ?_ | refine x_then ?_ | refine x_block ?_)
      exact ⟨i + 1, _, rfl, ⟨hlt, by assumption, by assumption, by assumption, by assumption, by assumption, by assumption, by rw [hnx2]; assumption, vi rfl (by omega), hS⟩, by omega⟩
    | true =>
      have hnp : (!P i) = false := by rw [hp]; rfl
      refine c_no h52 hnp ?_
      repeat (with_reducible first | refine c_seq ?_ | refine c_block ?_ | refine c_skip ?_ | refine x_then ?_ | refine x_block ?_)
      refine c_cut1 (fun ρ w' => ρ 0 = vl ∧ ρ 1 = .int .i64 c ∧ ρ 2 = .int .i64 s ∧ ρ 3 = .int .i64 a ∧ ρ 4 = .int .i64 b ∧ ρ 5 = vd ∧ ρ 13 = .int .i64 (bestI l P i) ∧ ρ 14 = .int .i64 i ∧ ρ 67 = .bool (decide (bestI l P i < 0 ∨ (gO l i).inc < (gO l (bestI l P i).toNat).inc)) ∧ St w w' []) ?_ ?_
      · by_cases g : bestI l P i < 0
        · repeat (with_reducible first | refine c_seq ?_ | refine c_block ?_ | refine c_skip ?_ | refine x_then ?_ | refine x_block ?_)
          refine c_draw [(0, .pure), (1, .pure), (2, .pure), (3, .pure), (4, .pure), (5, .pure), (6, .pure), (7, .read), (8, .pure), (9, .pure), (10, .pure), (11, .pure), (12, .read), (13, .pure), (14, .pure)] (by kernel_rfl) (by kernel_rfl) hS ?_
          intro wz2 hS hBz2
          refine w_pure rfl rfl (s_move  h13 ?_)
          refine w_pure rfl rfl (s_lss  rfl rfl ?_)
          refine w_pure rfl rfl (s_move  rfl ?_)
          refine w_no rfl (gno_yes 55 (by kernel_rfl) rfl (decide_eq_true g)) ?_
          refine w_no rfl (gno_yes 55 (by kernel_rfl) rfl (decide_eq_true g)) ?_
          refine w_no rfl (gno_yes 55 (by kernel_rfl) rfl (decide_eq_true g)) ?_
          refine w_no rfl (gno_yes 55 (by kernel_rfl) rfl (decide_eq_true g)) ?_
          refine w_no rfl (gno_yes 55 (by kernel_rfl) rfl (decide_eq_true g)) ?_
          refine w_no rfl (gno_yes 55 (by kernel_rfl) rfl (decide_eq_true g)) ?_
          refine w_no rfl (gno_yes 55 (by kernel_rfl) rfl (decide_eq_true g)) ?_
          refine w_no rfl (gno_yes 55 (by kernel_rfl) rfl (decide_eq_true g)) ?_
          refine w_no rfl (gno_yes 55 (by kernel_rfl) rfl (decide_eq_true g)) ?_
          refine w_no rfl (gno_yes 55 (by kernel_rfl) rfl (decide_eq_true g)) ?_
          refine w_no rfl (gno_yes 55 (by kernel_rfl) rfl (decide_eq_true g)) ?_
          refine w_pure rfl rfl (s_pick (vb rfl (decide_eq_true g)) rfl ?_)
          refine w_end ?_
          repeat (with_reducible first | refine c_seq ?_ | refine c_block ?_ | refine c_skip ?_ | refine x_then ?_ | refine x_block ?_)
          exact ⟨_, rfl, by assumption, by assumption, by assumption, by assumption, by assumption, by assumption, by assumption, by assumption, vb rfl (by simp [g]), hS⟩
        · obtain ⟨j, hj, hjl⟩ : ∃ j : Nat, bestI l P i = j ∧ j < l.length := by
            rcases hsp with ⟨q, _⟩ | ⟨j, q, hj, _⟩
            · omega
            · exact ⟨j, q, by omega⟩
          repeat (with_reducible first | refine c_seq ?_ | refine c_block ?_ | refine c_skip ?_ | refine x_then ?_ | refine x_block ?_)
          refine c_draw [(0, .pure), (1, .pure), (2, .pure), (3, .pure), (4, .pure), (5, .pure), (6, .pure), (7, .read), (8, .pure), (9, .pure), (10, .pure), (11, .pure), (12, .read), (13, .pure), (14, .pure)] (by kernel_rfl) (by kernel_rfl) hS ?_
          intro wz3 hS hBz3
          refine w_pure rfl rfl (s_move  h13 ?_)
          refine w_pure rfl rfl (s_lss  rfl rfl ?_)
          refine w_pure rfl rfl (s_move  rfl ?_)
          refine w_pure rfl (gd_yes 55 (by kernel_rfl) rfl (decide_eq_false g)) (s_move  h0 ?_)
          refine w_pure rfl (gd_yes 55 (by kernel_rfl) rfl (decide_eq_false g)) (s_move  h14 ?_)
          refine w_pure rfl (gd_yes 55 (by kernel_rfl) rfl (decide_eq_false g)) (s_ixr (i := i)  rfl rfl (hl.below hS.below) (by omega) (by first | omega | (simp; done) | (simp; omega)) si_23 ?_)
          refine w_pure rfl (gd_yes 55 (by kernel_rfl) rfl (decide_eq_false g)) (s_fldr  rfl (spot_el (hl.below hS.below) (fun _ => rfl) (by decide) (by first | omega | (simp; done) | (simp; omega))) fo_66_3 ?_)
          refine w_read rfl (gd_yes 55 (by kernel_rfl) rfl (decide_eq_false g)) (s_ldfe (i := i) (off := 5) zOb  rfl vi_3 (hl.below hS.below) (fun _ => rfl) (by decide) (by first | omega | (simp; done) | (simp; omega)) rfl rfl (.inr rfl) ?_)
          refine w_pure rfl (gd_yes 55 (by kernel_rfl) rfl (decide_eq_false g)) (s_move  h0 ?_)
          refine w_pure rfl (gd_yes 55 (by kernel_rfl) rfl (decide_eq_false g)) (s_move  h13 ?_)
          refine w_pure rfl (gd_yes 55 (by kernel_rfl) rfl (decide_eq_false g)) (s_ixr (i := j)  rfl rfl (hl.below hS.below) (by omega) (by first | omega | (simp; done) | (simp; omega)) si_23 ?_)
          refine w_pure rfl (gd_yes 55 (by kernel_rfl) rfl (decide_eq_false g)) (s_fldr  rfl (spot_el (hl.below hS.below) (fun _ => rfl) (by decide) (by first | omega | (simp; done) | (simp; omega))) fo_66_3 ?_)
          refine w_read rfl (gd_yes 55 (by kernel_rfl) rfl (decide_eq_false g)) (s_ldfe (i := j) (off := 5) zOb  rfl vi_3 (hl.below hS.below) (fun _ => rfl) (by decide) (by first | omega | (simp; done) | (simp; omega)) rfl rfl (.inr rfl) ?_)
          refine w_pure rfl (gd_yes 55 (by kernel_rfl) rfl (decide_eq_false g)) (s_lss  rfl rfl ?_)
          refine w_pure rfl rfl (s_pick (vb rfl (decide_eq_false g)) rfl ?_)
          refine w_end ?_
          repeat (with_reducible first | refine c_seq ?_ | refine c_block ?_ | refine c_skip ?_ | refine x_then ?_ | refine x_block ?_)
          exact ⟨_, rfl, by assumption, by assumption, by assumption, by assumption, by assumption, by assumption, by assumption, by assumption, vb rfl (by rw [hj]; simp; rfl), hS⟩
      clear hS h0 h1 h2 h3 h4 h5 h13 h14 h52
      rintro ρ w5 ⟨h0, h1, h2, h3, h4, h5, h13, h14, h67, hS⟩
      repeat (with_reducible first | refine c_seq ?_ | refine c_block ?_ | refine c_skip ?_ | refine x_then ?_ | refine x_block ?_)
      by_cases hb : bestI l P i < 0 ∨ (gO l i).inc < (gO l (bestI l P i).toNat).inc
      · have hnx2 : bestI l P (i + 1) = (i : Int) := by rw [hnx, if_pos ⟨hp, hb⟩]
        refine c_yes h67 (decide_eq_true hb) ?_
        repeat (with_reducible first | refine c_seq ?_ | refine c_block ?_ | refine c_skip ?_ | refine x_then ?_ | refine x_block ?_)
        refine c_reg ?_
        refine l_pure rfl (s_move  h14 ?_)
        refine l_pure rfl (s_asg  rfl ?_)
        refine l_nil ?_
        repeat (with_reducible first | refine c_seq ?_ | refine c_block ?_ | refine c_skip ?_ | refine x_then ?_ | refine x_block ?_)
        refine c_reg ?_
        refine l_pure rfl (s_move  h14 ?_)
        refine l_pure rfl (s_add  rfl rfl (IntWalk.i64_in _ (by omega)) ?_)
        refine l_pure rfl (s_asg  rfl ?_)
        refine l_nil ?_
        repeat (with_reducible first | refine c_seq ?_ | refine c_block ?_ | refine c_skip ?_ | refine x_then ?_ | refine x_block ?_)
        exact ⟨i + 1, _, rfl, ⟨hlt, by assumption, by assumption, by assumption, by assumption, by assumption, by assumption, by rw [hnx2]; rfl, vi rfl (by omega), hS⟩, by omega⟩
      · have hnx2 : bestI l P (i + 1) = bestI l P i := by rw [hnx, if_neg (fun q => hb q.2)]
        refine c_no h67 (decide_eq_false hb) ?_
        repeat (with_reducible first | refine c_seq ?_ | refine c_block ?_ | refine c_skip ?_ | refine x_then ?_ | refine x_block ?_)
        refine c_reg ?_
        refine l_pure rfl (s_move  h14 ?_)
        refine l_pure rfl (s_add  rfl rfl (IntWalk.i64_in _ (by omega)) ?_)
        refine l_pure rfl (s_asg  rfl ?_)
        refine l_nil ?_
        repeat (with_reducible first | refine c_seq ?_ | refine c_block ?_ | refine c_skip ?_ | refine x_then ?_ | refine x_block ?_)
        exact ⟨i + 1, _, rfl, ⟨hlt, by assumption, by assumption, by assumption, by assumption, by assumption, by assumption, by rw [hnx2]; assumption, vi rfl (by omega), hS⟩, by omega⟩
  · refine c_no rfl (decide_eq_false (by omega)) ?_
    repeat (with_reducible first | refine c_seq ?_ | refine c_block ?_ | refine c_skip ?_ | refine x_then ?_ | refine x_block ?_)
    refine c_exit ?_
    repeat (with_reducible first | refine x_then_exit ?_ | refine x_block_exit ?_ | refine x_block_pass rfl ?_)
    repeat (with_reducible first | refine c_seq ?_ | refine c_block ?_ | refine c_skip ?_ | refine x_then ?_ | refine x_block ?_)
    obtain rfl : i = l.length := by omega
    repeat (with_reducible first | refine c_seq ?_ | refine c_block ?_ | refine c_skip ?_ | refine x_then ?_ | refine x_block ?_)
    refine c_reg ?_
    refine l_pure rfl (s_move  h13 ?_)
    refine l_pure rfl (s_asg  rfl ?_)
    refine l_nil ?_
    repeat (with_reducible first | refine c_seq ?_ | refine c_block ?_ | refine c_skip ?_ | refine x_then ?_ | refine x_block ?_)
    refine c_ret ?_
    repeat (with_reducible first | refine x_then_ret ?_ | refine x_block_ret ?_)
    refine r_one rfl rfl ?_
    exact ⟨rfl, hS.below⟩
end Go.Proofs.YtdafaibhiobpaaaGreatDoor
namespace Go.Proofs.YtdafaibhiobpaaaGreatDoor
open Go Go.RowKit Go.Sx
def doneR (l : List Ob) (a b : Int) (i : Nat) : Bool := decide ((gO l i).deb < a ∨ (gO l i).deb = a ∧ (gO l i).cre < b)
def stR (l : List Ob) (c s a b : Int) (i : Nat) : Rat := if doneR l a b i = true then finQ l c s i else oQ l i
theorem stR_start (l : List Ob) (c s n : Int) (hn : obsE n l = 0) {i : Nat} (hi : i < l.length) : stR l c s 0 0 i = oQ l i := by
  have hp' := of_decide_eq_true (obErr_zero ((obsE_zero hn).2.2.2 _ (goO hi))).1
  unfold stR
  rw [if_neg]
  intro g
  have := of_decide_eq_true g
  omega
theorem stR_end (l : List Ob) (c s n : Int) (hn : obsE n l = 0) {i : Nat} (hi : i < l.length) : stR l c s n 0 i = finQ l c s i := by
  have hp' := of_decide_eq_true (obErr_zero ((obsE_zero hn).2.2.2 _ (goO hi))).1
  unfold stR
  rw [if_pos]
  exact decide_eq_true (by omega)
theorem stR_next (l : List Ob) (c s a n : Int) (hn : obsE n l = 0) {i : Nat} (hi : i < l.length) : stR l c s a n i = stR l c s (a + 1) 0 i := by
  have hp' := of_decide_eq_true (obErr_zero ((obsE_zero hn).2.2.2 _ (goO hi))).1
  have : doneR l a n i = doneR l (a + 1) 0 i := by
    unfold doneR
    rw [decide_eq_decide]
    omega
  unfold stR
  rw [this]
theorem stR_own {l : List Ob} {c s a b : Int} {i : Nat} (hi : i ∈ ordL l c s a b) : stR l c s a b i = oQ l i := by
  unfold stR
  rw [if_neg]
  intro g
  have g' := of_decide_eq_true g
  have := (ordL_mem.1 hi).2
  unfold goes at this
  simp only [Bool.and_eq_true, decide_eq_true_eq] at this
  omega
theorem stR_step {l : List Ob} {c s a b : Int} (i : Nat) : (redu ⟨stR l c s a b, mQ l c s a b⟩ (ordL l c s a b)).rest i = stR l c s a (b + 1) i := by
  by_cases h1 : i ∈ ordL l c s a b
  · have hg := (ordL_mem.1 h1).2
    unfold goes at hg
    simp only [Bool.and_eq_true, decide_eq_true_eq] at hg
    have h2 := (redu_congr (s := ⟨stR l c s a b, mQ l c s a b⟩) (t := ⟨oQ l, mQ l c s a b⟩) (idx := ordL l c s a b) (fun j hj => stR_own hj) rfl).1 i h1
    rw [h2, ← finQ_at h1]
    unfold stR
    rw [if_pos (show doneR l a (b + 1) i = true from decide_eq_true (by omega))]
  · rw [redu_off h1]
    show stR l c s a b i = _
    by_cases hil : i < l.length
    · by_cases hpr : (gO l i).deb = a ∧ (gO l i).cre = b
      · have hne : eligB (gO l i) c s = false := by
          cases he : eligB (gO l i) c s with
          | false => rfl
          | true => exact absurd (ordL_mem.2 ⟨hil, by unfold goes; simp [hpr.1, hpr.2, he]⟩) h1
        unfold stR
        rw [finQ_off hne]
        split <;> split <;> rfl
      · have : doneR l a b i = doneR l a (b + 1) i := by
          unfold doneR
          rw [decide_eq_decide]
          omega
        unfold stR
        rw [this]
    · have hne : i ∉ ordL l c s (gO l i).deb (gO l i).cre := fun g => hil (ordL_mem.1 g).1
      have hf : finQ l c s i = oQ l i := by unfold finQ; rw [redu_off hne]
      unfold stR
      rw [hf]
      split <;> split <;> rfl
theorem L_stR {K : Nat} {l : List Ob} (h : ObB K l) (h20 : l.length ≤ 20) (c s a b : Int) {i : Nat} (hi : i < l.length) : L (stR l c s a b i) ≤ 41 * K + 43 := by
  unfold stR
  split
  · exact L_finQ h h20 c s hi
  · have := L_oQ h hi
    omega
theorem amt_end {l : List Ob} (h : Nng l) (c s a b : Int) : (redu ⟨stR l c s a b, mQ l c s a b⟩ (ordL l c s a b)).amt = 0 := by
  rw [(redu_congr (s := ⟨stR l c s a b, mQ l c s a b⟩) (t := ⟨oQ l, mQ l c s a b⟩) (idx := ordL l c s a b) (fun j hj => stR_own hj) rfl).2]
  obtain ⟨f1, f2, f3, f4⟩ := redu_facts (ordL_nodup l c s a b) (s := ⟨oQ l, mQ l c s a b⟩) (fun j _ => h j) (mQ_nonneg h c s a b)
  have h1 := taken h c s a b
  rw [totS_fin] at h1
  have f3' : totS (oQ l) (ordL l c s a b) - totS (redu ⟨oQ l, mQ l c s a b⟩ (ordL l c s a b)).rest (ordL l c s a b) = mQ l c s a b - (redu ⟨oQ l, mQ l c s a b⟩ (ordL l c s a b)).amt := f3
  grind
/-- Where the amount is used up, the others stay. -/
theorem redu_stop {J : List Nat} {s : RS} {t : Nat} (hnd : J.Nodup) (h0 : ∀ i ∈ J, 0 ≤ s.rest i) (hz : (redu s (J.take t)).amt = 0) (i : Nat) : (redu s (J.take t)).rest i = (redu s J).rest i := by
  have e : redu s J = redu (redu s (J.take t)) (J.drop t) := by
    conv => lhs; rw [← List.take_append_drop t J]
    unfold redu; rw [List.foldl_append]
  rw [e]
  have hnd2 := hnd
  rw [← List.take_append_drop t J, List.nodup_append] at hnd2
  exact (redu_zero' _ _ hz (fun j hj => by
    rw [redu_off (fun g => hnd2.2.2 j g j hj rfl)]
    exact h0 j (List.mem_of_mem_drop hj)) i).symm
set_option maxHeartbeats 4000000 in
theorem rSetOff_ok (n c s : Int) (vl : Value) (l : List Ob) (K : Nat) (w : World) (hl : Sl encOb 8 w vl l) (hB : ObB K l) (hK : 1000 * K + 1000 ≤ MX) (h20 : l.length ≤ 20) :
    Ret Tryz.prog 9 #[.int .i64 n, vl, .int .i64 c, .int .i64 s] w fun r w' => (∃ v, r = .tuple #[v, .int .i64 (chkE n l c s)] ∧ Sl encR 3 w' v (appL n l c s)) ∧ Below w.heap.size w w' := by
  have hBX : ObB MX l := fun o ho => Nat.le_trans (hB o ho) (by omega)
  have hS := St.init w
  refine enter Tryz.func9 rfl Tryz.ntmps9 rfl ?_
  repeat (with_reducible first | refine c_seq ?_ | refine c_block ?_ | refine c_skip ?_ | refine x_then ?_ | refine x_block ?_)
  refine c_reg ?_
  refine l_pure rfl (s_asg  rfl ?_)
  refine l_pure rfl (s_asg  rfl ?_)
  refine l_nil ?_
  repeat (with_reducible first | refine c_seq ?_ | refine c_block ?_ | refine c_skip ?_ | refine x_then ?_ | refine x_block ?_)
  refine c_reg ?_
  refine l_pure rfl (s_move  rfl ?_)
  refine l_pure rfl (s_move  rfl ?_)
  refine l_pure rfl (s_move  rfl ?_)
  refine l_pure rfl (s_move  rfl ?_)
  refine l_heavy rfl (s_call Tryz.call34 rfl (rdays_ok n c s vl l _ (hl.below hS.below) hBX) ?_)
  rintro _ wc1 ⟨rfl, hBc1⟩
  replace hS := hS.grow hBc1
  refine l_pure rfl (s_asg  rfl ?_)
  refine l_nil ?_
  repeat (with_reducible first | refine c_seq ?_ | refine c_block ?_ | refine c_skip ?_ | refine x_then ?_ | refine x_block ?_)
  refine c_reg ?_
  refine l_pure rfl (s_move  rfl ?_)
  refine l_pure rfl (s_neq  rfl rfl ?_)
  refine l_nil ?_
  repeat (with_reducible first | refine c_seq ?_ | refine c_block ?_ | refine c_skip ?_ | refine x_then ?_ | refine x_block ?_)
  by_cases he : chkE n l c s = 0
  case neg =>
    refine c_yes rfl (decide_eq_true he) ?_
    repeat (with_reducible first | refine c_seq ?_ | refine c_block ?_ | refine c_skip ?_ | refine x_then ?_ | refine x_block ?_)
    refine c_reg ?_
    refine l_pure rfl (s_move  rfl ?_)
    refine l_pure rfl (s_asg  rfl ?_)
    refine l_pure rfl (s_asg  rfl ?_)
    refine l_nil ?_
    repeat (with_reducible first | refine c_seq ?_ | refine c_block ?_ | refine c_skip ?_ | refine x_then ?_ | refine x_block ?_)
    refine c_ret ?_
    repeat (with_reducible first | refine x_then_ret ?_ | refine x_block_ret ?_)
    refine r_two rfl rfl rfl ?_
    exact ⟨⟨_, rfl, by unfold appL; rw [if_neg he]; exact Sl.nil _ _ _⟩, hS.below⟩
  refine c_no rfl (decide_eq_false (fun g => g he)) ?_
  repeat (with_reducible first | refine c_seq ?_ | refine c_block ?_ | refine c_skip ?_ | refine x_then ?_ | refine x_block ?_)
  have eA : appL n l c s = tab l.length fun i => ofQ (finQ l c s i) := if_pos he
  rw [eA, he]
  obtain ⟨hob, hc1, hs1⟩ := chkE_zero he
  obtain ⟨hn0, hn32, _, _⟩ := obsE_zero hob
  obtain ⟨m, hm⟩ : ∃ m : Nat, n = m := ⟨n.toNat, by omega⟩
  subst hm
  have hN := nng_of hob
  repeat (with_reducible first | refine c_seq ?_ | refine c_block ?_ | refine c_skip ?_ | refine x_then ?_ | refine x_block ?_)
  refine c_reg ?_
  refine l_pure rfl (s_asg  rfl ?_)
  refine l_nil ?_
  repeat (with_reducible first | refine c_seq ?_ | refine c_block ?_ | refine c_skip ?_ | refine x_then ?_ | refine x_block ?_)
  refine c_forget (fun ρ' => ρ' 0 = .int .i64 m ∧ ρ' 1 = vl ∧ ρ' 2 = .int .i64 c ∧ ρ' 3 = .int .i64 s ∧ ρ' 11 = .slice none 0 0 ∧ True) ⟨rfl, rfl, rfl, rfl, rfl, trivial⟩ ?_
  rintro ρk2 ⟨hk2_0, hk2_1, hk2_2, hk2_3, hk2_11, -⟩
  repeat (with_reducible first | refine c_seq ?_ | refine c_block ?_ | refine c_skip ?_ | refine x_then ?_ | refine x_block ?_)
  refine c_reg ?_
  refine l_pure rfl (s_asg  rfl ?_)
  refine l_nil ?_
  repeat (with_reducible first | refine c_seq ?_ | refine c_skip ?_ | refine x_then ?_ | refine x_block ?_)
  refine c_cut1 (fun ρ w' => ρ 0 = .int .i64 m ∧ ρ 1 = vl ∧ ρ 2 = .int .i64 c ∧ ρ 3 = .int .i64 s ∧ ∃ sL LO, ρ 11 = sL ∧ Gl encR 36 3 sL (tab l.length fun j => ofQ (oQ l j)) LO ∧ St w w' ([] ++ LO)) ?_ ?_
  · repeat (with_reducible first | refine c_seq ?_ | refine c_block ?_ | refine c_skip ?_ | refine x_then ?_ | refine x_block ?_)
    refine c_loop (σ := Nat) (fun i ρ w' => i ≤ l.length ∧ ρ 0 = .int .i64 m ∧ ρ 1 = vl ∧ ρ 2 = .int .i64 c ∧ ρ 3 = .int .i64 s ∧ ρ 12 = .int .i64 i ∧ ∃ sL LO, ρ 11 = sL ∧ Gl encR 36 3 sL (tab i fun j => ofQ (oQ l j)) LO ∧ St w w' ([] ++ LO)) (fun i => l.length - i) 0
      ⟨Nat.zero_le _, by assumption, by assumption, by assumption, by assumption, rfl, ⟨_, [], by assumption, Gl.nil _ _ _, hS⟩⟩ ?_
    clear hS
    rintro i ρ w3 ⟨hi, h0, h1, h2, h3, h12, sL, LO, h11, hG, hS⟩
    have hti : (tab i fun j => ofQ (oQ l j)).length = i := tab_len _ _
    repeat (with_reducible first | refine c_seq ?_ | refine c_block ?_ | refine c_skip ?_ | refine x_then ?_ | refine x_block ?_)
    refine c_reg ?_
    refine l_pure rfl (s_move  h12 ?_)
    refine l_pure rfl (s_move  h1 ?_)
    refine l_pure rfl (s_lenr  rfl (hl.below hS.below) ⟨_, Tryz.underlying23⟩ ?_)
    refine l_pure rfl (s_lss  rfl rfl ?_)
    refine l_nil ?_
    repeat (with_reducible first | refine c_seq ?_ | refine c_block ?_ | refine c_skip ?_ | refine x_then ?_ | refine x_block ?_)
    by_cases hlt : i < l.length
    · refine c_yes rfl (decide_eq_true (by omega)) ?_
      repeat (with_reducible first | refine c_seq ?_ | refine c_block ?_ | refine c_skip ?_ | refine x_then ?_ | refine x_block ?_)
      have hoL : Lr (gO l i).amt ≤ K := hB _ (goO hlt)
      have hld : l.getD i zOb = gO l i := rfl
      repeat (with_reducible first | refine c_seq ?_ | refine c_block ?_ | refine c_skip ?_ | refine x_then ?_ | refine x_block ?_)
      refine c_reg ?_
      refine l_pure rfl (s_move  h11 ?_)
      refine l_pure rfl (s_move  h1 ?_)
      refine l_pure rfl (s_move  h12 ?_)
      refine l_pure rfl (s_ixr (i := i)  rfl rfl (hl.below hS.below) (by omega) (by first | omega | (simp; done) | (simp; omega)) si_23 ?_)
      refine l_pure rfl (s_fldr  rfl (spot_el (hl.below hS.below) (fun _ => rfl) (by decide) (by first | omega | (simp; done) | (simp; omega))) fo_66_2 ?_)
      refine l_read rfl (s_ldfe (i := i) (off := 2) zOb  rfl vi_36 (hl.below hS.below) (fun _ => rfl) (by decide) (by first | omega | (simp; done) | (simp; omega)) rfl rfl (.inl rfl) ?_)
      rw [hld]
      refine l_heavy rfl (s_call Tryz.call35 rfl (rFix_ok (gO l i).amt _ (by omega)) ?_)
      rintro r w4 ⟨rfl, hB4⟩
      rw [show fx (gO l i).amt = ofQ (oQ l i) from rfl]
      replace hS := hS.grow hB4
      refine l_heavy rfl (s_bsl (vs := [aggR (ofQ (oQ l i))])  rfl si_25 rfl (by decide) (by decide) (by decide) (by simp [Value.cells, aggR]) rfl hS ?_)
      intro bx wz3 hS hBz3
      refine l_heavy rfl (s_appl [ofQ (oQ l i)]  rfl rfl si_25 (by decide) hG hS rfl rfl encR_len (encR_one [ofQ (oQ l i)]) (by first | omega | (simp only [List.length_cons, List.length_nil]; omega)) (by first | omega | (simp only [List.length_cons, List.length_nil]; omega)) ?_)
      intro va4 La4 wa4 hG hS hga4
      refine l_pure rfl (s_asg  rfl ?_)
      refine l_nil ?_
      repeat (with_reducible first | refine c_seq ?_ | refine c_block ?_ | refine c_skip ?_ | refine x_then ?_ | refine x_block ?_)
      rw [← tab_succ] at hG
      repeat (with_reducible first | refine c_seq ?_ | refine c_block ?_ | refine c_skip ?_ | refine x_then ?_ | refine x_block ?_)
      refine c_reg ?_
      refine l_pure rfl (s_move  h12 ?_)
      refine l_pure rfl (s_add  rfl rfl (IntWalk.i64_in _ (by omega)) ?_)
      refine l_pure rfl (s_asg  rfl ?_)
      refine l_nil ?_
      repeat (with_reducible first | refine c_seq ?_ | refine c_block ?_ | refine c_skip ?_ | refine x_then ?_ | refine x_block ?_)
      exact ⟨i + 1, _, rfl, ⟨hlt, by assumption, by assumption, by assumption, by assumption, vi rfl (by omega), ⟨_, _, rfl, hG, hS⟩⟩, by omega⟩
    · refine c_no rfl (decide_eq_false (by omega)) ?_
      repeat (with_reducible first | refine c_seq ?_ | refine c_block ?_ | refine c_skip ?_ | refine x_then ?_ | refine x_block ?_)
      refine c_exit ?_
      repeat (with_reducible first | refine x_then_exit ?_ | refine x_block_exit ?_ | refine x_block_pass rfl ?_)
      repeat (with_reducible first | refine c_seq ?_ | refine c_block ?_ | refine c_skip ?_ | refine x_then ?_ | refine x_block ?_)
      obtain rfl : i = l.length := by omega
      exact ⟨_, rfl, h0, h1, h2, h3, ⟨_, _, h11, hG, hS⟩⟩
  clear hS
  rintro ρ w3 ⟨h0, h1, h2, h3, sL, LO, h11, hG, hS⟩
  rw [tab_congr (g := fun i => ofQ (stR l c s ((0 : Nat) : Int) ((0 : Nat) : Int) i)) (fun i hi => by rw [show stR l c s ((0 : Nat) : Int) ((0 : Nat) : Int) i = oQ l i from stR_start l c s _ hob hi])] at hG
  repeat (with_reducible first | refine c_seq ?_ | refine c_block ?_ | refine c_skip ?_ | refine x_then ?_ | refine x_block ?_)
  refine c_reg ?_
  refine l_pure rfl (s_asg  rfl ?_)
  refine l_nil ?_
  repeat (with_reducible first | refine c_seq ?_ | refine c_skip ?_ | refine x_then ?_ | refine x_block ?_)
  refine c_cut1 (fun ρ w' => ρ 11 = sL ∧ ∃ LO, Gl encR 36 3 sL (tab l.length fun i => ofQ (stR l c s m ((0 : Nat) : Int) i)) LO ∧ St w w' ([] ++ LO)) ?_ ?_
  · repeat (with_reducible first | refine c_seq ?_ | refine c_block ?_ | refine c_skip ?_ | refine x_then ?_ | refine x_block ?_)
    refine c_loop (σ := Nat) (fun a ρ w' => a ≤ m ∧ ρ 0 = .int .i64 m ∧ ρ 1 = vl ∧ ρ 2 = .int .i64 c ∧ ρ 3 = .int .i64 s ∧ ρ 11 = sL ∧ ρ 13 = .int .i64 a ∧ ∃ LO, Gl encR 36 3 sL (tab l.length fun i => ofQ (stR l c s a ((0 : Nat) : Int) i)) LO ∧ St w w' ([] ++ LO)) (fun a => m - a) 0
      ⟨Nat.zero_le _, by assumption, by assumption, by assumption, by assumption, by assumption, rfl, LO, hG, hS⟩ ?_
    clear hS hG h0 h1 h2 h3 h11
    rintro a ρ w4 ⟨ha, h0, h1, h2, h3, h11, h13, LO, hG, hS⟩
    repeat (with_reducible first | refine c_seq ?_ | refine c_block ?_ | refine c_skip ?_ | refine x_then ?_ | refine x_block ?_)
    refine c_reg ?_
    refine l_pure rfl (s_move  h13 ?_)
    refine l_pure rfl (s_move  h0 ?_)
    refine l_pure rfl (s_lss  rfl rfl ?_)
    refine l_nil ?_
    repeat (with_reducible first | refine c_seq ?_ | refine c_block ?_ | refine c_skip ?_ | refine x_then ?_ | refine x_block ?_)
    by_cases hlt : a < m
    · refine c_yes rfl (decide_eq_true (by omega)) ?_
      repeat (with_reducible first | refine c_seq ?_ | refine c_block ?_ | refine c_skip ?_ | refine x_then ?_ | refine x_block ?_)
      refine c_reg ?_
      refine l_pure rfl (s_asg  rfl ?_)
      refine l_nil ?_
      repeat (with_reducible first | refine c_seq ?_ | refine c_skip ?_ | refine x_then ?_ | refine x_block ?_)
      refine c_cut1 (fun ρ w' => ρ 0 = .int .i64 m ∧ ρ 1 = vl ∧ ρ 2 = .int .i64 c ∧ ρ 3 = .int .i64 s ∧ ρ 11 = sL ∧ ρ 13 = .int .i64 a ∧ ∃ LO, Gl encR 36 3 sL (tab l.length fun i => ofQ (stR l c s a m i)) LO ∧ St w w' ([] ++ LO)) ?_ ?_
      · repeat (with_reducible first | refine c_seq ?_ | refine c_block ?_ | refine c_skip ?_ | refine x_then ?_ | refine x_block ?_)
        refine c_loop (σ := Nat) (fun b ρ w' => b ≤ m ∧ ρ 0 = .int .i64 m ∧ ρ 1 = vl ∧ ρ 2 = .int .i64 c ∧ ρ 3 = .int .i64 s ∧ ρ 11 = sL ∧ ρ 13 = .int .i64 a ∧ ρ 14 = .int .i64 b ∧ ∃ LO, Gl encR 36 3 sL (tab l.length fun i => ofQ (stR l c s a b i)) LO ∧ St w w' ([] ++ LO)) (fun b => m - b) 0
          ⟨Nat.zero_le _, by assumption, by assumption, by assumption, by assumption, by assumption, by assumption, rfl, LO, hG, hS⟩ ?_
        clear hS hG h0 h1 h2 h3 h11 h13
        rintro b ρ w5 ⟨hb, h0, h1, h2, h3, h11, h13, h14, LO, hG, hS⟩
        repeat (with_reducible first | refine c_seq ?_ | refine c_block ?_ | refine c_skip ?_ | refine x_then ?_ | refine x_block ?_)
        refine c_reg ?_
        refine l_pure rfl (s_move  h14 ?_)
        refine l_pure rfl (s_move  h0 ?_)
        refine l_pure rfl (s_lss  rfl rfl ?_)
        refine l_nil ?_
        repeat (with_reducible first | refine c_seq ?_ | refine c_block ?_ | refine c_skip ?_ | refine x_then ?_ | refine x_block ?_)
        by_cases hltb : b < m
        · refine c_yes rfl (decide_eq_true (by omega)) ?_
          repeat (with_reducible first | refine c_seq ?_ | refine c_block ?_ | refine c_skip ?_ | refine x_then ?_ | refine x_block ?_)
          obtain ⟨J, hJ⟩ : ∃ J, J = ordL l c s a b := ⟨_, rfl⟩
          obtain ⟨mm, hmm⟩ : ∃ q, q = mQ l c s a b := ⟨_, rfl⟩
          obtain ⟨q0, hq0⟩ : ∃ q, q = stR l c s a b := ⟨_, rfl⟩
          have hLJ := ordL_len l c s a b
          have t1 := L_tot hB h20 c s a b
          have t2 := L_tot hB h20 c s b a
          have tm := L_mQ hB h20 c s a b
          have nd := ordL_nodup l c s a b
          have hend := amt_end hN c s a b
          have hst := stR_step (l := l) (c := c) (s := s) (a := a) (b := b)
          have hown : ∀ i ∈ ordL l c s a b, stR l c s a b i = oQ l i := fun i hi => stR_own hi
          have hin : ∀ i ∈ ordL l c s a b, i < l.length := fun i hi => (ordL_mem.1 hi).1
          have hbest : ∀ t, t < (ordL l c s a b).length → bestI l (fun i => goes l c s a b i && !decide (i ∈ (ordL l c s a b).take t)) l.length = (((ordL l c s a b).getD t 0 : Nat) : Int) := fun t ht => bestI_ord ht
          rw [← hq0, ← hmm, ← hJ] at hend hst
          rw [← hq0] at hown hG
          rw [← hmm] at tm
          rw [← hJ] at hLJ nd hown hin hbest
          have hq0L : ∀ i, i < l.length → L (q0 i) ≤ 41 * K + 43 := fun i hi => by rw [hq0]; exact L_stR hB h20 c s a b hi
          have hLA := redu_Lall (n := l.length) (B := 41 * K + 43) nd (s := ⟨q0, mm⟩) (K := K) (M := 20 * (K + 1) + 1) (by omega) (fun i hi => by rw [show (RS.mk q0 mm).rest i = oQ l i from hown i hi]; exact L_oQ hB (hin i hi)) tm hq0L (by omega)
          have hpos : ∀ i ∈ J, 0 ≤ (RS.mk q0 mm).rest i := fun i hi => by rw [show (RS.mk q0 mm).rest i = oQ l i from hown i hi]; exact hN i
          have e1 : ((b + 1 : Nat) : Int) = (b : Int) + 1 := by omega
          have hfe : (fun i => ofQ ((redu ⟨q0, mm⟩ J).rest i)) = fun i => ofQ (stR l c s a ((b + 1 : Nat) : Int) i) := funext fun i => by rw [hst, e1]
          repeat (with_reducible first | refine c_seq ?_ | refine c_block ?_ | refine c_skip ?_ | refine x_then ?_ | refine x_block ?_)
          refine c_reg ?_
          refine l_pure rfl (s_move  h1 ?_)
          refine l_pure rfl (s_move  h2 ?_)
          refine l_pure rfl (s_move  h3 ?_)
          refine l_pure rfl (s_move  h13 ?_)
          refine l_pure rfl (s_move  h14 ?_)
          refine l_heavy rfl (s_call Tryz.call37 rfl (rowes_ok vl l c s a b K _ (hl.below hS.below) hB h20 (by omega)) ?_)
          rintro r w6 ⟨rfl, hB6⟩
          replace hS := hS.grow hB6
          refine l_pure rfl (s_move  h1 ?_)
          refine l_pure rfl (s_move  h2 ?_)
          refine l_pure rfl (s_move  h3 ?_)
          refine l_pure rfl (s_move  h14 ?_)
          refine l_pure rfl (s_move  h13 ?_)
          refine l_heavy rfl (s_call Tryz.call37 rfl (rowes_ok vl l c s b a K _ (hl.below hS.below) hB h20 (by omega)) ?_)
          rintro r w7 ⟨rfl, hB7⟩
          replace hS := hS.grow hB7
          refine l_heavy rfl (s_call Tryz.call36 rfl (rLesser_ok (totS (oQ l) (ordL l c s a b)) (totS (oQ l) (ordL l c s b a)) _ (by omega)) ?_)
          rintro r w8 ⟨rfl, hB8⟩
          rw [show minQ (totS (oQ l) (ordL l c s a b)) (totS (oQ l) (ordL l c s b a)) = mm from hmm.symm]
          replace hS := hS.grow hB8
          refine l_heavy rfl (s_alloc  vi_36 hS ?_)
          intro b15 wz5 hS hBz5
          refine l_heavy rfl (s_sta (k := 0)  rfl rfl vi_36 hS rfl rfl rfl (Nat.le_of_ble_eq_true rfl) rfl ?_)
          intro wz6 hS
          refine l_nil ?_
          repeat (with_reducible first | refine c_seq ?_ | refine c_block ?_ | refine c_skip ?_ | refine x_then ?_ | refine x_block ?_)
          replace hS : St w _ ([(b15, 36, encR (ofQ mm))] ++ LO) := hS
          repeat (with_reducible first | refine c_seq ?_ | refine c_block ?_ | refine c_skip ?_ | refine x_then ?_ | refine x_block ?_)
          refine c_forget (fun ρ' => ρ' 0 = .int .i64 m ∧ ρ' 1 = vl ∧ ρ' 2 = .int .i64 c ∧ ρ' 3 = .int .i64 s ∧ ρ' 11 = sL ∧ ρ' 13 = .int .i64 a ∧ ρ' 14 = .int .i64 b ∧ ρ' 15 = .pointer (some ⟨b15, 0, none⟩) ∧ True) ⟨h0, h1, h2, h3, h11, h13, h14, rfl, trivial⟩ ?_
          rintro ρk7 ⟨hk7_0, hk7_1, hk7_2, hk7_3, hk7_11, hk7_13, hk7_14, hk7_15, -⟩
          repeat (with_reducible first | refine c_seq ?_ | refine c_block ?_ | refine c_skip ?_ | refine x_then ?_ | refine x_block ?_)
          refine c_reg ?_
          refine l_pure rfl (s_move  hk7_1 ?_)
          refine l_pure rfl (s_lenr  rfl (hl.below hS.below) ⟨_, Tryz.underlying23⟩ ?_)
          refine l_heavy rfl (s_makeE (enc := enB) (n := l.length) false  rfl rfl si_76 rfl (by omega) (by omega) (by omega) (by omega) hS ?_)
          intro b16 wz8 hS hBz8
          refine l_pure rfl (s_asg  rfl ?_)
          refine l_nil ?_
          repeat (with_reducible first | refine c_seq ?_ | refine c_skip ?_ | refine x_then ?_ | refine x_block ?_)
          rw [tab_rep] at hS
          replace hS : St w _ ([(b16, 4, (tab l.length fun _ => false).flatMap enB), (b15, 36, encR (ofQ mm))] ++ LO) := hS
          refine c_cut1 (fun ρ w' => ρ 0 = .int .i64 m ∧ ρ 1 = vl ∧ ρ 2 = .int .i64 c ∧ ρ 3 = .int .i64 s ∧ ρ 11 = sL ∧ ρ 13 = .int .i64 a ∧ ρ 14 = .int .i64 b ∧ ∃ LO, Gl encR 36 3 sL (tab l.length fun i => ofQ (stR l c s a ((b + 1 : Nat) : Int) i)) LO ∧ St w w' ([] ++ LO)) ?_ ?_
          · repeat (with_reducible first | refine c_seq ?_ | refine c_block ?_ | refine c_skip ?_ | refine x_then ?_ | refine x_block ?_)
            refine c_loop (σ := Nat) (fun t ρ w' => t ≤ J.length ∧ ρ 0 = .int .i64 m ∧ ρ 1 = vl ∧ ρ 2 = .int .i64 c ∧ ρ 3 = .int .i64 s ∧ ρ 11 = sL ∧ ρ 13 = .int .i64 a ∧ ρ 14 = .int .i64 b ∧ ρ 15 = .pointer (some ⟨b15, 0, none⟩) ∧ ρ 16 = .slice (some ⟨b16, 0, none⟩) l.length l.length ∧
                ∃ LO, Gl encR 36 3 sL (tab l.length fun i => ofQ ((redu ⟨q0, mm⟩ (J.take t)).rest i)) LO ∧ St w w' ([(b16, 4, (tab l.length fun i => decide (i ∈ J.take t)).flatMap enB), (b15, 36, encR (ofQ (redu ⟨q0, mm⟩ (J.take t)).amt))] ++ LO)) (fun t => J.length - t) 0
              ⟨Nat.zero_le _, by assumption, by assumption, by assumption, by assumption, by assumption, by assumption, by assumption, by assumption, rfl, LO, hG, by rw [show (tab l.length fun i => decide (i ∈ J.take 0)) = tab l.length fun _ => false from tab_congr (fun _ _ => by simp)]; exact hS⟩ ?_
            clear hS hG h0 h1 h2 h3 h11 h13 h14
            rintro t ρ w9 ⟨ht, h0, h1, h2, h3, h11, h13, h14, h15, h16, LO, hG, hS⟩
            obtain ⟨S, hSe⟩ : ∃ S, S = redu ⟨q0, mm⟩ (J.take t) := ⟨_, rfl⟩
            obtain ⟨hL1, hL2⟩ := hLA t
            have hstop : S.amt = 0 → ∀ i, S.rest i = (redu ⟨q0, mm⟩ J).rest i := fun g i => by rw [hSe]; exact redu_stop nd hpos (by rw [← hSe]; exact g) i
            rw [← hSe] at hG hS hL1 hL2
            repeat (with_reducible first | refine c_seq ?_ | refine c_block ?_ | refine c_skip ?_ | refine x_then ?_ | refine x_block ?_)
            refine c_reg ?_
            refine l_pure rfl (s_fld  h15 fo_36_1 ?_)
            refine l_read rfl (s_ldo (k := 1)  rfl vi_9 hS rfl rfl rfl (.inr rfl) ?_)
            refine l_pure rfl (s_nes  rfl rfl ?_)
            refine l_nil ?_
            repeat (with_reducible first | refine c_seq ?_ | refine c_block ?_ | refine c_skip ?_ | refine x_then ?_ | refine x_block ?_)
            by_cases hz : S.amt = 0
            · refine c_no rfl (decide_eq_false (by rw [ofQ_num_nil.2 hz]; simp)) ?_
              repeat (with_reducible first | refine c_seq ?_ | refine c_block ?_ | refine c_skip ?_ | refine x_then ?_ | refine x_block ?_)
              refine c_exit ?_
              repeat (with_reducible first | refine x_then_exit ?_ | refine x_block_exit ?_ | refine x_block_pass rfl ?_)
              repeat (with_reducible first | refine c_seq ?_ | refine c_block ?_ | refine c_skip ?_ | refine x_then ?_ | refine x_block ?_)
              have hfe2 : (fun i => ofQ (S.rest i)) = fun i => ofQ (stR l c s a ((b + 1 : Nat) : Int) i) := by rw [← hfe]; exact funext fun i => by rw [hstop hz i]
              rw [hfe2] at hG
              exact ⟨_, rfl, h0, h1, h2, h3, h11, h13, h14, LO, hG, hS.drop (List.sublist_append_right [_, _] _)⟩
            · have htlt : t < J.length := by
                rcases Nat.lt_or_ge t J.length with q | q
                · exact q
                · exfalso
                  rw [List.take_of_length_le q] at hSe
                  rw [hSe] at hz
                  exact hz hend
              obtain ⟨i, hi⟩ : ∃ i, i = J.getD t 0 := ⟨_, rfl⟩
              have hil : i < l.length := hin i (by rw [hi]; exact getD_mem J t 0 htlt)
              have hbt := hbest t htlt
              rw [← hi] at hbt
              have htk := take_succ' J t 0 htlt
              rw [← hi] at htk
              have e2 : redu ⟨q0, mm⟩ (J.take (t + 1)) = rstp S i := by rw [htk, redu_snoc, ← hSe]
              obtain ⟨p, hp⟩ : ∃ p, p = minQ (S.rest i) S.amt := ⟨_, rfl⟩
              have hp2 : minQ S.amt (S.rest i) = p := by rw [hp, minQ_comm']
              have l1 := hL1 i hil
              have lp : L p ≤ 41 * K + 43 := by
                have := L_min (S.rest i) S.amt
                rw [hp]; omega
              have hget : (tab l.length fun i => ofQ (S.rest i)).getD i zRR = ofQ (S.rest i) := tab_get _ _ hil
              have htl : (tab l.length fun i => ofQ (S.rest i)).length = l.length := tab_len _ _
              have htd : (tab l.length fun i => decide (i ∈ J.take t)).length = l.length := tab_len _ _
              have hset : (tab l.length fun i => ofQ (S.rest i)).set i (ofQ (S.rest i - p)) = tab l.length fun j => ofQ ((rstp S i).rest j) := by
                rw [tab_set]
                refine tab_congr fun j _ => ?_
                show _ = ofQ (if j = i then S.rest i - minQ (S.rest i) S.amt else S.rest j)
                rw [← hp]
                split <;> rfl
              have hsetd : (tab l.length fun i => decide (i ∈ J.take t)).set i true = tab l.length fun j => decide (j ∈ J.take (t + 1)) := by
                rw [tab_set]
                refine tab_congr fun j _ => ?_
                rw [htk]
                by_cases g : j = i
                · simp [g]
                · simp [g]
              have hamt : (rstp S i).amt = S.amt - p := by rw [hp]; rfl
              refine c_yes rfl (decide_eq_true (fun g => hz (ofQ_num_nil.1 g))) ?_
              repeat (with_reducible first | refine c_seq ?_ | refine c_block ?_ | refine c_skip ?_ | refine x_then ?_ | refine x_block ?_)
              have hdn : Sl enB 1 w9 (.slice (some ⟨b16, 0, none⟩) l.length l.length) (tab l.length fun i => decide (i ∈ J.take t)) := by
                have h1 := hS.sle (k := 0) (L := tab l.length fun i => decide (i ∈ J.take t)) (n := l.length) (cap := l.length) rfl enB_len (by rw [tab_len]; exact Nat.le_refl _) (Nat.le_refl _) (by omega)
                rwa [List.take_of_length_le (by rw [tab_len]; exact Nat.le_refl _)] at h1
              repeat (with_reducible first | refine c_seq ?_ | refine c_block ?_ | refine c_skip ?_ | refine x_then ?_ | refine x_block ?_)
              refine c_reg ?_
              refine l_pure rfl (s_move  h1 ?_)
              refine l_pure rfl (s_move  h2 ?_)
              refine l_pure rfl (s_move  h3 ?_)
              refine l_pure rfl (s_move  h13 ?_)
              refine l_pure rfl (s_move  h14 ?_)
              refine l_pure rfl (s_move  h16 ?_)
              refine l_heavy rfl (s_call Tryz.call38 rfl (roldest_ok vl _ l (fun i => decide (i ∈ J.take t)) c s a b _ (hl.below hS.below) hdn) ?_)
              rintro r w10 ⟨rfl, hB10⟩
              rw [hbt]
              replace hS := hS.grow hB10
              refine l_pure rfl (s_asg  rfl ?_)
              refine l_nil ?_
              repeat (with_reducible first | refine c_seq ?_ | refine c_block ?_ | refine c_skip ?_ | refine x_then ?_ | refine x_block ?_)
              refine c_forget (fun ρ' => ρ' 0 = .int .i64 m ∧ ρ' 1 = vl ∧ ρ' 2 = .int .i64 c ∧ ρ' 3 = .int .i64 s ∧ ρ' 11 = sL ∧ ρ' 13 = .int .i64 a ∧ ρ' 14 = .int .i64 b ∧ ρ' 15 = .pointer (some ⟨b15, 0, none⟩) ∧ ρ' 16 = .slice (some ⟨b16, 0, none⟩) l.length l.length ∧ ρ' 17 = .int .i64 i ∧ True) ⟨h0, h1, h2, h3, h11, h13, h14, h15, h16, rfl, trivial⟩ ?_
              rintro ρk9 ⟨hk9_0, hk9_1, hk9_2, hk9_3, hk9_11, hk9_13, hk9_14, hk9_15, hk9_16, hk9_17, -⟩
              repeat (with_reducible first | refine c_seq ?_ | refine c_block ?_ | refine c_skip ?_ | refine x_then ?_ | refine x_block ?_)
              refine c_reg ?_
              refine l_pure rfl (s_move  hk9_16 ?_)
              refine l_pure rfl (s_move  hk9_17 ?_)
              refine l_pure rfl (s_ixo (i := i)  rfl rfl (by omega) (by first | omega | (simp; done) | (simp; omega)) si_76 ?_)
              refine l_heavy rfl (s_stE (k := 0) (i := i) (enc := enB) true (fun _ => rfl)  rfl rfl vi_4 hS rfl (by first | omega | simp) (by first | omega | (simp; done) | (simp; omega)) rfl rfl ?_)
              intro wz10 hS
              refine l_nil ?_
              repeat (with_reducible first | refine c_seq ?_ | refine c_block ?_ | refine c_skip ?_ | refine x_then ?_ | refine x_block ?_)
              replace hS : St w _ ([(b16, 4, ((tab l.length fun i => decide (i ∈ J.take t)).set i true).flatMap enB), (b15, 36, encR (ofQ S.amt))] ++ LO) := hS
              rw [hsetd] at hS
              refine c_cut1 (fun ρ w' => ρ 0 = .int .i64 m ∧ ρ 1 = vl ∧ ρ 2 = .int .i64 c ∧ ρ 3 = .int .i64 s ∧ ρ 11 = sL ∧ ρ 13 = .int .i64 a ∧ ρ 14 = .int .i64 b ∧ ρ 15 = .pointer (some ⟨b15, 0, none⟩) ∧ ρ 16 = .slice (some ⟨b16, 0, none⟩) l.length l.length ∧ ρ 17 = .int .i64 i ∧ ∃ b18, ρ 18 = .pointer (some ⟨b18, 0, none⟩) ∧
                  St w w' ([(b18, 36, encR (ofQ p)), (b16, 4, (tab l.length fun j => decide (j ∈ J.take (t + 1))).flatMap enB), (b15, 36, encR (ofQ S.amt))] ++ LO)) ?_ ?_
              · repeat (with_reducible first | refine c_seq ?_ | refine c_block ?_ | refine c_skip ?_ | refine x_then ?_ | refine x_block ?_)
                refine c_float 6 [(0, .read), (1, .pure), (2, .pure), (3, .pure), (4, .read), (5, .grow), (7, .free)] (by kernel_rfl) (by kernel_rfl) hS ?_
                intro wz11 hS hBz11
                refine wx_read (by kernel_rfl) rfl rfl (s_ldo (k := 1)  hk9_15 vi_36 hS rfl rfl rfl (.inl rfl) ?_)
                refine wx_pure (by kernel_rfl) rfl rfl (s_move  hk9_11 ?_)
                refine wx_pure (by kernel_rfl) rfl rfl (s_move  hk9_17 ?_)
                refine wx_pure (by kernel_rfl) rfl rfl (s_ixr (i := i)  rfl rfl (hG.sl hS encR_len) (by omega) (by first | omega | (simp; done) | (simp; omega)) si_25 ?_)
                refine wx_read (by kernel_rfl) rfl rfl (s_lde (i := i) zRR  rfl vi_36 (hG.sl hS encR_len) (by first | omega | (simp; done) | (simp; omega)) rfl rfl (.inl rfl) ?_)
                rw [hget]
                refine wx_fork rfl rfl ?_ ?_
                · refine w_grow rfl rfl (s_alloc  vi_36 hS ?_)
                  intro b18 wz12 hS hBz12
                  refine ⟨hBz12, ?_⟩
                  refine w_grow rfl rfl (s_call Tryz.call36 rfl (rLesser_ok S.amt (S.rest i) _ (by omega)) ?_)
                  rintro r w11 ⟨rfl, hB11⟩
                  refine ⟨hB11, ?_⟩
                  rw [hp2]
                  replace hS := hS.grow hB11
                  refine w_free rfl rfl (s_sta (k := 0)  rfl rfl vi_36 hS rfl rfl rfl (Nat.le_of_ble_eq_true rfl) rfl ?_)
                  intro wz13 hS
                  refine w_end ?_
                  repeat (with_reducible first | refine c_seq ?_ | refine c_block ?_ | refine c_skip ?_ | refine x_then ?_ | refine x_block ?_)
                  exact ⟨_, rfl, by assumption, by assumption, by assumption, by assumption, by assumption, by assumption, by assumption, by assumption, by assumption, by assumption, b18, rfl, hS⟩
                · refine s_call Tryz.call36 rfl (rLesser_ok S.amt (S.rest i) _ (by omega)) ?_
                  rintro r w11 ⟨rfl, hB11⟩
                  refine ⟨hB11, ?_⟩
                  rw [hp2]
                  replace hS := hS.grow hB11
                  refine wx_now (by kernel_rfl) ?_
                  refine w_grow rfl rfl (s_alloc  vi_36 hS ?_)
                  intro b18 wz14 hS hBz14
                  refine ⟨hBz14, ?_⟩
                  refine w_free rfl rfl (s_sta (k := 0)  rfl rfl vi_36 hS rfl rfl rfl (Nat.le_of_ble_eq_true rfl) rfl ?_)
                  intro wz15 hS
                  refine w_end ?_
                  repeat (with_reducible first | refine c_seq ?_ | refine c_block ?_ | refine c_skip ?_ | refine x_then ?_ | refine x_block ?_)
                  exact ⟨_, rfl, by assumption, by assumption, by assumption, by assumption, by assumption, by assumption, by assumption, by assumption, by assumption, by assumption, b18, rfl, hS⟩
              clear hS h0 h1 h2 h3 h11 h13 h14 h15 h16
              rintro ρ w11 ⟨h0, h1, h2, h3, h11, h13, h14, h15, h16, h17, b18, h18, hS⟩
              repeat (with_reducible first | refine c_seq ?_ | refine c_block ?_ | refine c_skip ?_ | refine x_then ?_ | refine x_block ?_)
              refine c_draw [(0, .pure), (1, .pure), (2, .pure), (3, .pure), (4, .pure), (5, .read), (6, .read), (7, .grow), (8, .pure), (9, .free)] (by kernel_rfl) (by kernel_rfl) hS ?_
              intro wz16 hS hBz16
              refine w_pure rfl rfl (s_move  h11 ?_)
              refine w_pure rfl rfl (s_move  h17 ?_)
              refine w_pure rfl rfl (s_move  h11 ?_)
              refine w_pure rfl rfl (s_move  h17 ?_)
              refine w_pure rfl rfl (s_ixr (i := i)  rfl rfl (hG.sl hS encR_len) (by omega) (by first | omega | (simp; done) | (simp; omega)) si_25 ?_)
              refine w_read rfl rfl (s_lde (i := i) zRR  rfl vi_36 (hG.sl hS encR_len) (by first | omega | (simp; done) | (simp; omega)) rfl rfl (.inl rfl) ?_)
              refine w_read rfl rfl (s_ldo (k := 0)  h18 vi_36 hS rfl rfl rfl (.inl rfl) ?_)
              rw [hget]
              refine w_grow rfl rfl (s_call Tryz.call39 rfl (rMinus_ok (S.rest i) p _ (by omega)) ?_)
              rintro r w12 ⟨rfl, hB12⟩
              refine ⟨hB12, ?_⟩
              replace hS := hS.grow hB12
              refine w_pure rfl rfl (s_ixr (i := i)  rfl rfl (hG.sl hS encR_len) (by omega) (by first | omega | (simp; done) | (simp; omega)) si_25 ?_)
              refine w_free rfl rfl (s_stG (i := i) (ofQ (S.rest i - p)) encR_len  rfl rfl vi_36 hG hS (by omega) rfl rfl ?_)
              intro wz17 hS
              refine w_end ?_
              repeat (with_reducible first | refine c_seq ?_ | refine c_block ?_ | refine c_skip ?_ | refine x_then ?_ | refine x_block ?_)
              obtain ⟨LO2, hG2, hS2⟩ := hS
              rw [hset, ← e2] at hG2
              have hS := hS2
              repeat (with_reducible first | refine c_seq ?_ | refine c_block ?_ | refine c_skip ?_ | refine x_then ?_ | refine x_block ?_)
              refine c_reg ?_
              refine l_read rfl (s_ldo (k := 2)  h15 vi_36 hS rfl rfl rfl (.inl rfl) ?_)
              refine l_read rfl (s_ldo (k := 0)  h18 vi_36 hS rfl rfl rfl (.inl rfl) ?_)
              refine l_heavy rfl (s_call Tryz.call39 rfl (rMinus_ok S.amt p _ (by omega)) ?_)
              rintro r w13 ⟨rfl, hB13⟩
              rw [← hamt, ← e2]
              replace hS := hS.grow hB13
              refine l_heavy rfl (s_sta (k := 2)  h15 rfl vi_36 hS rfl rfl rfl (Nat.le_of_ble_eq_true rfl) rfl ?_)
              intro wz18 hS
              refine l_nil ?_
              repeat (with_reducible first | refine c_seq ?_ | refine c_block ?_ | refine c_skip ?_ | refine x_then ?_ | refine x_block ?_)
              exact ⟨t + 1, _, rfl, ⟨htlt, by assumption, by assumption, by assumption, by assumption, by assumption, by assumption, by assumption, by assumption, by assumption, LO2, hG2, hS.drop (List.sublist_cons_self _ _)⟩, by omega⟩
          clear hS hG h0 h1 h2 h3 h11 h13 h14
          rintro ρ w9 ⟨h0, h1, h2, h3, h11, h13, h14, LO, hG, hS⟩
          repeat (with_reducible first | refine c_seq ?_ | refine c_block ?_ | refine c_skip ?_ | refine x_then ?_ | refine x_block ?_)
          refine c_reg ?_
          refine l_pure rfl (s_move  h14 ?_)
          refine l_pure rfl (s_add  rfl rfl (IntWalk.i64_in _ (by omega)) ?_)
          refine l_pure rfl (s_asg  rfl ?_)
          refine l_nil ?_
          repeat (with_reducible first | refine c_seq ?_ | refine c_block ?_ | refine c_skip ?_ | refine x_then ?_ | refine x_block ?_)
          exact ⟨b + 1, _, rfl, ⟨hltb, by assumption, by assumption, by assumption, by assumption, by assumption, by assumption, vi rfl (by omega), LO, hG, hS⟩, by omega⟩
        · refine c_no rfl (decide_eq_false (by omega)) ?_
          repeat (with_reducible first | refine c_seq ?_ | refine c_block ?_ | refine c_skip ?_ | refine x_then ?_ | refine x_block ?_)
          refine c_exit ?_
          repeat (with_reducible first | refine x_then_exit ?_ | refine x_block_exit ?_ | refine x_block_pass rfl ?_)
          repeat (with_reducible first | refine c_seq ?_ | refine c_block ?_ | refine c_skip ?_ | refine x_then ?_ | refine x_block ?_)
          obtain rfl : b = m := by omega
          exact ⟨_, rfl, h0, h1, h2, h3, h11, h13, LO, hG, hS⟩
      clear hS hG h0 h1 h2 h3 h11 h13
      rintro ρ w5 ⟨h0, h1, h2, h3, h11, h13, LO, hG, hS⟩
      rw [tab_congr (g := fun i => ofQ (stR l c s ((a + 1 : Nat) : Int) ((0 : Nat) : Int) i)) (fun i hi => by rw [show stR l c s a m i = stR l c s ((a + 1 : Nat) : Int) ((0 : Nat) : Int) i from stR_next l c s a _ hob hi])] at hG
      repeat (with_reducible first | refine c_seq ?_ | refine c_block ?_ | refine c_skip ?_ | refine x_then ?_ | refine x_block ?_)
      refine c_reg ?_
      refine l_pure rfl (s_move  h13 ?_)
      refine l_pure rfl (s_add  rfl rfl (IntWalk.i64_in _ (by omega)) ?_)
      refine l_pure rfl (s_asg  rfl ?_)
      refine l_nil ?_
      repeat (with_reducible first | refine c_seq ?_ | refine c_block ?_ | refine c_skip ?_ | refine x_then ?_ | refine x_block ?_)
      exact ⟨a + 1, _, rfl, ⟨hlt, h0, h1, h2, h3, h11, vi rfl (by omega), LO, hG, hS⟩, by omega⟩
    · refine c_no rfl (decide_eq_false (by omega)) ?_
      repeat (with_reducible first | refine c_seq ?_ | refine c_block ?_ | refine c_skip ?_ | refine x_then ?_ | refine x_block ?_)
      refine c_exit ?_
      repeat (with_reducible first | refine x_then_exit ?_ | refine x_block_exit ?_ | refine x_block_pass rfl ?_)
      repeat (with_reducible first | refine c_seq ?_ | refine c_block ?_ | refine c_skip ?_ | refine x_then ?_ | refine x_block ?_)
      obtain rfl : a = m := by omega
      exact ⟨_, rfl, h11, LO, hG, hS⟩
  clear hS hG h0 h1 h2 h3 h11
  rintro ρ w4 ⟨h11, LO, hG, hS⟩
  repeat (with_reducible first | refine c_seq ?_ | refine c_block ?_ | refine c_skip ?_ | refine x_then ?_ | refine x_block ?_)
  rw [tab_congr (g := fun i => ofQ (finQ l c s i)) (fun i hi => by rw [show stR l c s m ((0 : Nat) : Int) i = finQ l c s i from stR_end l c s _ hob hi])] at hG
  repeat (with_reducible first | refine c_seq ?_ | refine c_block ?_ | refine c_skip ?_ | refine x_then ?_ | refine x_block ?_)
  refine c_reg ?_
  refine l_pure rfl (s_move  h11 ?_)
  refine l_pure rfl (s_asg  rfl ?_)
  refine l_pure rfl (s_asg  rfl ?_)
  refine l_nil ?_
  repeat (with_reducible first | refine c_seq ?_ | refine c_block ?_ | refine c_skip ?_ | refine x_then ?_ | refine x_block ?_)
  refine c_ret ?_
  repeat (with_reducible first | refine x_then_ret ?_ | refine x_block_ret ?_)
  refine r_two rfl rfl rfl ?_
  exact ⟨⟨_, rfl, hG.sl hS encR_len⟩, hS.below⟩
end Go.Proofs.YtdafaibhiobpaaaGreatDoor
namespace Go.Proofs.YtdafaibhiobpaaaGreatDoor
open Go Go.RowKit Go.Sx
def fewO (l : List Ob) : Bool := decide (l.length ≤ 16) && l.all fun o => few o.amt
theorem fewO_B {l : List Ob} (h : fewO l = true) : ObB 24 l ∧ l.length ≤ 16 := by
  unfold fewO at h
  simp only [Bool.and_eq_true, decide_eq_true_eq, List.all_eq_true] at h
  exact ⟨fun o ho => few_Lr (h.2 o ho), h.1⟩
theorem fewO_ok (vl : Value) (l : List Ob) (w : World) (hl : Sl encOb 8 w vl l) :
    Ret Tryz.prog 12 #[vl] w fun v w' => v = .bool (fewO l) ∧ Below w.heap.size w w' := by
  have hmax := hl.maxLen
  have hS := St.init w
  refine enter Tryz.func12 rfl Tryz.ntmps12 rfl ?_
  repeat (with_reducible first | refine c_seq ?_ | refine c_block ?_ | refine c_skip ?_ | refine x_then ?_ | refine x_block ?_)
  refine c_reg ?_
  refine l_pure rfl (s_asg  rfl ?_)
  refine l_nil ?_
  repeat (with_reducible first | refine c_seq ?_ | refine c_block ?_ | refine c_skip ?_ | refine x_then ?_ | refine x_block ?_)
  refine c_reg ?_
  refine l_pure rfl (s_move  rfl ?_)
  refine l_pure rfl (s_lenr  rfl (hl.below hS.below) ⟨_, Tryz.underlying23⟩ ?_)
  refine l_pure rfl (s_gtr  rfl rfl ?_)
  refine l_nil ?_
  repeat (with_reducible first | refine c_seq ?_ | refine c_block ?_ | refine c_skip ?_ | refine x_then ?_ | refine x_block ?_)
  by_cases h16 : 16 < l.length
  · refine c_yes rfl (decide_eq_true (by omega)) ?_
    repeat (with_reducible first | refine c_seq ?_ | refine c_block ?_ | refine c_skip ?_ | refine x_then ?_ | refine x_block ?_)
    refine c_reg ?_
    refine l_pure rfl (s_asg  rfl ?_)
    refine l_nil ?_
    repeat (with_reducible first | refine c_seq ?_ | refine c_block ?_ | refine c_skip ?_ | refine x_then ?_ | refine x_block ?_)
    refine c_ret ?_
    repeat (with_reducible first | refine x_then_ret ?_ | refine x_block_ret ?_)
    refine r_one rfl rfl ?_
    exact ⟨vb rfl (by unfold fewO; rw [decide_eq_false (by omega)]; rfl), hS.below⟩
  refine c_no rfl (decide_eq_false (by omega)) ?_
  repeat (with_reducible first | refine c_seq ?_ | refine c_block ?_ | refine c_skip ?_ | refine x_then ?_ | refine x_block ?_)
  have hf : fewO l = l.all fun o => few o.amt := by unfold fewO; rw [decide_eq_true (by omega)]; rfl
  rw [hf]
  repeat (with_reducible first | refine c_seq ?_ | refine c_block ?_ | refine c_skip ?_ | refine x_then ?_ | refine x_block ?_)
  refine c_reg ?_
  refine l_pure rfl (s_move  rfl ?_)
  refine l_pure rfl (s_lenr  rfl (hl.below hS.below) ⟨_, Tryz.underlying23⟩ ?_)
  refine l_pure rfl (s_move  rfl ?_)
  refine l_nil ?_
  repeat (with_reducible first | refine c_seq ?_ | refine c_block ?_ | refine c_skip ?_ | refine x_then ?_ | refine x_block ?_)
  refine c_loop (σ := Nat) (fun i ρ w' => i ≤ l.length ∧ (l.take i).all (fun o => few o.amt) = true ∧ ρ 8 = vl ∧ ρ 9 = .int .i64 l.length ∧ ρ 10 = .int .i64 i ∧ St w w' []) (fun i => l.length - i) 0
    ⟨Nat.zero_le _, rfl, rfl, rfl, rfl, hS⟩ ?_
  clear hS
  rintro i ρ w2 ⟨hi, hall, h8, h9, h10, hS⟩
  repeat (with_reducible first | refine c_seq ?_ | refine c_block ?_ | refine c_skip ?_ | refine x_then ?_ | refine x_block ?_)
  refine c_reg ?_
  refine l_pure rfl (s_lss  h10 h9 ?_)
  refine l_nil ?_
  repeat (with_reducible first | refine c_seq ?_ | refine c_block ?_ | refine c_skip ?_ | refine x_then ?_ | refine x_block ?_)
  by_cases hlt : i < l.length
  · refine c_yes rfl (decide_eq_true (by omega)) ?_
    repeat (with_reducible first | refine c_seq ?_ | refine c_block ?_ | refine c_skip ?_ | refine x_then ?_ | refine x_block ?_)
    obtain ⟨o, ho⟩ : ∃ o, o = l.getD i zOb := ⟨_, rfl⟩
    have hom : o ∈ l := by rw [ho]; exact getD_mem l i zOb hlt
    have htk := take_succ' l i zOb hlt
    rw [← ho] at htk
    repeat (with_reducible first | refine c_seq ?_ | refine c_block ?_ | refine c_skip ?_ | refine x_then ?_ | refine x_block ?_)
    refine c_reg ?_
    refine l_pure rfl (s_ixr (i := i)  h8 h10 (hl.below hS.below) (by omega) (by first | omega | (simp; done) | (simp; omega)) si_23 ?_)
    refine l_read rfl (s_lde (i := i) zOb  rfl vi_66 (hl.below hS.below) (by first | omega | (simp; done) | (simp; omega)) rfl rfl (.inl rfl) ?_)
    refine l_heavy rfl (s_alloc  vi_66 hS ?_)
    intro b4 wz1 hS hBz1
    refine l_heavy rfl (s_sta (k := 0)  rfl rfl vi_66 hS rfl rfl rfl (Nat.le_of_ble_eq_true rfl) rfl ?_)
    intro wz2 hS
    refine l_nil ?_
    repeat (with_reducible first | refine c_seq ?_ | refine c_block ?_ | refine c_skip ?_ | refine x_then ?_ | refine x_block ?_)
    replace hS : St w _ [(b4, 66, encOb (l.getD i zOb))] := hS
    rw [← ho] at hS
    repeat (with_reducible first | refine c_seq ?_ | refine c_block ?_ | refine c_skip ?_ | refine x_then ?_ | refine x_block ?_)
    refine c_reg ?_
    refine l_pure rfl (s_fld  rfl fo_66_2 ?_)
    refine l_read rfl (s_ldo (k := 0)  rfl vi_36 hS rfl rfl rfl (.inl rfl) ?_)
    refine l_heavy rfl (s_call Tryz.call42 rfl (Few_ok o.amt _) ?_)
    rintro _ wc3 ⟨rfl, hBc3⟩
    replace hS := hS.grow hBc3
    refine l_pure rfl (s_not  rfl ?_)
    refine l_nil ?_
    repeat (with_reducible first | refine c_seq ?_ | refine c_block ?_ | refine c_skip ?_ | refine x_then ?_ | refine x_block ?_)
    cases hfw : few o.amt with
    | false =>
      refine c_yes rfl (rfl) ?_
      repeat (with_reducible first | refine c_seq ?_ | refine c_block ?_ | refine c_skip ?_ | refine x_then ?_ | refine x_block ?_)
      refine c_reg ?_
      refine l_pure rfl (s_asg  rfl ?_)
      refine l_nil ?_
      repeat (with_reducible first | refine c_seq ?_ | refine c_block ?_ | refine c_skip ?_ | refine x_then ?_ | refine x_block ?_)
      refine c_ret ?_
      repeat (with_reducible first | refine x_then_ret ?_ | refine x_block_ret ?_)
      refine r_one rfl rfl ?_
      refine ⟨vb rfl (Eq.symm ?_), hS.below⟩
      rw [List.all_eq_false]
      exact ⟨o, hom, by rw [hfw]; decide⟩
    | true =>
      refine c_no rfl (rfl) ?_
      repeat (with_reducible first | refine c_seq ?_ | refine c_block ?_ | refine c_skip ?_ | refine x_then ?_ | refine x_block ?_)
      refine c_reg ?_
      refine l_pure rfl (s_add  h10 rfl (IntWalk.i64_in _ (by omega)) ?_)
      refine l_pure rfl (s_move  rfl ?_)
      refine l_nil ?_
      repeat (with_reducible first | refine c_seq ?_ | refine c_block ?_ | refine c_skip ?_ | refine x_then ?_ | refine x_block ?_)
      exact ⟨i + 1, _, rfl, ⟨hlt, by rw [htk, List.all_append, hall]; simp [hfw], by assumption, by assumption, vi rfl (by omega), hS.drop (List.sublist_cons_self _ _)⟩, by omega⟩
  · refine c_no rfl (decide_eq_false (by omega)) ?_
    repeat (with_reducible first | refine c_seq ?_ | refine c_block ?_ | refine c_skip ?_ | refine x_then ?_ | refine x_block ?_)
    refine c_exit ?_
    repeat (with_reducible first | refine x_then_exit ?_ | refine x_block_exit ?_ | refine x_block_pass rfl ?_)
    repeat (with_reducible first | refine c_seq ?_ | refine c_block ?_ | refine c_skip ?_ | refine x_then ?_ | refine x_block ?_)
    have e : l.take i = l := List.take_of_length_le (by omega)
    rw [e] at hall
    repeat (with_reducible first | refine c_seq ?_ | refine c_block ?_ | refine c_skip ?_ | refine x_then ?_ | refine x_block ?_)
    refine c_reg ?_
    refine l_pure rfl (s_asg  rfl ?_)
    refine l_nil ?_
    repeat (with_reducible first | refine c_seq ?_ | refine c_block ?_ | refine c_skip ?_ | refine x_then ?_ | refine x_block ?_)
    refine c_ret ?_
    repeat (with_reducible first | refine x_then_ret ?_ | refine x_block_ret ?_)
    refine r_one rfl rfl ?_
    exact ⟨vb rfl hall.symm, hS.below⟩
end Go.Proofs.YtdafaibhiobpaaaGreatDoor
