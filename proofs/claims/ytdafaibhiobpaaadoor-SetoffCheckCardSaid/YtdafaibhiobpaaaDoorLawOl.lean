/-
  Walks: what is drawn as obligations.
-/
import Derived.Test.YtdafaibhiobpaaaDoorLawOa
namespace Go.Proofs.YtdafaibhiobpaaaDoor
open Go Go.RowKit Go.Sx

def enc5 (x : Nat → Nat) : List Value := Kr .u16 (tab 5 x)
theorem enc5_len : ∀ x, (enc5 x).length = 5 := fun _ => rfl
def creOf (a b : Nat) : Nat := if a ≤ b then b + 1 else b
def acqD (y : Nat) : Nat := if y % 4 = 3 then y / 8 % 50 else 0
def obOf (x : Nat → Nat) : Ob := ⟨((x 0 % 4 : Nat) : Int), ((creOf (x 0 % 4) (x 1 % 3) : Nat) : Int), amR (x 2), ((x 3 % 60 : Nat) : Int), ((x 3 % 60 : Nat) : Int) + ((acqD (x 4) : Nat) : Int), decide (((x 4 % 8 : Nat) : Int) = 7)⟩
def obsL (l : List (Nat → Nat)) (n : Nat) : List Ob := (l.take n).map obOf
theorem obsL_len (l : List (Nat → Nat)) (n : Nat) : (obsL l n).length = min n l.length := by simp [obsL]
theorem obsL_succ (l : List (Nat → Nat)) {i : Nat} (h : i < l.length) : obsL l (i + 1) = obsL l i ++ [obOf (l.getD i fun _ => 0)] := by
  unfold obsL; rw [take_succ' l i _ h, List.map_append]; rfl
theorem encOb_one (xs : List Ob) : ∀ u ∈ xs.flatMap encOb, u.oneCell' = true := by
  intro u hu
  obtain ⟨x, _, hx⟩ := List.mem_flatMap.1 hu
  simp only [encOb, List.mem_cons, List.not_mem_nil, or_false] at hx
  rcases hx with rfl | rfl | rfl | rfl | rfl | rfl | rfl | rfl <;> rfl
theorem built_Ob4 (a b i : Int) (c : Bool) (p : RR) : Tryd.prog.built 28 [(0, .int .i64 a), (1, .int .i64 b), (2, aggR p), (3, .int .i64 i), (5, .bool c)] = some #[.int .i64 a, .int .i64 b, .bool p.neg, .string p.num, .string p.den, .int .i64 i, .int .i64 0, .bool c] := by kernel_rfl
theorem sel4 (e k : Nat) (hk : k < 4) : [Value.int .i64 0, Value.int .i64 0, Value.int .i64 0, Value.int .i64 (e : Int)][0 + k * 1]? = some (Value.int .i64 (((if k = 3 then e else 0 : Nat)) : Int)) := by
  match k, hk with
  | 0, _ => rfl
  | 1, _ => rfl
  | 2, _ => rfl
  | 3, _ => rfl
set_option maxHeartbeats 2000000 in
theorem Obligations_ok (v : Value) (l : List (Nat → Nat)) (w : World) (hv : Sl enc5 5 w v l) (hl : ∀ x ∈ l, ∀ i, i < 5 → x i < 65536) :
    Ret Tryd.prog 17 #[v] w fun r w' => ∃ LO, Gl encOb 28 8 r (obsL l 16) LO ∧ St w w' ([] ++ LO) := by
  have hmax := hv.maxLen
  have hS := St.init w
  refine enter Tryd.func17 rfl Tryd.ntmps17 rfl ?_
  repeat (with_reducible first | refine c_seq ?_ | refine c_block ?_ | refine c_skip ?_ | refine x_then ?_ | refine x_block ?_)
  refine c_reg ?_
  refine l_pure rfl (s_asg  rfl ?_)
  refine l_nil ?_
  repeat (with_reducible first | refine c_seq ?_ | refine c_block ?_ | refine c_skip ?_ | refine x_then ?_ | refine x_block ?_)
  refine c_reg ?_
  refine l_pure rfl (s_asg  rfl ?_)
  refine l_nil ?_
  repeat (with_reducible first | refine c_seq ?_ | refine c_block ?_ | refine c_skip ?_ | refine x_then ?_ | refine x_block ?_)
  refine c_reg ?_
  refine l_pure rfl (s_asg  rfl ?_)
  refine l_nil ?_
  repeat (with_reducible first | refine c_seq ?_ | refine c_block ?_ | refine c_skip ?_ | refine x_then ?_ | refine x_block ?_)
  refine c_loop (σ := Nat) (fun i ρ w' => i ≤ l.length ∧ i ≤ 16 ∧ ρ 0 = v ∧ ρ 4 = .int .i64 i ∧ ∃ sO LO, ρ 3 = sO ∧ Gl encOb 28 8 sO (obsL l i) LO ∧ St w w' ([] ++ LO)) (fun i => l.length - i) 0
    ⟨Nat.zero_le _, Nat.zero_le _, rfl, rfl, ⟨_, [], rfl, Gl.nil _ _ _, hS⟩⟩ ?_
  clear hS
  rintro i ρ w2 ⟨hi, hi16, h0, h4, sO, LO, h3, hG, hS⟩
  have hol := obsL_len l i
  repeat (with_reducible first | refine c_seq ?_ | refine c_block ?_ | refine c_skip ?_ | refine x_then ?_ | refine x_block ?_)
  by_cases hlt : i < l.length
  · by_cases hlt16 : i < 16
    · repeat (with_reducible first | refine c_seq ?_ | refine c_block ?_ | refine c_skip ?_ | refine x_then ?_ | refine x_block ?_)
      refine c_reg ?_
      refine l_pure rfl (s_move  h4 ?_)
      refine l_pure rfl (s_move  h0 ?_)
      refine l_pure rfl (s_lenr  rfl (hv.below hS.below) ⟨_, Tryd.underlying35⟩ ?_)
      refine l_pure rfl (s_lss  rfl rfl ?_)
      refine l_pure rfl (s_move  rfl ?_)
      refine l_pure (gd_yes 13 (by kernel_rfl) rfl (decide_eq_true (by omega))) (s_move  h4 ?_)
      refine l_pure (gd_yes 13 (by kernel_rfl) rfl (decide_eq_true (by omega))) (s_lss  rfl rfl ?_)
      refine l_pure rfl (s_pick (vb rfl (decide_eq_true (by omega))) rfl ?_)
      refine l_nil ?_
      repeat (with_reducible first | refine c_seq ?_ | refine c_block ?_ | refine c_skip ?_ | refine x_then ?_ | refine x_block ?_)
      refine c_yes rfl (decide_eq_true (by omega)) ?_
      repeat (with_reducible first | refine c_seq ?_ | refine c_block ?_ | refine c_skip ?_ | refine x_then ?_ | refine x_block ?_)
      obtain ⟨x, hx⟩ : ∃ x, x = l.getD i fun _ => 0 := ⟨_, rfl⟩
      have hxb := hl x (by rw [hx]; exact getD_mem l i _ hlt)
      repeat (with_reducible first | refine c_seq ?_ | refine c_block ?_ | refine c_skip ?_ | refine x_then ?_ | refine x_block ?_)
      refine c_reg ?_
      refine l_pure rfl (s_move  h0 ?_)
      refine l_pure rfl (s_move  h4 ?_)
      refine l_pure rfl (s_ixr (i := i)  rfl rfl (hv.below hS.below) (by omega) (by first | omega | (simp; done) | (simp; omega)) si_35 ?_)
      refine l_read rfl (s_lde (i := i) (fun _ => 0)  rfl vi_46 (hv.below hS.below) (by first | omega | (simp; done) | (simp; omega)) rfl rfl (.inl rfl) ?_)
      refine l_heavy rfl (s_alloc  vi_46 hS ?_)
      intro b5 wz1 hS hBz1
      refine l_heavy rfl (s_sta (k := 0)  rfl rfl vi_46 hS rfl rfl rfl (Nat.le_of_ble_eq_true rfl) rfl ?_)
      intro wz2 hS
      refine l_nil ?_
      repeat (with_reducible first | refine c_seq ?_ | refine c_block ?_ | refine c_skip ?_ | refine x_then ?_ | refine x_block ?_)
      rw [← hx] at hS
      replace hS : St w _ ([(b5, 46, Kr .u16 (tab 5 x))] ++ LO) := hS
      have hx0 := hxb 0 (by decide)
      have hx1 := hxb 1 (by decide)
      have hx2 := hxb 2 (by decide)
      have hx3 := hxb 3 (by decide)
      have hx4 := hxb 4 (by decide)
      repeat (with_reducible first | refine c_seq ?_ | refine c_block ?_ | refine c_skip ?_ | refine x_then ?_ | refine x_block ?_)
      refine c_forget (fun ρ' => ρ' 0 = v ∧ ρ' 4 = .int .i64 i ∧ ρ' 3 = sO ∧ ρ' 5 = .pointer (some ⟨b5, 0, none⟩) ∧ True) ⟨h0, h4, h3, rfl, trivial⟩ ?_
      rintro ρk3 ⟨hk3_0, hk3_4, hk3_3, hk3_5, -⟩
      repeat (with_reducible first | refine c_seq ?_ | refine c_block ?_ | refine c_skip ?_ | refine x_then ?_ | refine x_block ?_)
      refine c_draw [(0, .pure), (1, .read), (2, .pure), (3, .pure), (4, .pure), (5, .read), (6, .pure), (7, .pure), (8, .pure), (9, .pure)] (by kernel_rfl) (by kernel_rfl) hS ?_
      intro wz4 hS hBz4
      refine w_pure rfl rfl (s_ixg (n := 5) (i := 0) hk3_5 rfl rfl (by decide) Tryd.underlying46 vi_45 ?_)
      refine w_read rfl rfl (s_ldk (k := 0) (i := 0)  rfl vi_45 hS rfl rfl (by rw [tab_len]; decide) ?_)
      refine w_pure rfl rfl (s_rem  rfl rfl (by omega) (r := ((x 0 % 4 : Nat) : Int)) (by exact rem_nat (x 0) 4) ?_)
      refine w_pure rfl rfl (s_conv  rfl Tryd.underlying3 ⟨_, Tryd.underlying45⟩ (r := ((x 0 % 4 : Nat) : Int)) (by exact wr_i64 _ ⟨rfl, by omega, by omega⟩) ?_)
      refine w_pure rfl rfl (s_ixg (n := 5) (i := 1) hk3_5 rfl rfl (by decide) Tryd.underlying46 vi_45 ?_)
      refine w_read rfl rfl (s_ldk (k := 0) (i := 1)  rfl vi_45 hS rfl rfl (by rw [tab_len]; decide) ?_)
      refine w_pure rfl rfl (s_rem  rfl rfl (by omega) (r := ((x 1 % 3 : Nat) : Int)) (by exact rem_nat (x 1) 3) ?_)
      refine w_pure rfl rfl (s_conv  rfl Tryd.underlying3 ⟨_, Tryd.underlying45⟩ (r := ((x 1 % 3 : Nat) : Int)) (by exact wr_i64 _ ⟨rfl, by omega, by omega⟩) ?_)
      refine w_pure rfl rfl (s_asg  rfl ?_)
      refine w_pure rfl rfl (s_asg  rfl ?_)
      refine w_end ?_
      repeat (with_reducible first | refine c_seq ?_ | refine c_block ?_ | refine c_skip ?_ | refine x_then ?_ | refine x_block ?_)
      refine c_forget (fun ρ' => ρ' 0 = v ∧ ρ' 4 = .int .i64 i ∧ ρ' 3 = sO ∧ ρ' 5 = .pointer (some ⟨b5, 0, none⟩) ∧ ρ' 6 = .int .i64 ((x 0 % 4 : Nat) : Int) ∧ ρ' 7 = .int .i64 ((x 1 % 3 : Nat) : Int) ∧ True) ⟨hk3_0, hk3_4, hk3_3, hk3_5, rfl, rfl, trivial⟩ ?_
      rintro ρk5 ⟨hk5_0, hk5_4, hk5_3, hk5_5, hk5_6, hk5_7, -⟩
      obtain ⟨c, hc⟩ : ∃ c, c = creOf (x 0 % 4) (x 1 % 3) := ⟨_, rfl⟩
      repeat (with_reducible first | refine c_seq ?_ | refine c_block ?_ | refine c_skip ?_ | refine x_then ?_ | refine x_block ?_)
      refine c_reg ?_
      refine l_pure rfl (s_move  hk5_7 ?_)
      refine l_pure rfl (s_move  hk5_6 ?_)
      refine l_pure rfl (s_geq  rfl rfl ?_)
      refine l_nil ?_
      repeat (with_reducible first | refine c_seq ?_ | refine c_skip ?_ | refine x_then ?_ | refine x_block ?_)
      refine c_cut1 (fun ρ w' => ρ 0 = v ∧ ρ 4 = .int .i64 i ∧ ρ 3 = sO ∧ ρ 5 = .pointer (some ⟨b5, 0, none⟩) ∧ ρ 6 = .int .i64 ((x 0 % 4 : Nat) : Int) ∧ ρ 7 = .int .i64 c ∧ St w w' ([(b5, 46, Kr .u16 (tab 5 x))] ++ LO)) ?_ ?_
      · repeat (with_reducible first | refine c_seq ?_ | refine c_block ?_ | refine c_skip ?_ | refine x_then ?_ | refine x_block ?_)
        by_cases hle : x 0 % 4 ≤ x 1 % 3
        · have hc2 : c = x 1 % 3 + 1 := by rw [hc]; exact if_pos hle
          refine c_yes rfl (decide_eq_true (by omega)) ?_
          repeat (with_reducible first | refine c_seq ?_ | refine c_block ?_ | refine c_skip ?_ | refine x_then ?_ | refine x_block ?_)
          refine c_reg ?_
          refine l_pure rfl (s_move  hk5_7 ?_)
          refine l_pure rfl (s_add  rfl rfl (IntWalk.i64_in _ (by omega)) ?_)
          refine l_pure rfl (s_asg  rfl ?_)
          refine l_nil ?_
          repeat (with_reducible first | refine c_seq ?_ | refine c_block ?_ | refine c_skip ?_ | refine x_then ?_ | refine x_block ?_)
          exact ⟨_, rfl, by assumption, by assumption, by assumption, by assumption, by assumption, vi rfl (by omega), hS⟩
        · have hc2 : c = x 1 % 3 := by rw [hc]; exact if_neg hle
          refine c_no rfl (decide_eq_false (by omega)) ?_
          repeat (with_reducible first | refine c_seq ?_ | refine c_block ?_ | refine c_skip ?_ | refine x_then ?_ | refine x_block ?_)
          exact ⟨_, rfl, by assumption, by assumption, by assumption, by assumption, by assumption, by rw [hc2]; assumption, hS⟩
      clear hS
      rintro ρ w3 ⟨h0, h4, h3, h5, h6, h7, hS⟩
      repeat (with_reducible first | refine c_seq ?_ | refine c_block ?_ | refine c_skip ?_ | refine x_then ?_ | refine x_block ?_)
      refine c_cut1 (fun ρ w' => ρ 0 = v ∧ ρ 4 = .int .i64 i ∧ ρ 3 = sO ∧ ρ 5 = .pointer (some ⟨b5, 0, none⟩) ∧ ∃ b8, ρ 8 = .pointer (some ⟨b8, 0, none⟩) ∧
        St w w' ([(b8, 28, encOb ⟨((x 0 % 4 : Nat) : Int), (c : Int), amR (x 2), ((x 3 % 60 : Nat) : Int), 0, decide (((x 4 % 8 : Nat) : Int) = 7)⟩), (b5, 46, Kr .u16 (tab 5 x))] ++ LO)) ?_ ?_
      · repeat (with_reducible first | refine c_seq ?_ | refine c_block ?_ | refine c_skip ?_ | refine x_then ?_ | refine x_block ?_)
        refine c_float 14 [(0, .pure), (1, .pure), (2, .pure), (3, .read), (5, .pure), (6, .read), (7, .pure), (8, .pure), (9, .pure), (10, .read), (11, .pure), (12, .pure), (4, .grow), (13, .pure), (15, .free)] (by kernel_rfl) (by kernel_rfl) hS ?_
        intro wz6 hS hBz6
        refine wx_pure (by kernel_rfl) rfl rfl (s_move  h6 ?_)
        refine wx_pure (by kernel_rfl) rfl rfl (s_move  h7 ?_)
        refine wx_pure (by kernel_rfl) rfl rfl (s_ixg (n := 5) (i := 2) h5 rfl rfl (by decide) Tryd.underlying46 vi_45 ?_)
        refine wx_read (by kernel_rfl) rfl rfl (s_ldk (k := 0) (i := 2)  rfl vi_45 hS rfl rfl (by rw [tab_len]; decide) ?_)
        refine wx_pure (by kernel_rfl) rfl rfl (s_ixg (n := 5) (i := 3) h5 rfl rfl (by decide) Tryd.underlying46 vi_45 ?_)
        refine wx_read (by kernel_rfl) rfl rfl (s_ldk (k := 0) (i := 3)  rfl vi_45 hS rfl rfl (by rw [tab_len]; decide) ?_)
        refine wx_pure (by kernel_rfl) rfl rfl (s_rem  rfl rfl (by omega) (r := ((x 3 % 60 : Nat) : Int)) (by exact rem_nat (x 3) 60) ?_)
        refine wx_pure (by kernel_rfl) rfl rfl (s_conv  rfl Tryd.underlying3 ⟨_, Tryd.underlying45⟩ (r := ((x 3 % 60 : Nat) : Int)) (by exact wr_i64 _ ⟨rfl, by omega, by omega⟩) ?_)
        refine wx_pure (by kernel_rfl) rfl rfl (s_ixg (n := 5) (i := 4) h5 rfl rfl (by decide) Tryd.underlying46 vi_45 ?_)
        refine wx_read (by kernel_rfl) rfl rfl (s_ldk (k := 0) (i := 4)  rfl vi_45 hS rfl rfl (by rw [tab_len]; decide) ?_)
        refine wx_pure (by kernel_rfl) rfl rfl (s_rem  rfl rfl (by omega) (r := ((x 4 % 8 : Nat) : Int)) (by exact rem_nat (x 4) 8) ?_)
        refine wx_pure (by kernel_rfl) rfl rfl (s_eql  rfl rfl ?_)
        refine wx_fork rfl rfl ?_ ?_
        · refine w_grow rfl rfl (s_alloc  vi_28 hS ?_)
          intro b8 wz7 hS hBz7
          refine ⟨hBz7, ?_⟩
          refine w_grow rfl rfl (s_call Tryd.call35 rfl (Amount_ok (x 2) _ hx2) ?_)
          rintro r w4 ⟨rfl, hB4⟩
          refine ⟨hB4, ?_⟩
          replace hS := hS.grow hB4
          refine w_pure rfl rfl (s_build  rfl (built_Ob4 _ _ _ _ _) ?_)
          refine w_free rfl rfl (s_sta (k := 0)  rfl rfl vi_28 hS rfl rfl rfl (Nat.le_of_ble_eq_true rfl) rfl ?_)
          intro wz8 hS
          refine w_end ?_
          repeat (with_reducible first | refine c_seq ?_ | refine c_block ?_ | refine c_skip ?_ | refine x_then ?_ | refine x_block ?_)
          replace hS : St w _ ([(b8, 28, encOb ⟨((x 0 % 4 : Nat) : Int), (c : Int), amR (x 2), ((x 3 % 60 : Nat) : Int), 0, decide (((x 4 % 8 : Nat) : Int) = 7)⟩), (b5, 46, Kr .u16 (tab 5 x))] ++ LO) := hS
          exact ⟨_, rfl, h0, h4, h3, h5, b8, rfl, hS⟩
        · refine s_call Tryd.call35 rfl (Amount_ok (x 2) _ hx2) ?_
          rintro r w4 ⟨rfl, hB4⟩
          refine ⟨hB4, ?_⟩
          replace hS := hS.grow hB4
          refine wx_pure (by kernel_rfl) rfl rfl (s_build  rfl (built_Ob4 _ _ _ _ _) ?_)
          refine wx_now (by kernel_rfl) ?_
          refine w_grow rfl rfl (s_alloc  vi_28 hS ?_)
          intro b8 wz9 hS hBz9
          refine ⟨hBz9, ?_⟩
          refine w_free rfl rfl (s_sta (k := 0)  rfl rfl vi_28 hS rfl rfl rfl (Nat.le_of_ble_eq_true rfl) rfl ?_)
          intro wz10 hS
          refine w_end ?_
          repeat (with_reducible first | refine c_seq ?_ | refine c_block ?_ | refine c_skip ?_ | refine x_then ?_ | refine x_block ?_)
          replace hS : St w _ ([(b8, 28, encOb ⟨((x 0 % 4 : Nat) : Int), (c : Int), amR (x 2), ((x 3 % 60 : Nat) : Int), 0, decide (((x 4 % 8 : Nat) : Int) = 7)⟩), (b5, 46, Kr .u16 (tab 5 x))] ++ LO) := hS
          exact ⟨_, rfl, h0, h4, h3, h5, b8, rfl, hS⟩
      clear hS h0 h4 h3 h5 h6 h7
      rintro ρ w4 ⟨h0, h4, h3, h5, b8, h8, hS⟩
      repeat (with_reducible first | refine c_seq ?_ | refine c_block ?_ | refine c_skip ?_ | refine x_then ?_ | refine x_block ?_)
      have hq50 : x 4 / 8 % 50 < 50 := Nat.mod_lt _ (by decide)
      repeat (with_reducible first | refine c_seq ?_ | refine c_block ?_ | refine c_skip ?_ | refine x_then ?_ | refine x_block ?_)
      refine c_draw [(0, .pure), (1, .read), (2, .pure), (3, .read), (4, .pure), (5, .pure), (6, .pure), (8, .pure), (9, .read), (10, .pure), (7, .grow), (11, .pure), (12, .read), (13, .pure), (14, .pure), (15, .free)] (by kernel_rfl) (by kernel_rfl) hS ?_
      intro wz11 hS hBz11
      refine w_pure rfl rfl (s_fld  h8 fo_28_3 ?_)
      refine w_read rfl rfl (s_ldo (k := 0)  rfl vi_3 hS rfl rfl rfl (.inr rfl) ?_)
      refine w_pure rfl rfl (s_ixg (n := 5) (i := 4) h5 rfl rfl (by decide) Tryd.underlying46 vi_45 ?_)
      refine w_read rfl rfl (s_ldk (k := 1) (i := 4)  rfl vi_45 hS rfl rfl (by rw [tab_len]; decide) ?_)
      refine w_pure rfl rfl (s_quo  rfl rfl (by omega) (quo_u16 (x 4) 8 hx4) ?_)
      refine w_pure rfl rfl (s_rem  rfl rfl (by omega) (r := ((x 4 / 8 % 50 : Nat) : Int)) (by exact rem_nat (x 4 / 8) 50) ?_)
      refine w_pure rfl rfl (s_conv  rfl Tryd.underlying3 ⟨_, Tryd.underlying45⟩ (r := ((x 4 / 8 % 50 : Nat) : Int)) (by exact wr_i64 _ ⟨rfl, by omega, by omega⟩) ?_)
      refine w_pure rfl rfl (s_ixg (n := 5) (i := 4) h5 rfl rfl (by decide) Tryd.underlying46 vi_45 ?_)
      refine w_read rfl rfl (s_ldk (k := 1) (i := 4)  rfl vi_45 hS rfl rfl (by rw [tab_len]; decide) ?_)
      refine w_pure rfl rfl (s_rem  rfl rfl (by omega) (r := ((x 4 % 4 : Nat) : Int)) (by exact rem_nat (x 4) 4) ?_)
      refine w_grow rfl rfl (s_bsl (vs := [.int .i64 0, .int .i64 0, .int .i64 0, .int .i64 ((x 4 / 8 % 50 : Nat) : Int)])  rfl si_63 rfl (by decide) (by decide) (by decide) (by simp [Value.cells]) rfl hS ?_)
      intro b57 wz12 hS hBz12
      refine ⟨hBz12, ?_⟩
      refine w_pure rfl rfl (s_ixo (i := x 4 % 4)  rfl rfl (by omega) (by first | omega | (simp; done) | (simp; omega)) si_63 ?_)
      refine w_read rfl rfl (s_ldc (k := 0)  rfl vi_3 hS rfl (sel4 (x 4 / 8 % 50) (x 4 % 4) (Nat.mod_lt _ (by decide))) ?_)
      refine w_pure rfl rfl (s_add  rfl rfl (r := ((x 3 % 60 : Nat) : Int) + ((acqD (x 4) : Nat) : Int)) (by exact wr_i64 _ ⟨rfl, by unfold acqD; split <;> omega, by unfold acqD; split <;> omega⟩) ?_)
      refine w_pure rfl rfl (s_fld  h8 fo_28_4 ?_)
      refine w_free rfl rfl (s_stc (k := 1)  rfl rfl vi_3 hS rfl (Nat.le_of_ble_eq_true rfl) rfl ?_)
      intro wz13 hS
      refine w_end ?_
      repeat (with_reducible first | refine c_seq ?_ | refine c_block ?_ | refine c_skip ?_ | refine x_then ?_ | refine x_block ?_)
      have e2 : obsL l i ++ [obOf x] = obsL l (i + 1) := by rw [obsL_succ l hlt, ← hx]
      replace hS : St w _ ([(b57, 3, [.int .i64 0, .int .i64 0, .int .i64 0, .int .i64 ((x 4 / 8 % 50 : Nat) : Int)]), (b8, 28, encOb ⟨((x 0 % 4 : Nat) : Int), (c : Int), amR (x 2), ((x 3 % 60 : Nat) : Int), ((x 3 % 60 : Nat) : Int) + ((acqD (x 4) : Nat) : Int), decide (((x 4 % 8 : Nat) : Int) = 7)⟩), (b5, 46, Kr .u16 (tab 5 x))] ++ LO) := hS
      rw [hc] at hS
      replace hS : St w _ ([(b57, 3, [.int .i64 0, .int .i64 0, .int .i64 0, .int .i64 ((x 4 / 8 % 50 : Nat) : Int)]), (b8, 28, encOb (obOf x)), (b5, 46, Kr .u16 (tab 5 x))] ++ LO) := hS
      repeat (with_reducible first | refine c_seq ?_ | refine c_block ?_ | refine c_skip ?_ | refine x_then ?_ | refine x_block ?_)
      refine c_forget (fun ρ' => ρ' 0 = v ∧ ρ' 4 = .int .i64 i ∧ ρ' 3 = sO ∧ ρ' 8 = .pointer (some ⟨b8, 0, none⟩) ∧ True) ⟨h0, h4, h3, h8, trivial⟩ ?_
      rintro ρk14 ⟨hk14_0, hk14_4, hk14_3, hk14_8, -⟩
      repeat (with_reducible first | refine c_seq ?_ | refine c_block ?_ | refine c_skip ?_ | refine x_then ?_ | refine x_block ?_)
      refine c_reg ?_
      refine l_pure rfl (s_move  hk14_3 ?_)
      refine l_read rfl (s_ldo (k := 1)  hk14_8 vi_28 hS rfl rfl rfl (.inl rfl) ?_)
      refine l_heavy rfl (s_bsl (vs := [aggOb (obOf x)])  rfl si_22 rfl (by decide) (by decide) (by decide) (by simp [Value.cells, aggOb]) rfl hS ?_)
      intro bx wz15 hS hBz15
      refine l_heavy rfl (s_appl [obOf x]  rfl rfl si_22 (by decide) hG hS rfl rfl encOb_len (encOb_one [obOf x]) (by first | omega | (simp only [List.length_cons, List.length_nil]; omega)) (by first | omega | (simp only [List.length_cons, List.length_nil]; omega)) ?_)
      intro va16 La16 wa16 hG hS hga16
      refine l_pure rfl (s_asg  rfl ?_)
      refine l_nil ?_
      repeat (with_reducible first | refine c_seq ?_ | refine c_block ?_ | refine c_skip ?_ | refine x_then ?_ | refine x_block ?_)
      rw [e2] at hG
      repeat (with_reducible first | refine c_seq ?_ | refine c_block ?_ | refine c_skip ?_ | refine x_then ?_ | refine x_block ?_)
      refine c_reg ?_
      refine l_pure rfl (s_move  hk14_4 ?_)
      refine l_pure rfl (s_add  rfl rfl (IntWalk.i64_in _ (by omega)) ?_)
      refine l_pure rfl (s_asg  rfl ?_)
      refine l_nil ?_
      repeat (with_reducible first | refine c_seq ?_ | refine c_block ?_ | refine c_skip ?_ | refine x_then ?_ | refine x_block ?_)
      exact ⟨i + 1, _, rfl, ⟨hlt, hlt16, by assumption, vi rfl (by omega), ⟨_, _, rfl, hG, hS.drop (List.sublist_append_right [_, _, _] _)⟩⟩, by omega⟩
    · repeat (with_reducible first | refine c_seq ?_ | refine c_block ?_ | refine c_skip ?_ | refine x_then ?_ | refine x_block ?_)
      refine c_reg ?_
      refine l_pure rfl (s_move  h4 ?_)
      refine l_pure rfl (s_move  h0 ?_)
      refine l_pure rfl (s_lenr  rfl (hv.below hS.below) ⟨_, Tryd.underlying35⟩ ?_)
      refine l_pure rfl (s_lss  rfl rfl ?_)
      refine l_pure rfl (s_move  rfl ?_)
      refine l_pure (gd_yes 13 (by kernel_rfl) rfl (decide_eq_true (by omega))) (s_move  h4 ?_)
      refine l_pure (gd_yes 13 (by kernel_rfl) rfl (decide_eq_true (by omega))) (s_lss  rfl rfl ?_)
      refine l_pure rfl (s_pick (vb rfl (decide_eq_true (by omega))) rfl ?_)
      refine l_nil ?_
      repeat (with_reducible first | refine c_seq ?_ | refine c_block ?_ | refine c_skip ?_ | refine x_then ?_ | refine x_block ?_)
      refine c_no rfl (decide_eq_false (by omega)) ?_
      repeat (with_reducible first | refine c_seq ?_ | refine c_block ?_ | refine c_skip ?_ | refine x_then ?_ | refine x_block ?_)
      refine c_exit ?_
      repeat (with_reducible first | refine x_then_exit ?_ | refine x_block_exit ?_ | refine x_block_pass rfl ?_)
      repeat (with_reducible first | refine c_seq ?_ | refine c_block ?_ | refine c_skip ?_ | refine x_then ?_ | refine x_block ?_)
      obtain rfl : i = 16 := by omega
      repeat (with_reducible first | refine c_seq ?_ | refine c_block ?_ | refine c_skip ?_ | refine x_then ?_ | refine x_block ?_)
      refine c_reg ?_
      refine l_pure rfl (s_move  h3 ?_)
      refine l_pure rfl (s_asg  rfl ?_)
      refine l_nil ?_
      repeat (with_reducible first | refine c_seq ?_ | refine c_block ?_ | refine c_skip ?_ | refine x_then ?_ | refine x_block ?_)
      refine c_ret ?_
      repeat (with_reducible first | refine x_then_ret ?_ | refine x_block_ret ?_)
      refine r_one rfl rfl ?_
      exact ⟨LO, hG, hS⟩
  · repeat (with_reducible first | refine c_seq ?_ | refine c_block ?_ | refine c_skip ?_ | refine x_then ?_ | refine x_block ?_)
    refine c_reg ?_
    refine l_pure rfl (s_move  h4 ?_)
    refine l_pure rfl (s_move  h0 ?_)
    refine l_pure rfl (s_lenr  rfl (hv.below hS.below) ⟨_, Tryd.underlying35⟩ ?_)
    refine l_pure rfl (s_lss  rfl rfl ?_)
    refine l_pure rfl (s_move  rfl ?_)
    refine l_no (gno_yes 13 (by kernel_rfl) rfl (decide_eq_false (by omega))) ?_
    refine l_no (gno_yes 13 (by kernel_rfl) rfl (decide_eq_false (by omega))) ?_
    refine l_pure rfl (s_pick (vb rfl (decide_eq_false (by omega))) rfl ?_)
    refine l_nil ?_
    repeat (with_reducible first | refine c_seq ?_ | refine c_block ?_ | refine c_skip ?_ | refine x_then ?_ | refine x_block ?_)
    refine c_no rfl (rfl) ?_
    repeat (with_reducible first | refine c_seq ?_ | refine c_block ?_ | refine c_skip ?_ | refine x_then ?_ | refine x_block ?_)
    refine c_exit ?_
    repeat (with_reducible first | refine x_then_exit ?_ | refine x_block_exit ?_ | refine x_block_pass rfl ?_)
    repeat (with_reducible first | refine c_seq ?_ | refine c_block ?_ | refine c_skip ?_ | refine x_then ?_ | refine x_block ?_)
    have e : obsL l i = obsL l 16 := by unfold obsL; rw [List.take_of_length_le (by omega), List.take_of_length_le (by omega)]
    rw [e] at hG
    repeat (with_reducible first | refine c_seq ?_ | refine c_block ?_ | refine c_skip ?_ | refine x_then ?_ | refine x_block ?_)
    refine c_reg ?_
    refine l_pure rfl (s_move  h3 ?_)
    refine l_pure rfl (s_asg  rfl ?_)
    refine l_nil ?_
    repeat (with_reducible first | refine c_seq ?_ | refine c_block ?_ | refine c_skip ?_ | refine x_then ?_ | refine x_block ?_)
    refine c_ret ?_
    repeat (with_reducible first | refine x_then_ret ?_ | refine x_block_ret ?_)
    refine r_one rfl rfl ?_
    exact ⟨LO, hG, hS⟩
end Go.Proofs.YtdafaibhiobpaaaDoor
