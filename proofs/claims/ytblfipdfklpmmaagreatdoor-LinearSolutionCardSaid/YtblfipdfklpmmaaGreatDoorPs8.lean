/-
  Part 8 of the texts that the law's proof is made of: the framework and the walks.
-/
import Derived.Test.YtblfipdfklpmmaaGreatDoorPs7
namespace Go.Sx
open Go Go.RowKit Go.Proofs.YtblfipdfklpmmaaGreatDoor
def mD {α : Type} (enc : α → List Value) (t tS : TypeId) (bo : Nat) (cs : List Value) (R : List (Rw α)) (H : List Blk) : List Blk := (bo, tS, cs) :: (R.map (Rw.blk enc t) ++ H)
section
variable {P : Program} {N : Nat} {ρ : Nat → Value} {w0 w w' : World} {d : Option Tmp} {ty : TypeId} {pos : String} {aft : Array Edge} {g : Option (Nat × Bool)} {x y z : Operand} {t t' e : TypeId} {H : List Blk} {k b o : Nat} {v : Value} {K : Value → Prop} {K2 : Value → World → Prop}
  {α : Type} {enc : α → List Value} {size : Nat} {R : List (Rw α)} {tR tS : TypeId} {bo : Nat} {cs : List Value} {zz : List Value}
theorem mD_at {i : Nat} (hi : i < R.length) : (mD enc tR tS bo cs R H)[i + 1]? = some ((R.getD i zRw).b, tR, (R.getD i zRw).X.flatMap enc ++ (R.getD i zRw).sp) := by
  unfold mD
  rw [List.getElem?_cons_succ, List.getElem?_append_left (by rw [List.length_map]; exact hi), List.getElem?_map, List.getElem?_eq_getElem hi, getD_ge R zRw hi]; rfl
theorem mD_put {i : Nat} (j : Nat) (u : α) (hi : i < R.length) :
    (mD enc tR tS bo cs R H).set (i + 1) ((R.getD i zRw).b, tR, ((R.getD i zRw).X.set j u).flatMap enc ++ (R.getD i zRw).sp) = mD enc tR tS bo cs (R.set i ((R.getD i zRw).put j u)) H := by
  unfold mD
  rw [List.set_cons_succ, List.set_append_left _ _ (by rw [List.length_map]; exact hi), List.map_set]; rfl
theorem mD_app (L : List Blk) : mD enc tR tS bo cs R H ++ L = mD enc tR tS bo cs R (H ++ L) := by unfold mD; rw [List.cons_append, List.append_assoc]
theorem s_mrowD (pre : List Blk) {i : Nat} (hx : ev N ρ x = .pointer (some ⟨bo, o, none⟩)) (ht : vinfo P t = some (1, false, zz)) (hS : St w0 w (pre ++ mD enc tR tS bo cs R H)) (ho : o = i) (hv : cs[i]? = some v) (h : K v) : Read1 P N ρ w ⟨d, .load t x, ty, pos, aft, g⟩ K := by
  subst ho
  exact s_ldc (k := pre.length + 0) hx ht hS (by rw [preAt]; rfl) hv h
theorem s_mstD (pre : List Blk) {i j : Nat} {agg : Bool} (u : α) (hu : ∀ x, (enc x).length = size) (hx : ev N ρ x = .pointer (some ⟨b, o, none⟩)) (hy : ev N ρ y = v) (ht : vinfo P t = some (size, agg, zz)) (hS : St w0 w (pre ++ mD enc tR tS bo cs R H)) (hb : (R.getD i zRw).b = b) (hi : i < R.length)
    (ho : o = j * size) (hj : j < (R.getD i zRw).X.length) (hv : v.cells.toList = enc u) (h1 : (enc u).all (·.oneCell') = true) (h : ∀ w', St w0 w' (pre ++ mD enc tR tS bo cs (R.set i ((R.getD i zRw).put j u)) H) → K2 undef w') : Hup1 P N ρ w ⟨d, .store t x y, ty, pos, aft, g⟩ K2 := by
  subst hb
  refine s_stS (k := pre.length + (i + 1)) u hu hx hy ht hS (by rw [preAt]; exact mD_at hi) ho hj hv h1 fun w' hS' => ?_
  rw [preSet, mD_put j u hi] at hS'
  exact h w' hS'
theorem MatG.slD {n m : Nat} {f : Nat → Nat → α} (pre : List Blk) (h : MatG R n m f) (hS : St w0 w (pre ++ mD enc tR tS bo cs R H)) (hu : ∀ x, (enc x).length = size) {i : Nat} (hi : i < n) : Sl enc size w (R.getD i zRw).v (tab m (f i)) := by
  have hl : i < R.length := by rw [h.len]; exact hi
  have := hS.slg (k := pre.length + (i + 1)) (by rw [preAt]; exact mD_at hl) hu (n := m) (cap := (R.getD i zRw).cap) (by rw [h.xlen hi]; omega) (h.cap i hi).1 (h.cap i hi).2
  rwa [h.row i hi, List.take_of_length_le (by rw [tab_len]; omega), ← h.v hi] at this
theorem MatG.mtsD {n m cap : Nat} {f : Nat → Nat → α} {so : List Value} (pre : List Blk) (h : MatG R n m f) (hS : St w0 w (pre ++ mD enc tR tS bo (R.map Rw.v ++ so) R H)) (hu : ∀ x, (enc x).length = size) (h1 : n ≤ cap) (h2 : cap ≤ 9223372036854775807) :
    Mts enc size w (.slice (some ⟨bo, 0, none⟩) n cap) (tabM n m f) (R.map Rw.v) := by
  have hk : (pre ++ mD enc tR tS bo (R.map Rw.v ++ so) R H)[pre.length + 0]? = some (bo, tS, (R.map Rw.v).flatMap enV ++ so) := by rw [preAt, enV_flat]; rfl
  have hsl := hS.slg hk (fun _ => rfl) (n := n) (cap := cap) (by rw [List.length_map, h.len]; omega) h1 h2
  rw [List.take_of_length_le (by rw [List.length_map, h.len]; omega)] at hsl
  refine ⟨by rw [List.length_map, h.len, tabM_len], hsl, fun i hi => ?_⟩
  rw [tabM_len] at hi
  rw [tabM_row f hi, List.getD_eq_getElem?_getD, mB_row (by rw [h.len]; exact hi)]
  exact h.slD pre hS hu hi
end
end Go.Sx
namespace Go.Proofs.YtblfipdfklpmmaaGreatDoor
open Go Go.RowKit Go.Sx
theorem rshape_ok (v : Value) (A : List (List RR)) (vs : List Value) (w : World) (hA : Mts encR 3 w v A vs) :
    Ret Tryz.prog 38 #[v] w fun r w' => r = .int .i64 (shpE A) ∧ Below w.heap.size w w' := by
  have hS := St.init w
  have hmx := hA.sl.maxLen
  have hlen := hA.len
  have hc0 : colsA A = (A.getD 0 []).length := rfl
  refine enter Tryz.func38 rfl Tryz.ntmps38 rfl ?_
  repeat (with_reducible first | refine c_seq ?_ | refine c_block ?_ | refine c_skip ?_ | refine x_then ?_ | refine x_block ?_)
  refine c_reg ?_
  refine l_pure rfl (s_asg  rfl ?_)
  refine l_nil ?_
  repeat (with_reducible first | refine c_seq ?_ | refine c_block ?_ | refine c_skip ?_ | refine x_then ?_ | refine x_block ?_)
  refine c_reg ?_
  refine l_pure rfl (s_move  rfl ?_)
  refine l_pure rfl (s_lenr  rfl (hA.sl.below hS.below) ⟨_, Tryz.underlying22⟩ ?_)
  refine l_pure rfl (s_eql  rfl rfl ?_)
  refine l_nil ?_
  repeat (with_reducible first | refine c_seq ?_ | refine c_block ?_ | refine c_skip ?_ | refine x_then ?_ | refine x_block ?_)
  by_cases h0 : A.length = 0
  · have he : shpE A = 4 := if_pos (.inl h0)
    rw [he]
    refine c_yes rfl (decide_eq_true (by omega)) ?_
    repeat (with_reducible first | refine c_seq ?_ | refine c_block ?_ | refine c_skip ?_ | refine x_then ?_ | refine x_block ?_)
    refine c_reg ?_
    refine l_pure rfl (s_asg  rfl ?_)
    refine l_nil ?_
    repeat (with_reducible first | refine c_seq ?_ | refine c_block ?_ | refine c_skip ?_ | refine x_then ?_ | refine x_block ?_)
    refine c_ret ?_
    repeat (with_reducible first | refine x_then_ret ?_ | refine x_block_ret ?_)
    refine r_one rfl rfl ?_
    exact ⟨rfl, hS.below⟩
  have hr0 := hA.row 0 (by omega)
  have hm0 := hr0.maxLen
  refine c_no rfl (decide_eq_false (by omega)) ?_
  repeat (with_reducible first | refine c_seq ?_ | refine c_block ?_ | refine c_skip ?_ | refine x_then ?_ | refine x_block ?_)
  refine c_reg ?_
  refine l_pure rfl (s_asg  rfl ?_)
  refine l_nil ?_
  repeat (with_reducible first | refine c_seq ?_ | refine c_skip ?_ | refine x_then ?_ | refine x_block ?_)
  refine c_cut1 (fun ρ w' => colsA A ≠ 0 ∧ evenA A = true ∧ ρ 0 = v ∧ St w w' []) ?_ ?_
  · repeat (with_reducible first | refine c_seq ?_ | refine c_block ?_ | refine c_skip ?_ | refine x_then ?_ | refine x_block ?_)
    refine c_loop (σ := Nat) (fun i ρ w' => i ≤ A.length ∧ (0 < i → colsA A ≠ 0) ∧ (A.take i).all (fun r => decide (r.length = colsA A)) = true ∧ ρ 0 = v ∧ ρ 3 = .int .i64 i ∧ St w w' []) (fun i => A.length - i) 0
      ⟨Nat.zero_le _, fun h => absurd h (Nat.lt_irrefl _), by simp, rfl, rfl, hS⟩ ?_
    clear hS
    rintro i ρ w2 ⟨hi, hcz, hall, h0', h3, hS⟩
    repeat (with_reducible first | refine c_seq ?_ | refine c_block ?_ | refine c_skip ?_ | refine x_then ?_ | refine x_block ?_)
    refine c_reg ?_
    refine l_pure rfl (s_move  h3 ?_)
    refine l_pure rfl (s_move  h0' ?_)
    refine l_pure rfl (s_lenr  rfl (hA.sl.below hS.below) ⟨_, Tryz.underlying22⟩ ?_)
    refine l_pure rfl (s_lss  rfl rfl ?_)
    refine l_nil ?_
    repeat (with_reducible first | refine c_seq ?_ | refine c_block ?_ | refine c_skip ?_ | refine x_then ?_ | refine x_block ?_)
    by_cases hlt : i < A.length
    · refine c_yes rfl (decide_eq_true (by omega)) ?_
      repeat (with_reducible first | refine c_seq ?_ | refine c_block ?_ | refine c_skip ?_ | refine x_then ?_ | refine x_block ?_)
      have hri := hA.row i hlt
      have hmi := hri.maxLen
      have hd : (A.getD i []).length = colsA A ↔ decide ((A.getD i []).length = colsA A) = true := (decide_eq_true_iff).symm
      obtain ⟨st1, st2⟩ := all_step (fun r : List RR => decide (r.length = colsA A)) A [] hlt hall
      by_cases hz : (A.getD i []).length = 0
      · have he : shpE A = 4 := by
          unfold shpE
          by_cases q : A.length = 0 ∨ colsA A = 0
          · rw [if_pos q]
          · rw [if_neg q, if_pos]
            exact st2 (decide_eq_false (by omega))
        rw [he]
        repeat (with_reducible first | refine c_seq ?_ | refine c_block ?_ | refine c_skip ?_ | refine x_then ?_ | refine x_block ?_)
        refine c_draw [(0, .pure), (1, .pure), (2, .pure), (3, .read), (4, .pure), (5, .pure), (6, .pure), (7, .pure), (8, .pure), (9, .pure), (10, .read), (11, .pure), (12, .pure), (13, .pure), (14, .read), (15, .pure), (16, .pure), (17, .pure)] (by kernel_rfl) (by kernel_rfl) hS ?_
        intro wz1 hS hBz1
        refine w_pure rfl rfl (s_move  h0' ?_)
        refine w_pure rfl rfl (s_move  h3 ?_)
        refine w_pure rfl rfl (s_ixr (i := i)  rfl rfl (hA.sl.below hS.below) (by omega) (by first | omega | (simp; done) | (simp; omega)) si_22 ?_)
        refine w_read rfl rfl (s_lde (i := i) undef  rfl vi_23 (hA.sl.below hS.below) (by first | omega | (simp; done) | (simp; omega)) rfl rfl (.inr rfl) ?_)
        refine w_pure rfl rfl (s_lenr  rfl (hri.below hS.below) ⟨_, Tryz.underlying23⟩ ?_)
        refine w_pure rfl rfl (s_eql  rfl rfl ?_)
        refine w_pure rfl rfl (s_move  rfl ?_)
        refine w_no rfl (gno_yes 19 (by kernel_rfl) rfl (decide_eq_true (by omega))) ?_
        refine w_no rfl (gno_yes 19 (by kernel_rfl) rfl (decide_eq_true (by omega))) ?_
        refine w_no rfl (gno_yes 19 (by kernel_rfl) rfl (decide_eq_true (by omega))) ?_
        refine w_no rfl (gno_yes 19 (by kernel_rfl) rfl (decide_eq_true (by omega))) ?_
        refine w_no rfl (gno_yes 19 (by kernel_rfl) rfl (decide_eq_true (by omega))) ?_
        refine w_no rfl (gno_yes 19 (by kernel_rfl) rfl (decide_eq_true (by omega))) ?_
        refine w_no rfl (gno_yes 19 (by kernel_rfl) rfl (decide_eq_true (by omega))) ?_
        refine w_no rfl (gno_yes 19 (by kernel_rfl) rfl (decide_eq_true (by omega))) ?_
        refine w_no rfl (gno_yes 19 (by kernel_rfl) rfl (decide_eq_true (by omega))) ?_
        refine w_no rfl (gno_yes 19 (by kernel_rfl) rfl (decide_eq_true (by omega))) ?_
        refine w_pure rfl rfl (s_pick (vb rfl (decide_eq_true (by omega))) rfl ?_)
        refine w_end ?_
        repeat (with_reducible first | refine c_seq ?_ | refine c_block ?_ | refine c_skip ?_ | refine x_then ?_ | refine x_block ?_)
        refine c_yes rfl (rfl) ?_
        repeat (with_reducible first | refine c_seq ?_ | refine c_block ?_ | refine c_skip ?_ | refine x_then ?_ | refine x_block ?_)
        refine c_reg ?_
        refine l_pure rfl (s_asg  rfl ?_)
        refine l_nil ?_
        repeat (with_reducible first | refine c_seq ?_ | refine c_block ?_ | refine c_skip ?_ | refine x_then ?_ | refine x_block ?_)
        refine c_ret ?_
        repeat (with_reducible first | refine x_then_ret ?_ | refine x_block_ret ?_)
        refine r_one rfl rfl ?_
        exact ⟨rfl, hS.below⟩
      · repeat (with_reducible first | refine c_seq ?_ | refine c_block ?_ | refine c_skip ?_ | refine x_then ?_ | refine x_block ?_)
        refine c_draw [(0, .pure), (1, .pure), (2, .pure), (3, .read), (4, .pure), (5, .pure), (6, .pure), (7, .pure), (8, .pure), (9, .pure), (10, .read), (11, .pure), (12, .pure), (13, .pure), (14, .read), (15, .pure), (16, .pure), (17, .pure)] (by kernel_rfl) (by kernel_rfl) hS ?_
        intro wz2 hS hBz2
        refine w_pure rfl rfl (s_move  h0' ?_)
        refine w_pure rfl rfl (s_move  h3 ?_)
        refine w_pure rfl rfl (s_ixr (i := i)  rfl rfl (hA.sl.below hS.below) (by omega) (by first | omega | (simp; done) | (simp; omega)) si_22 ?_)
        refine w_read rfl rfl (s_lde (i := i) undef  rfl vi_23 (hA.sl.below hS.below) (by first | omega | (simp; done) | (simp; omega)) rfl rfl (.inr rfl) ?_)
        refine w_pure rfl rfl (s_lenr  rfl (hri.below hS.below) ⟨_, Tryz.underlying23⟩ ?_)
        refine w_pure rfl rfl (s_eql  rfl rfl ?_)
        refine w_pure rfl rfl (s_move  rfl ?_)
        refine w_pure rfl (gd_yes 19 (by kernel_rfl) rfl (decide_eq_false (by omega))) (s_move  h0' ?_)
        refine w_pure rfl (gd_yes 19 (by kernel_rfl) rfl (decide_eq_false (by omega))) (s_move  h3 ?_)
        refine w_pure rfl (gd_yes 19 (by kernel_rfl) rfl (decide_eq_false (by omega))) (s_ixr (i := i)  rfl rfl (hA.sl.below hS.below) (by omega) (by first | omega | (simp; done) | (simp; omega)) si_22 ?_)
        refine w_read rfl (gd_yes 19 (by kernel_rfl) rfl (decide_eq_false (by omega))) (s_lde (i := i) undef  rfl vi_23 (hA.sl.below hS.below) (by first | omega | (simp; done) | (simp; omega)) rfl rfl (.inr rfl) ?_)
        refine w_pure rfl (gd_yes 19 (by kernel_rfl) rfl (decide_eq_false (by omega))) (s_lenr  rfl (hri.below hS.below) ⟨_, Tryz.underlying23⟩ ?_)
        refine w_pure rfl (gd_yes 19 (by kernel_rfl) rfl (decide_eq_false (by omega))) (s_move  h0' ?_)
        refine w_pure rfl (gd_yes 19 (by kernel_rfl) rfl (decide_eq_false (by omega))) (s_ixr (i := 0)  rfl rfl (hA.sl.below hS.below) (by omega) (by first | omega | (simp; done) | (simp; omega)) si_22 ?_)
        refine w_read rfl (gd_yes 19 (by kernel_rfl) rfl (decide_eq_false (by omega))) (s_lde (i := 0) undef  rfl vi_23 (hA.sl.below hS.below) (by first | omega | (simp; done) | (simp; omega)) rfl rfl (.inr rfl) ?_)
        refine w_pure rfl (gd_yes 19 (by kernel_rfl) rfl (decide_eq_false (by omega))) (s_lenr  rfl (hr0.below hS.below) ⟨_, Tryz.underlying23⟩ ?_)
        refine w_pure rfl (gd_yes 19 (by kernel_rfl) rfl (decide_eq_false (by omega))) (s_neq  rfl rfl ?_)
        refine w_pure rfl rfl (s_pick (vb rfl (decide_eq_false (by omega))) rfl ?_)
        refine w_end ?_
        repeat (with_reducible first | refine c_seq ?_ | refine c_block ?_ | refine c_skip ?_ | refine x_then ?_ | refine x_block ?_)
        by_cases hne : (A.getD i []).length = colsA A
        · refine c_no rfl (decide_eq_false (by omega)) ?_
          repeat (with_reducible first | refine c_seq ?_ | refine c_block ?_ | refine c_skip ?_ | refine x_then ?_ | refine x_block ?_)
          refine c_reg ?_
          refine l_pure rfl (s_move  h3 ?_)
          refine l_pure rfl (s_add  rfl rfl (IntWalk.i64_in _ (by omega)) ?_)
          refine l_pure rfl (s_asg  rfl ?_)
          refine l_nil ?_
          repeat (with_reducible first | refine c_seq ?_ | refine c_block ?_ | refine c_skip ?_ | refine x_then ?_ | refine x_block ?_)
          exact ⟨i + 1, _, rfl, ⟨hlt, fun _ => by omega, st1 (hd.1 hne), by assumption, vi rfl (by omega), hS⟩, by omega⟩
        · have he : shpE A = 4 := by
            unfold shpE
            by_cases q : A.length = 0 ∨ colsA A = 0
            · rw [if_pos q]
            · rw [if_neg q, if_pos]
              exact st2 (decide_eq_false hne)
          rw [he]
          refine c_yes rfl (decide_eq_true (by omega)) ?_
          repeat (with_reducible first | refine c_seq ?_ | refine c_block ?_ | refine c_skip ?_ | refine x_then ?_ | refine x_block ?_)
          refine c_reg ?_
          refine l_pure rfl (s_asg  rfl ?_)
          refine l_nil ?_
          repeat (with_reducible first | refine c_seq ?_ | refine c_block ?_ | refine c_skip ?_ | refine x_then ?_ | refine x_block ?_)
          refine c_ret ?_
          repeat (with_reducible first | refine x_then_ret ?_ | refine x_block_ret ?_)
          refine r_one rfl rfl ?_
          exact ⟨rfl, hS.below⟩
    · refine c_no rfl (decide_eq_false (by omega)) ?_
      repeat (with_reducible first | refine c_seq ?_ | refine c_block ?_ | refine c_skip ?_ | refine x_then ?_ | refine x_block ?_)
      refine c_exit ?_
      repeat (with_reducible first | refine x_then_exit ?_ | refine x_block_exit ?_ | refine x_block_pass rfl ?_)
      repeat (with_reducible first | refine c_seq ?_ | refine c_block ?_ | refine c_skip ?_ | refine x_then ?_ | refine x_block ?_)
      obtain rfl : i = A.length := by omega
      rw [List.take_length] at hall
      exact ⟨_, rfl, hcz (by omega), hall, h0', hS⟩
  clear hS
  rintro ρ w2 ⟨hcz, hev, h0', hS⟩
  repeat (with_reducible first | refine c_seq ?_ | refine c_block ?_ | refine c_skip ?_ | refine x_then ?_ | refine x_block ?_)
  have e2 : shpE A = if 16 < A.length ∨ 16 < colsA A then 2 else 0 := by unfold shpE; rw [if_neg (by omega), if_neg (by rw [hev]; simp)]
  rw [e2]
  by_cases h3 : 16 < A.length
  · rw [if_pos (.inl h3)]
    repeat (with_reducible first | refine c_seq ?_ | refine c_block ?_ | refine c_skip ?_ | refine x_then ?_ | refine x_block ?_)
    refine c_reg ?_
    refine l_pure rfl (s_move  h0' ?_)
    refine l_pure rfl (s_lenr  rfl (hA.sl.below hS.below) ⟨_, Tryz.underlying22⟩ ?_)
    refine l_pure rfl (s_gtr  rfl rfl ?_)
    refine l_pure rfl (s_move  rfl ?_)
    refine l_no (gno_yes 34 (by kernel_rfl) rfl (decide_eq_true (by omega))) ?_
    refine l_no (gno_yes 34 (by kernel_rfl) rfl (decide_eq_true (by omega))) ?_
    refine l_no (gno_yes 34 (by kernel_rfl) rfl (decide_eq_true (by omega))) ?_
    refine l_no (gno_yes 34 (by kernel_rfl) rfl (decide_eq_true (by omega))) ?_
    refine l_no (gno_yes 34 (by kernel_rfl) rfl (decide_eq_true (by omega))) ?_
    refine l_pure rfl (s_pick (vb rfl (decide_eq_true (by omega))) rfl ?_)
    refine l_nil ?_
    repeat (with_reducible first | refine c_seq ?_ | refine c_block ?_ | refine c_skip ?_ | refine x_then ?_ | refine x_block ?_)
    refine c_yes rfl (rfl) ?_
    repeat (with_reducible first | refine c_seq ?_ | refine c_block ?_ | refine c_skip ?_ | refine x_then ?_ | refine x_block ?_)
    refine c_reg ?_
    refine l_pure rfl (s_asg  rfl ?_)
    refine l_nil ?_
    repeat (with_reducible first | refine c_seq ?_ | refine c_block ?_ | refine c_skip ?_ | refine x_then ?_ | refine x_block ?_)
    refine c_ret ?_
    repeat (with_reducible first | refine x_then_ret ?_ | refine x_block_ret ?_)
    refine r_one rfl rfl ?_
    exact ⟨rfl, hS.below⟩
  repeat (with_reducible first | refine c_seq ?_ | refine c_block ?_ | refine c_skip ?_ | refine x_then ?_ | refine x_block ?_)
  refine c_reg ?_
  refine l_pure rfl (s_move  h0' ?_)
  refine l_pure rfl (s_lenr  rfl (hA.sl.below hS.below) ⟨_, Tryz.underlying22⟩ ?_)
  refine l_pure rfl (s_gtr  rfl rfl ?_)
  refine l_pure rfl (s_move  rfl ?_)
  refine l_pure (gd_yes 34 (by kernel_rfl) rfl (decide_eq_false (by omega))) (s_move  h0' ?_)
  refine l_pure (gd_yes 34 (by kernel_rfl) rfl (decide_eq_false (by omega))) (s_ixr (i := 0)  rfl rfl (hA.sl.below hS.below) (by omega) (by first | omega | (simp; done) | (simp; omega)) si_22 ?_)
  refine l_read (gd_yes 34 (by kernel_rfl) rfl (decide_eq_false (by omega))) (s_lde (i := 0) undef  rfl vi_23 (hA.sl.below hS.below) (by first | omega | (simp; done) | (simp; omega)) rfl rfl (.inr rfl) ?_)
  refine l_pure (gd_yes 34 (by kernel_rfl) rfl (decide_eq_false (by omega))) (s_lenr  rfl (hr0.below hS.below) ⟨_, Tryz.underlying23⟩ ?_)
  refine l_pure (gd_yes 34 (by kernel_rfl) rfl (decide_eq_false (by omega))) (s_gtr  rfl rfl ?_)
  refine l_pure rfl (s_pick (vb rfl (decide_eq_false (by omega))) rfl ?_)
  refine l_nil ?_
  repeat (with_reducible first | refine c_seq ?_ | refine c_block ?_ | refine c_skip ?_ | refine x_then ?_ | refine x_block ?_)
  by_cases h4 : 16 < colsA A
  · rw [if_pos (.inr h4)]
    refine c_yes rfl (decide_eq_true (by omega)) ?_
    repeat (with_reducible first | refine c_seq ?_ | refine c_block ?_ | refine c_skip ?_ | refine x_then ?_ | refine x_block ?_)
    refine c_reg ?_
    refine l_pure rfl (s_asg  rfl ?_)
    refine l_nil ?_
    repeat (with_reducible first | refine c_seq ?_ | refine c_block ?_ | refine c_skip ?_ | refine x_then ?_ | refine x_block ?_)
    refine c_ret ?_
    repeat (with_reducible first | refine x_then_ret ?_ | refine x_block_ret ?_)
    refine r_one rfl rfl ?_
    exact ⟨rfl, hS.below⟩
  rw [if_neg (by omega)]
  refine c_no rfl (decide_eq_false (by omega)) ?_
  repeat (with_reducible first | refine c_seq ?_ | refine c_block ?_ | refine c_skip ?_ | refine x_then ?_ | refine x_block ?_)
  refine c_reg ?_
  refine l_pure rfl (s_asg  rfl ?_)
  refine l_nil ?_
  repeat (with_reducible first | refine c_seq ?_ | refine c_block ?_ | refine c_skip ?_ | refine x_then ?_ | refine x_block ?_)
  refine c_ret ?_
  repeat (with_reducible first | refine x_then_ret ?_ | refine x_block_ret ?_)
  refine r_one rfl rfl ?_
  exact ⟨rfl, hS.below⟩
theorem lFixed_ok (v : Value) (l : List RR) (w : World) (hv : Sl encR 3 w v l) (hl : RB MX l) (hn : l.length ≤ 1000000) :
    Ret Tryz.prog 41 #[v] w fun r w' => ∃ LO, Gl encR 49 3 r (tab l.length fun j => ofQ (VX l j)) LO ∧ St w w' LO := by
  have hmax := hv.maxLen
  have hS := St.init w
  refine enter Tryz.func41 rfl Tryz.ntmps41 rfl ?_
  repeat (with_reducible first | refine c_seq ?_ | refine c_block ?_ | refine c_skip ?_ | refine x_then ?_ | refine x_block ?_)
  refine c_reg ?_
  refine l_pure rfl (s_asg  rfl ?_)
  refine l_nil ?_
  repeat (with_reducible first | refine c_seq ?_ | refine c_block ?_ | refine c_skip ?_ | refine x_then ?_ | refine x_block ?_)
  refine c_reg ?_
  refine l_pure rfl (s_asg  rfl ?_)
  refine l_nil ?_
  repeat (with_reducible first | refine c_seq ?_ | refine c_block ?_ | refine c_skip ?_ | refine x_then ?_ | refine x_block ?_)
  refine c_reg ?_
  refine l_pure rfl (s_asg  rfl ?_)
  refine l_nil ?_
  repeat (with_reducible first | refine c_seq ?_ | refine c_block ?_ | refine c_skip ?_ | refine x_then ?_ | refine x_block ?_)
  refine c_loop (σ := Nat) (fun i ρ w' => i ≤ l.length ∧ ρ 0 = v ∧ ρ 4 = .int .i64 i ∧ ∃ sO LO, ρ 3 = sO ∧ Gl encR 49 3 sO (tab i fun j => ofQ (VX l j)) LO ∧ St w w' ([] ++ LO)) (fun i => l.length - i) 0
    ⟨Nat.zero_le _, rfl, rfl, ⟨_, [], rfl, Gl.nil _ _ _, hS⟩⟩ ?_
  clear hS
  rintro i ρ w2 ⟨hi, h0, h4, sO, LO, h3, hG, hS⟩
  have htl := tab_len i (fun j => ofQ (VX l j))
  repeat (with_reducible first | refine c_seq ?_ | refine c_block ?_ | refine c_skip ?_ | refine x_then ?_ | refine x_block ?_)
  refine c_reg ?_
  refine l_pure rfl (s_move  h4 ?_)
  refine l_pure rfl (s_move  h0 ?_)
  refine l_pure rfl (s_lenr  rfl (hv.below hS.below) ⟨_, Tryz.underlying23⟩ ?_)
  refine l_pure rfl (s_lss  rfl rfl ?_)
  refine l_nil ?_
  repeat (with_reducible first | refine c_seq ?_ | refine c_block ?_ | refine c_skip ?_ | refine x_then ?_ | refine x_block ?_)
  by_cases hlt : i < l.length
  · refine c_yes rfl (decide_eq_true (by omega)) ?_
    repeat (with_reducible first | refine c_seq ?_ | refine c_block ?_ | refine c_skip ?_ | refine x_then ?_ | refine x_block ?_)
    have hfix := fun w => rFix_ok (l.getD i zRR) w (hl _ (getD_mem l i zRR hlt))
    have e : fx (l.getD i zRR) = ofQ (VX l i) := rfl
    rw [e] at hfix
    repeat (with_reducible first | refine c_seq ?_ | refine c_block ?_ | refine c_skip ?_ | refine x_then ?_ | refine x_block ?_)
    refine c_reg ?_
    refine l_pure rfl (s_move  h3 ?_)
    refine l_pure rfl (s_move  h0 ?_)
    refine l_pure rfl (s_move  h4 ?_)
    refine l_pure rfl (s_ixr (i := i)  rfl rfl (hv.below hS.below) (by omega) (by first | omega | (simp; done) | (simp; omega)) si_23 ?_)
    refine l_read rfl (s_lde (i := i) zRR  rfl vi_49 (hv.below hS.below) (by first | omega | (simp; done) | (simp; omega)) rfl rfl (.inl rfl) ?_)
    refine l_heavy rfl (s_call Tryz.call71 rfl (hfix _) ?_)
    rintro _ wc1 ⟨rfl, hBc1⟩
    replace hS := hS.grow hBc1
    refine l_heavy rfl (s_bsl (vs := [aggR (ofQ (VX l i))])  rfl si_23 rfl (by decide) (by decide) (by decide) (by simp [Value.cells, aggR]) rfl hS ?_)
    intro bx wz2 hS hBz2
    refine l_heavy rfl (s_appl [ofQ (VX l i)]  rfl rfl si_23 (by decide) hG hS rfl rfl encR_len (encR_one [ofQ (VX l i)]) (by first | omega | (simp only [List.length_cons, List.length_nil]; omega)) (by first | omega | (simp only [List.length_cons, List.length_nil]; omega)) ?_)
    intro va3 La3 wa3 hG hS hga3
    refine l_pure rfl (s_asg  rfl ?_)
    refine l_nil ?_
    repeat (with_reducible first | refine c_seq ?_ | refine c_block ?_ | refine c_skip ?_ | refine x_then ?_ | refine x_block ?_)
    rw [← tab_succ] at hG
    repeat (with_reducible first | refine c_seq ?_ | refine c_block ?_ | refine c_skip ?_ | refine x_then ?_ | refine x_block ?_)
    refine c_reg ?_
    refine l_pure rfl (s_move  h4 ?_)
    refine l_pure rfl (s_add  rfl rfl (IntWalk.i64_in _ (by omega)) ?_)
    refine l_pure rfl (s_asg  rfl ?_)
    refine l_nil ?_
    repeat (with_reducible first | refine c_seq ?_ | refine c_block ?_ | refine c_skip ?_ | refine x_then ?_ | refine x_block ?_)
    exact ⟨i + 1, _, rfl, ⟨hlt, by assumption, vi rfl (by omega), ⟨_, _, rfl, hG, hS⟩⟩, by omega⟩
  · refine c_no rfl (decide_eq_false (by omega)) ?_
    repeat (with_reducible first | refine c_seq ?_ | refine c_block ?_ | refine c_skip ?_ | refine x_then ?_ | refine x_block ?_)
    refine c_exit ?_
    repeat (with_reducible first | refine x_then_exit ?_ | refine x_block_exit ?_ | refine x_block_pass rfl ?_)
    repeat (with_reducible first | refine c_seq ?_ | refine c_block ?_ | refine c_skip ?_ | refine x_then ?_ | refine x_block ?_)
    obtain rfl : i = l.length := by omega
    repeat (with_reducible first | refine c_seq ?_ | refine c_block ?_ | refine c_skip ?_ | refine x_then ?_ | refine x_block ?_)
    refine c_reg ?_
    refine l_pure rfl (s_move  h3 ?_)
    refine l_pure rfl (s_asg  rfl ?_)
    refine l_nil ?_
    repeat (with_reducible first | refine c_seq ?_ | refine c_block ?_ | refine c_skip ?_ | refine x_then ?_ | refine x_block ?_)
    refine c_ret ?_
    repeat (with_reducible first | refine x_then_ret ?_ | refine x_block_ret ?_)
    refine r_one rfl rfl ?_
    exact ⟨LO, hG, hS⟩
set_option maxHeartbeats 2000000 in
theorem lfixedRows_ok (v : Value) (A : List (List RR)) (vs : List Value) (m : Nat) (w : World) (hA : Mts encR 3 w v A vs) (hn1 : 1 ≤ A.length) (hn : A.length ≤ 1000) (hm1 : 1 ≤ m) (hm : m ≤ 1000) (hev : ∀ i, i < A.length → (A.getD i []).length = m) (hB : RBM MX A) :
    Ret Tryz.prog 40 #[v] w fun r w' => (∃ bo cap so R, r = .slice (some ⟨bo, 0, none⟩) A.length cap ∧ A.length ≤ cap ∧ cap ≤ 9223372036854775807 ∧ MatG R A.length m (qM (RM A)) ∧ St w w' (mD encR 49 23 bo (R.map Rw.v ++ so) R [])) ∧ Below w.heap.size w w' := by
  obtain ⟨n, hn'⟩ : ∃ n, n = A.length := ⟨_, rfl⟩
  rw [← hn'] at hn1 hn hev ⊢
  have hS := St.init w
  have hlen := hA.len
  refine enter Tryz.func40 rfl Tryz.ntmps40 rfl ?_
  repeat (with_reducible first | refine c_seq ?_ | refine c_block ?_ | refine c_skip ?_ | refine x_then ?_ | refine x_block ?_)
  refine c_reg ?_
  refine l_pure rfl (s_asg  rfl ?_)
  refine l_nil ?_
  repeat (with_reducible first | refine c_seq ?_ | refine c_block ?_ | refine c_skip ?_ | refine x_then ?_ | refine x_block ?_)
  refine c_reg ?_
  refine l_pure rfl (s_asg  rfl ?_)
  refine l_nil ?_
  repeat (with_reducible first | refine c_seq ?_ | refine c_block ?_ | refine c_skip ?_ | refine x_then ?_ | refine x_block ?_)
  refine c_reg ?_
  refine l_pure rfl (s_asg  rfl ?_)
  refine l_nil ?_
  repeat (with_reducible first | refine c_seq ?_ | refine c_block ?_ | refine c_skip ?_ | refine x_then ?_ | refine x_block ?_)
  refine c_loop (σ := Nat) (fun i ρ w' => i ≤ n ∧ ρ 0 = v ∧ ρ 4 = .int .i64 i ∧ ∃ vo LO R, ρ 3 = vo ∧ MatG R i m (qM (RM A)) ∧ Gl enV 23 1 vo (R.map Rw.v) LO ∧ St w w' (R.map (Rw.blk encR 49) ++ LO)) (fun i => n - i) 0
    ⟨Nat.zero_le _, rfl, rfl, _, [], [], rfl, ⟨rfl, fun i hi => absurd hi (Nat.not_lt_zero _), fun i hi => absurd hi (Nat.not_lt_zero _)⟩, Gl.nil _ _ _, hS⟩ ?_
  clear hS
  rintro i ρ w2 ⟨hi, h0, h4, vo, LO, R, h3, hR, hG, hS⟩
  have hvl : (R.map Rw.v).length = i := by rw [List.length_map, hR.len]
  repeat (with_reducible first | refine c_seq ?_ | refine c_block ?_ | refine c_skip ?_ | refine x_then ?_ | refine x_block ?_)
  refine c_reg ?_
  refine l_pure rfl (s_move  h4 ?_)
  refine l_pure rfl (s_move  h0 ?_)
  refine l_pure rfl (s_lenr  rfl (hA.sl.below hS.below) ⟨_, Tryz.underlying22⟩ ?_)
  refine l_pure rfl (s_lss  rfl rfl ?_)
  refine l_nil ?_
  repeat (with_reducible first | refine c_seq ?_ | refine c_block ?_ | refine c_skip ?_ | refine x_then ?_ | refine x_block ?_)
  by_cases hlt : i < n
  · refine c_yes rfl (decide_eq_true (by omega)) ?_
    repeat (with_reducible first | refine c_seq ?_ | refine c_block ?_ | refine c_skip ?_ | refine x_then ?_ | refine x_block ?_)
    have hri := hA.row i (by omega)
    have hli := hev i hlt
    repeat (with_reducible first | refine c_seq ?_ | refine c_block ?_ | refine c_skip ?_ | refine x_then ?_ | refine x_block ?_)
    refine c_reg ?_
    refine l_pure rfl (s_move  h3 ?_)
    refine l_pure rfl (s_move  h0 ?_)
    refine l_pure rfl (s_move  h4 ?_)
    refine l_pure rfl (s_ixr (i := i)  rfl rfl (hA.sl.below hS.below) (by omega) (by first | omega | (simp; done) | (simp; omega)) si_22 ?_)
    refine l_read rfl (s_lde (i := i) undef  rfl vi_23 (hA.sl.below hS.below) (by first | omega | (simp; done) | (simp; omega)) rfl rfl (.inr rfl) ?_)
    refine l_heavy rfl (s_call Tryz.call41 rfl (lFixed_ok _ (A.getD i []) _ (hri.below hS.below) (hB _ (getD_mem A i [] (by omega))) (by omega)) ?_)
    rintro r w3 ⟨LF, hGF, hSF⟩
    rw [hli] at hGF
    obtain ⟨nr, hX, rfl, rfl, hc1, hc2, _⟩ := Gl_blk hGF (by intro e; have := congrArg List.length e; rw [tab_len] at this; simp at this; omega)
    replace hS := hS.join hSF
    clear hSF hGF
    replace hS : St w _ ((nr.blk encR 49 :: R.map (Rw.blk encR 49)) ++ LO) := hS
    have hR2 := MatG_snoc hR hX ⟨by rw [hX, tab_len] at hc1; exact hc1, hc2⟩
    refine l_heavy rfl (s_bsl (vs := [nr.v])  rfl si_22 rfl (by decide) (by decide) (by decide) (by simp [Value.cells, Rw.v]) rfl hS ?_)
    intro b17 wz1 hS hBz1
    refine l_heavy rfl (s_appl [nr.v]  rfl rfl si_22 (by decide) hG hS rfl rfl (fun _ => rfl) (fun u hu => by rw [List.mem_singleton.1 (show u ∈ [nr.v] from hu)]; rfl) (by first | omega | (simp only [List.length_cons, List.length_nil]; omega)) (by first | omega | (simp only [List.length_cons, List.length_nil]; omega)) ?_)
    intro va2 La2 wa2 hG hS hga2
    refine l_pure rfl (s_asg  rfl ?_)
    refine l_nil ?_
    repeat (with_reducible first | refine c_seq ?_ | refine c_block ?_ | refine c_skip ?_ | refine x_then ?_ | refine x_block ?_)
    rw [show R.map Rw.v ++ [nr.v] = (R ++ [nr]).map Rw.v by rw [List.map_append]; rfl] at hG
    have eb : ∀ T : List Blk, (nr.blk encR 49 :: R.map (Rw.blk encR 49) ++ T).Perm ((R ++ [nr]).map (Rw.blk encR 49) ++ T) := by
      intro T
      rw [List.map_append]
      exact List.Perm.append_right _ (List.perm_append_singleton _ _).symm
    replace hS := hS.perm (eb _)
    repeat (with_reducible first | refine c_seq ?_ | refine c_block ?_ | refine c_skip ?_ | refine x_then ?_ | refine x_block ?_)
    refine c_reg ?_
    refine l_pure rfl (s_move  h4 ?_)
    refine l_pure rfl (s_add  rfl rfl (IntWalk.i64_in _ (by omega)) ?_)
    refine l_pure rfl (s_asg  rfl ?_)
    refine l_nil ?_
    repeat (with_reducible first | refine c_seq ?_ | refine c_block ?_ | refine c_skip ?_ | refine x_then ?_ | refine x_block ?_)
    exact ⟨i + 1, _, rfl, ⟨hlt, by assumption, vi rfl (by omega), _, _, R ++ [nr], rfl, hR2, hG, hS⟩, by omega⟩
  · refine c_no rfl (decide_eq_false (by omega)) ?_
    repeat (with_reducible first | refine c_seq ?_ | refine c_block ?_ | refine c_skip ?_ | refine x_then ?_ | refine x_block ?_)
    refine c_exit ?_
    repeat (with_reducible first | refine x_then_exit ?_ | refine x_block_exit ?_ | refine x_block_pass rfl ?_)
    repeat (with_reducible first | refine c_seq ?_ | refine c_block ?_ | refine c_skip ?_ | refine x_then ?_ | refine x_block ?_)
    obtain rfl : n = i := by omega
    obtain ⟨_, ⟨_, h2, _⟩ | ⟨bo, cap, so, rfl, rfl, h5, h6, _⟩⟩ := hG
    · omega
    · rw [enV_flat] at hS
      rw [hvl] at h3 h5
      repeat (with_reducible first | refine c_seq ?_ | refine c_block ?_ | refine c_skip ?_ | refine x_then ?_ | refine x_block ?_)
      refine c_reg ?_
      refine l_pure rfl (s_move  h3 ?_)
      refine l_pure rfl (s_asg  rfl ?_)
      refine l_nil ?_
      repeat (with_reducible first | refine c_seq ?_ | refine c_block ?_ | refine c_skip ?_ | refine x_then ?_ | refine x_block ?_)
      refine c_ret ?_
      repeat (with_reducible first | refine x_then_ret ?_ | refine x_block_ret ?_)
      refine r_one rfl rfl ?_
      refine ⟨⟨bo, cap, so, R, rfl, h5, by unfold Go.maxLen at h6; omega, hR, hS.perm ?_⟩, hS.below⟩
      unfold mD
      rw [List.append_nil]
      exact List.perm_append_singleton _ _
end Go.Proofs.YtblfipdfklpmmaaGreatDoor
namespace Go.Proofs.YtblfipdfklpmmaaGreatDoor
open Go Go.RowKit Go.Sx
theorem RBM_mono {K K' : Nat} {A : List (List RR)} (h : RBM K A) (hk : K ≤ K') : RBM K' A := fun a ha => RB_mono (h a ha) hk
end Go.Proofs.YtblfipdfklpmmaaGreatDoor
namespace Go.Proofs.YtblfipdfklpmmaaGreatDoor
open Go Go.RowKit Go.Sx
theorem mC_row {α : Type} {R : List (Rw α)} {so : List Value} {i : Nat} (hi : i < R.length) : (R.map Rw.v ++ so)[i]? = some (R.getD i zRw).v := by
  rw [List.getElem?_append_left (by rw [List.length_map]; exact hi)]; exact mB_row hi
theorem mC_swp {α : Type} {enc : α → List Value} {tR tS : TypeId} {bo : Nat} {R R0 : List (Rw α)} {so : List Value} {H pre : List Blk} {w0 w : World} {p r : Nat} (hv : R.map Rw.v = R0.map Rw.v) (hp : p < R.length) (hr : r < R.length)
    (h : St w0 w (pre ++ mD enc tR tS bo (((R0.map Rw.v ++ so).set p (R0.getD r zRw).v).set r (R0.getD p zRw).v) R H)) : St w0 w (pre ++ mD enc tR tS bo ((swpL R p r).map Rw.v ++ so) (swpL R p r) H) := by
  have hl : R0.length = R.length := by have := congrArg List.length hv; rw [List.length_map, List.length_map] at this; exact this.symm
  have hvi : ∀ i, i < R.length → (R0.getD i zRw).v = (R.getD i zRw).v := fun i hi => by
    have h1 := mB_row (R := R) hi
    rw [hv, mB_row (by rw [hl]; exact hi)] at h1
    exact Option.some.inj h1
  have e : ((R0.map Rw.v ++ so).set p (R0.getD r zRw).v).set r (R0.getD p zRw).v = (swpL R p r).map Rw.v ++ so := by
    rw [hvi r hr, hvi p hp, ← hv, List.set_append_left _ _ (by rw [List.length_map]; exact hp), List.set_append_left _ _ (by rw [List.length_set, List.length_map]; exact hr)]
    unfold swpL
    rw [List.map_set, List.map_set]
  rw [e] at h
  refine h.perm (List.Perm.append_left _ (List.Perm.cons _ (List.Perm.append_right _ (List.Perm.map _ ?_))))
  unfold swpL
  rw [getD_ge R zRw hp, getD_ge R zRw hr]
  exact (List.set_set_perm hp hr).symm
theorem perm_row {α : Type} (A B : List α) (z : α) : (A ++ B ++ [z]).Perm (z :: A ++ B) := List.perm_append_singleton _ _
end Go.Proofs.YtblfipdfklpmmaaGreatDoor
namespace Go.Proofs.YtblfipdfklpmmaaGreatDoor
open Go Go.RowKit Go.Sx
def q1 : Rat := ((1 : Int) : Rat)
def q2 : Rat := ((2 : Int) : Rat)
def q4 : Rat := ((4 : Int) : Rat)
def qm2 : Rat := ((-2 : Int) : Rat)
def Aw : List (List RR) := [[ofQ q1, ofQ q2], [ofQ q2, ofQ q4]]
def Bw : List RR := [zRR, zRR]
def aMx : Mx := fun i j => if j = 0 then (if i = 0 then q1 else q2) else if j = 1 then (if i = 0 then q2 else q4) else 0
theorem two_cases {i : Nat} (h : i < 2) : i = 0 ∨ i = 1 := by omega
theorem three_cases {i : Nat} (h : i < 3) : i = 0 ∨ i = 1 ∨ i = 2 := by omega
theorem RM_Aw : ∀ i, i < 2 → ∀ j, j < 2 → RM Aw i j = aMx i j := by
  intro i hi j hj
  rcases two_cases hi with rfl | rfl <;> rcases two_cases hj with rfl | rfl <;> exact toQ_ofQ _
theorem AUG_Aw : ∀ i, i < 2 → ∀ j, j < 3 → AUG Aw Bw i j = aMx i j := by
  intro i hi j hj
  rcases three_cases hj with rfl | rfl | rfl
  · show RM Aw i 0 = _; exact RM_Aw i hi 0 (by decide)
  · show RM Aw i 1 = _; exact RM_Aw i hi 1 (by decide)
  · show VX Bw i = 0
    rcases two_cases hi with rfl | rfl <;> exact toQ_zRR
theorem shp_Aw : shpE Aw = 0 := rfl
theorem slE_Aw : slE Aw Bw = 5 := by
  have h := (rdc_cols (n := 2) (m := 3) AUG_Aw 2 (by decide)).2.1
  have h2 : (rdc 2 aMx 2).P.length = 1 := by decide +kernel
  unfold slE slD
  show (if sqE Aw ≠ 0 then _ else if (2 : Nat) ≠ 2 then _ else if (rdc 2 (AUG Aw Bw) 2).P.length = 2 then _ else _) = _
  rw [if_neg (by decide), if_neg (by decide), h, h2]; rfl
theorem krL_Aw : krL Aw = [[ofQ qm2, ofQ q1]] := by
  obtain ⟨h1, h2, _⟩ := rdc_cols (n := 2) (m := 2) RM_Aw 2 (by decide)
  have hP : (rdc 2 aMx 2).P = [0] := by decide +kernel
  have hM : (rdc 2 aMx 2).M 0 1 = q2 := by decide +kernel
  have e : krL Aw = (frL (rdA Aw).P 2).map (krRow (rdA Aw).M (rdA Aw).P 2) := if_pos shp_Aw
  rw [e]
  show (frL (rdc 2 (RM Aw) 2).P 2).map (krRow (rdc 2 (RM Aw) 2).M (rdc 2 (RM Aw) 2).P 2) = _
  have hP2 : (rdc 2 (RM Aw) 2).P = [0] := by rw [← hP]; exact h2
  have hM2 : (rdc 2 (RM Aw) 2).M 0 1 = q2 := by rw [h1 0 (by decide) 1 (by decide), hM]
  rw [hP2]
  show [[ofQ (kv [0] _ 1 0), ofQ (kv [0] _ 1 1)]] = _
  have k0 : kv [0] (rdc 2 (RM Aw) 2).M 1 0 = qm2 := by
    show - (rdc 2 (RM Aw) 2).M 0 1 = _
    rw [hM2]; decide +kernel
  have k1 : kv [0] (rdc 2 (RM Aw) 2).M 1 1 = q1 := rfl
  rw [k0, k1]
theorem Aw_RB : RBM 1 Aw := by
  intro a ha r hr
  have hq : ∀ z : Int, z.natAbs < 256 → Lr (ofQ (z : Rat)) ≤ 1 := fun z hz => by rw [Lr_ofQ]; exact L_int _ (by simpa using hz) (by decide)
  simp only [Aw, List.mem_cons, List.not_mem_nil, or_false] at ha
  rcases ha with rfl | rfl
  · simp only [List.mem_cons, List.not_mem_nil, or_false] at hr
    rcases hr with rfl | rfl
    · exact hq 1 (by decide)
    · exact hq 2 (by decide)
  · simp only [List.mem_cons, List.not_mem_nil, or_false] at hr
    rcases hr with rfl | rfl
    · exact hq 2 (by decide)
    · exact hq 4 (by decide)
theorem Bw_RB : RB 1 Bw := fun r hr => by
  simp only [Bw, List.mem_cons, List.not_mem_nil, or_false] at hr
  rcases hr with rfl | rfl <;> exact Nat.le_refl _
theorem ex_mts {w0 w : World} {b12 b11 b8 : Nat} (hS : St w0 w [(b12, 23, ([.slice (some ⟨b8, 0, none⟩) 2 2, .slice (some ⟨b11, 0, none⟩) 2 2] : List Value).flatMap enV), (b11, 49, [ofQ q2, ofQ q4].flatMap encR), (b8, 49, [ofQ q1, ofQ q2].flatMap encR)]) :
    Mts encR 3 w (.slice (some ⟨b12, 0, none⟩) 2 2) Aw [.slice (some ⟨b8, 0, none⟩) 2 2, .slice (some ⟨b11, 0, none⟩) 2 2] := by
  refine ⟨rfl, hS.sle (k := 0) (n := 2) (cap := 2) rfl (fun _ => rfl) (Nat.le_refl _) (Nat.le_refl _) (by decide), fun i hi => ?_⟩
  rcases two_cases hi with rfl | rfl
  · exact hS.sle (k := 2) (L := [ofQ q1, ofQ q2]) (n := 2) (cap := 2) rfl encR_len (Nat.le_refl _) (Nat.le_refl _) (by decide)
  · exact hS.sle (k := 1) (L := [ofQ q2, ofQ q4]) (n := 2) (cap := 2) rfl encR_len (Nat.le_refl _) (Nat.le_refl _) (by decide)
set_option maxHeartbeats 2000000 in
theorem Lawake_ok (w : World) :
    Ret Tryz.prog 11 #[] w fun v w' => v = .bool true ∧ Below w.heap.size w w' := by
  have hM : MX = 1099511627776 := rfl
  have hS := St.init w
  refine enter Tryz.func11 rfl Tryz.ntmps11 rfl ?_
  repeat (with_reducible first | refine c_seq ?_ | refine c_block ?_ | refine c_skip ?_ | refine x_then ?_ | refine x_block ?_)
  refine c_reg ?_
  refine l_pure rfl (s_asg  rfl ?_)
  refine l_nil ?_
  repeat (with_reducible first | refine c_seq ?_ | refine c_block ?_ | refine c_skip ?_ | refine x_then ?_ | refine x_block ?_)
  refine c_reg ?_
  refine l_heavy rfl (s_call Tryz.call29 rfl (QInt_ok 1 _ (by decide) (by decide)) ?_)
  rintro r wa ⟨rfl, hBa⟩
  replace hS := hS.grow hBa
  refine l_heavy rfl (s_call Tryz.call29 rfl (QInt_ok 2 _ (by decide) (by decide)) ?_)
  rintro r wb ⟨rfl, hBb⟩
  replace hS := hS.grow hBb
  refine l_heavy rfl (s_bsl (vs := [aggR (ofQ q1), aggR (ofQ q2)])  rfl si_23 rfl (by decide) (by decide) (by decide) (by simp [Value.cells, aggR]) rfl hS ?_)
  intro b8 wz1 hS hBz1
  refine l_heavy rfl (s_call Tryz.call29 rfl (QInt_ok 2 _ (by decide) (by decide)) ?_)
  rintro r wc ⟨rfl, hBc⟩
  replace hS := hS.grow hBc
  refine l_heavy rfl (s_call Tryz.call29 rfl (QInt_ok 4 _ (by decide) (by decide)) ?_)
  rintro r wd ⟨rfl, hBd⟩
  replace hS := hS.grow hBd
  refine l_heavy rfl (s_bsl (vs := [aggR (ofQ q2), aggR (ofQ q4)])  rfl si_23 rfl (by decide) (by decide) (by decide) (by simp [Value.cells, aggR]) rfl hS ?_)
  intro b11 wz2 hS hBz2
  refine l_heavy rfl (s_bsl (vs := [.slice (some ⟨b8, 0, none⟩) 2 2, .slice (some ⟨b11, 0, none⟩) 2 2])  rfl si_22 rfl (by decide) (by decide) (by decide) (by simp [Value.cells]) rfl hS ?_)
  intro b12 wz3 hS hBz3
  refine l_pure rfl (s_asg  rfl ?_)
  refine l_nil ?_
  repeat (with_reducible first | refine c_seq ?_ | refine c_block ?_ | refine c_skip ?_ | refine x_then ?_ | refine x_block ?_)
  replace hS : St w _ [(b12, 23, ([.slice (some ⟨b8, 0, none⟩) 2 2, .slice (some ⟨b11, 0, none⟩) 2 2] : List Value).flatMap enV), (b11, 49, [ofQ q2, ofQ q4].flatMap encR), (b8, 49, [ofQ q1, ofQ q2].flatMap encR)] := hS
  have hm := ex_mts hS
  repeat (with_reducible first | refine c_seq ?_ | refine c_block ?_ | refine c_skip ?_ | refine x_then ?_ | refine x_block ?_)
  refine c_reg ?_
  refine l_pure rfl (s_move  rfl ?_)
  refine l_pure rfl (s_build  rfl bz_49 ?_)
  refine l_pure rfl (s_build  rfl bz_49 ?_)
  refine l_heavy rfl (s_bsl (vs := [aggR zRR, aggR zRR])  rfl si_23 rfl (by decide) (by decide) (by decide) (by simp [Value.cells, aggR]) rfl hS ?_)
  intro b17 wz4 hS hBz4
  replace hS : St w _ ((b17, 49, Bw.flatMap encR) :: [(b12, 23, ([.slice (some ⟨b8, 0, none⟩) 2 2, .slice (some ⟨b11, 0, none⟩) 2 2] : List Value).flatMap enV), (b11, 49, [ofQ q2, ofQ q4].flatMap encR), (b8, 49, [ofQ q1, ofQ q2].flatMap encR)]) := hS
  have hm2 := ex_mts (hS.drop (List.sublist_cons_self _ _))
  have hb := hS.sle (k := 0) (L := Bw) (n := 2) (cap := 2) rfl encR_len (Nat.le_refl _) (Nat.le_refl _) (by decide)
  refine l_heavy rfl (s_call Tryz.call12 rfl (lSolve_ok _ _ Aw _ Bw 1 _ hm2 hb Aw_RB Bw_RB (by decide)) ?_)
  rintro r w3 ⟨⟨vx, rfl, -⟩, hB3⟩
  rw [slE_Aw]
  replace hS := hS.grow hB3
  replace hm2 := hm2.below hB3
  refine l_pure rfl (s_move  rfl ?_)
  refine l_pure rfl (s_ext  rfl rfl ?_)
  refine l_pure rfl (s_ext  rfl rfl ?_)
  refine l_pure rfl (s_asg  rfl ?_)
  refine l_pure rfl (s_asg  rfl ?_)
  refine l_nil ?_
  repeat (with_reducible first | refine c_seq ?_ | refine c_block ?_ | refine c_skip ?_ | refine x_then ?_ | refine x_block ?_)
  refine c_reg ?_
  refine l_pure rfl (s_move  rfl ?_)
  refine l_heavy rfl (s_call Tryz.call15 rfl (lKernel_ok _ Aw _ 1 _ hm2 Aw_RB (by decide)) ?_)
  rintro r w4 ⟨⟨vk, vks, rfl, hk⟩, hB4⟩
  rw [krL_Aw] at hk
  rw [shp_Aw]
  replace hS := hS.grow hB4
  have hW := hS.below
  clear hm hm2 hb
  replace hS := St.init w4
  have hkl := hk.len
  have hk0 := hk.row 0 (by decide)
  refine l_pure rfl (s_move  rfl ?_)
  refine l_pure rfl (s_ext  rfl rfl ?_)
  refine l_pure rfl (s_ext  rfl rfl ?_)
  refine l_pure rfl (s_asg  rfl ?_)
  refine l_pure rfl (s_asg  rfl ?_)
  refine l_nil ?_
  repeat (with_reducible first | refine c_seq ?_ | refine c_block ?_ | refine c_skip ?_ | refine x_then ?_ | refine x_block ?_)
  refine c_drawM [0, 1, 3, 7, 15, 31, 63, 127, 255, 511, 1023, 2047, 4095, 8191, 16383, 32767, 65535, 131071, 262143, 524287, 1048575, 2097151, 4194303, 8388607, 524287, 33554431, 67108863, 134217727, 268435455, 536870911, 1073741823, 2147483647, 4294967295, 268435455, 17179869183, 34359738367, 68719476735] [(0, .pure), (1, .pure), (2, .pure), (3, .pure), (4, .pure), (5, .pure), (6, .pure), (7, .pure), (8, .pure), (9, .pure), (10, .pure), (11, .pure), (12, .pure), (13, .pure), (14, .read), (15, .pure), (16, .pure), (17, .pure), (18, .pure), (19, .pure), (20, .pure), (21, .read), (22, .pure), (23, .read), (24, .grow), (25, .pure), (26, .pure), (27, .pure), (28, .pure), (29, .pure), (30, .read), (31, .pure), (32, .read), (33, .grow), (34, .pure), (35, .pure), (36, .pure)] (by kernel_rfl) (by kernel_rfl) hS ?_
  intro wz5 hS hBz5
  refine w_pure rfl rfl (s_move  rfl ?_)
  refine w_pure rfl rfl (s_eql  rfl rfl ?_)
  refine w_pure rfl rfl (s_move  rfl ?_)
  refine w_pure rfl (gd_yes 28 (by kernel_rfl) rfl (decide_eq_true rfl)) (s_move  rfl ?_)
  refine w_pure rfl (gd_yes 28 (by kernel_rfl) rfl (decide_eq_true rfl)) (s_eql  rfl rfl ?_)
  refine w_pure rfl rfl (s_pick (vb rfl (decide_eq_true rfl)) rfl ?_)
  refine w_pure rfl rfl (s_move  rfl ?_)
  refine w_pure rfl (gd_yes 32 (by kernel_rfl) rfl (decide_eq_true rfl)) (s_move  rfl ?_)
  refine w_pure rfl (gd_yes 32 (by kernel_rfl) rfl (decide_eq_true rfl)) (s_lenr  rfl (hk.sl.below hS.below) ⟨_, Tryz.underlying22⟩ ?_)
  refine w_pure rfl (gd_yes 32 (by kernel_rfl) rfl (decide_eq_true rfl)) (s_eql  rfl rfl ?_)
  refine w_pure rfl rfl (s_pick (vb rfl (decide_eq_true rfl)) rfl ?_)
  refine w_pure rfl rfl (s_move  rfl ?_)
  refine w_pure rfl (gd_yes 37 (by kernel_rfl) rfl (decide_eq_true (by rw [hkl]; rfl))) (s_move  rfl ?_)
  refine w_pure rfl (gd_yes 37 (by kernel_rfl) rfl (decide_eq_true (by rw [hkl]; rfl))) (s_ixr (i := 0)  rfl rfl (hk.sl.below hS.below) (by omega) (by rw [hkl]; exact Nat.one_pos) si_22 ?_)
  refine w_read rfl (gd_yes 37 (by kernel_rfl) rfl (decide_eq_true (by rw [hkl]; rfl))) (s_lde (i := 0) undef  rfl vi_23 (hk.sl.below hS.below) (by rw [hkl]; exact Nat.one_pos) rfl rfl (.inr rfl) ?_)
  refine w_pure rfl (gd_yes 37 (by kernel_rfl) rfl (decide_eq_true (by rw [hkl]; rfl))) (s_lenr  rfl (hk0.below hS.below) ⟨_, Tryz.underlying23⟩ ?_)
  refine w_pure rfl (gd_yes 37 (by kernel_rfl) rfl (decide_eq_true (by rw [hkl]; rfl))) (s_eql  rfl rfl ?_)
  refine w_pure rfl rfl (s_pick (vb rfl (decide_eq_true (by rw [hkl]; rfl))) rfl ?_)
  refine w_pure rfl rfl (s_move  rfl ?_)
  refine w_pure rfl (gd_yes 44 (by kernel_rfl) rfl (decide_eq_true rfl)) (s_move  rfl ?_)
  refine w_pure rfl (gd_yes 44 (by kernel_rfl) rfl (decide_eq_true rfl)) (s_ixr (i := 0)  rfl rfl (hk.sl.below hS.below) (by omega) (by rw [hkl]; exact Nat.one_pos) si_22 ?_)
  refine w_read rfl (gd_yes 44 (by kernel_rfl) rfl (decide_eq_true rfl)) (s_lde (i := 0) undef  rfl vi_23 (hk.sl.below hS.below) (by rw [hkl]; exact Nat.one_pos) rfl rfl (.inr rfl) ?_)
  refine w_pure rfl (gd_yes 44 (by kernel_rfl) rfl (decide_eq_true rfl)) (s_ixr (i := 0)  rfl rfl (hk0.below hS.below) (by omega) (Nat.le_of_ble_eq_true rfl) si_23 ?_)
  refine w_read rfl (gd_yes 44 (by kernel_rfl) rfl (decide_eq_true rfl)) (s_lde (i := 0) zRR  rfl vi_49 (hk0.below hS.below) (Nat.le_of_ble_eq_true rfl) rfl rfl (.inl rfl) ?_)
  refine w_grow rfl (gd_yes 44 (by kernel_rfl) rfl (decide_eq_true rfl)) (s_call Tryz.call29 rfl (QInt_ok (-2) _ (by decide) (by decide)) ?_)
  rintro r we0 ⟨rfl, hBe0⟩
  refine ⟨hBe0, ?_⟩
  replace hS := hS.grow hBe0
  refine w_pure rfl (gd_yes 44 (by kernel_rfl) rfl (decide_eq_true rfl)) (s_eqR  rfl rfl ?_)
  refine w_pure rfl rfl (s_pick (vb rfl (decide_eq_true rfl)) rfl ?_)
  refine w_pure rfl rfl (s_move  rfl ?_)
  refine w_pure rfl (gd_yes 53 (by kernel_rfl) rfl (decide_eq_true rfl)) (s_move  rfl ?_)
  refine w_pure rfl (gd_yes 53 (by kernel_rfl) rfl (decide_eq_true rfl)) (s_ixr (i := 0)  rfl rfl (hk.sl.below hS.below) (by omega) (by rw [hkl]; exact Nat.one_pos) si_22 ?_)
  refine w_read rfl (gd_yes 53 (by kernel_rfl) rfl (decide_eq_true rfl)) (s_lde (i := 0) undef  rfl vi_23 (hk.sl.below hS.below) (by rw [hkl]; exact Nat.one_pos) rfl rfl (.inr rfl) ?_)
  refine w_pure rfl (gd_yes 53 (by kernel_rfl) rfl (decide_eq_true rfl)) (s_ixr (i := 1)  rfl rfl (hk0.below hS.below) (by omega) (Nat.le_of_ble_eq_true rfl) si_23 ?_)
  refine w_read rfl (gd_yes 53 (by kernel_rfl) rfl (decide_eq_true rfl)) (s_lde (i := 1) zRR  rfl vi_49 (hk0.below hS.below) (Nat.le_of_ble_eq_true rfl) rfl rfl (.inl rfl) ?_)
  refine w_grow rfl (gd_yes 53 (by kernel_rfl) rfl (decide_eq_true rfl)) (s_call Tryz.call29 rfl (QInt_ok 1 _ (by decide) (by decide)) ?_)
  rintro r we1 ⟨rfl, hBe1⟩
  refine ⟨hBe1, ?_⟩
  replace hS := hS.grow hBe1
  refine w_pure rfl (gd_yes 53 (by kernel_rfl) rfl (decide_eq_true rfl)) (s_eqR  rfl rfl ?_)
  refine w_pure rfl rfl (s_pick (vb rfl (decide_eq_true rfl)) rfl ?_)
  refine w_pure rfl rfl (s_asg  rfl ?_)
  refine w_end ?_
  repeat (with_reducible first | refine c_seq ?_ | refine c_block ?_ | refine c_skip ?_ | refine x_then ?_ | refine x_block ?_)
  refine c_ret ?_
  repeat (with_reducible first | refine x_then_ret ?_ | refine x_block_ret ?_)
  refine r_one rfl rfl ?_
  exact ⟨vb rfl (decide_eq_true rfl), hW.trans (hS.below.mono hW.size)⟩
end Go.Proofs.YtblfipdfklpmmaaGreatDoor
namespace Go.Proofs.YtblfipdfklpmmaaGreatDoor
open Go Go.RowKit Go.Sx
def fewA (A : List (List RR)) : Bool := decide ((A.length : Int) ≤ 5) && A.all fun r => decide ((r.length : Int) ≤ 5) && r.all few
theorem fewA_B {A : List (List RR)} (h : fewA A = true) : A.length ≤ 5 ∧ RBM 24 A ∧ ∀ a ∈ A, a.length ≤ 5 := by
  unfold fewA at h
  rw [Bool.and_eq_true, decide_eq_true_eq] at h
  refine ⟨by omega, fun a ha r hr => ?_, fun a ha => ?_⟩
  · have := List.all_eq_true.1 h.2 a ha
    rw [Bool.and_eq_true] at this
    exact few_Lr (List.all_eq_true.1 this.2 r hr)
  · have := List.all_eq_true.1 h.2 a ha
    rw [Bool.and_eq_true, decide_eq_true_eq] at this
    omega
theorem FewRows_ok (v : Value) (A : List (List RR)) (vs : List Value) (w : World) (hA : Mts encR 3 w v A vs) :
    Ret Tryz.prog 9 #[v, .int .i64 5] w fun r w' => r = .bool (fewA A) ∧ Below w.heap.size w w' := by
  have hS := St.init w
  have hmx := hA.sl.maxLen
  have hlen := hA.len
  refine enter Tryz.func9 rfl Tryz.ntmps9 rfl ?_
  repeat (with_reducible first | refine c_seq ?_ | refine c_block ?_ | refine c_skip ?_ | refine x_then ?_ | refine x_block ?_)
  refine c_reg ?_
  refine l_pure rfl (s_asg  rfl ?_)
  refine l_nil ?_
  repeat (with_reducible first | refine c_seq ?_ | refine c_block ?_ | refine c_skip ?_ | refine x_then ?_ | refine x_block ?_)
  refine c_reg ?_
  refine l_pure rfl (s_move  rfl ?_)
  refine l_pure rfl (s_lenr  rfl (hA.sl.below hS.below) ⟨_, Tryz.underlying22⟩ ?_)
  refine l_pure rfl (s_move  rfl ?_)
  refine l_pure rfl (s_gtr  rfl rfl ?_)
  refine l_nil ?_
  repeat (with_reducible first | refine c_seq ?_ | refine c_block ?_ | refine c_skip ?_ | refine x_then ?_ | refine x_block ?_)
  by_cases h0 : (A.length : Int) ≤ 5
  · have e1 : fewA A = A.all fun r => decide ((r.length : Int) ≤ 5) && r.all few := by unfold fewA; rw [decide_eq_true h0]; rfl
    rw [e1]
    refine c_no rfl (decide_eq_false (by omega)) ?_
    repeat (with_reducible first | refine c_seq ?_ | refine c_block ?_ | refine c_skip ?_ | refine x_then ?_ | refine x_block ?_)
    refine c_reg ?_
    refine l_pure rfl (s_move  rfl ?_)
    refine l_pure rfl (s_lenr  rfl (hA.sl.below hS.below) ⟨_, Tryz.underlying22⟩ ?_)
    refine l_pure rfl (s_move  rfl ?_)
    refine l_nil ?_
    repeat (with_reducible first | refine c_seq ?_ | refine c_block ?_ | refine c_skip ?_ | refine x_then ?_ | refine x_block ?_)
    refine c_loop (σ := Nat) (fun i ρ w' => i ≤ A.length ∧ (A.take i).all (fun r => decide ((r.length : Int) ≤ 5) && r.all few) = true ∧ ρ 1 = .int .i64 5 ∧ ρ 11 = v ∧ ρ 12 = .int .i64 A.length ∧ ρ 13 = .int .i64 i ∧ St w w' []) (fun i => A.length - i) 0
      ⟨Nat.zero_le _, by simp, rfl, rfl, vi rfl (by omega), rfl, hS⟩ ?_
    clear hS
    rintro i ρ w2 ⟨hi, hall, h1, h11, h12, h13, hS⟩
    repeat (with_reducible first | refine c_seq ?_ | refine c_block ?_ | refine c_skip ?_ | refine x_then ?_ | refine x_block ?_)
    refine c_reg ?_
    refine l_pure rfl (s_lss  h13 h12 ?_)
    refine l_nil ?_
    repeat (with_reducible first | refine c_seq ?_ | refine c_block ?_ | refine c_skip ?_ | refine x_then ?_ | refine x_block ?_)
    by_cases hlt : i < A.length
    · refine c_yes rfl (decide_eq_true (by omega)) ?_
      repeat (with_reducible first | refine c_seq ?_ | refine c_block ?_ | refine c_skip ?_ | refine x_then ?_ | refine x_block ?_)
      have hri := hA.row i hlt
      obtain ⟨st1, st2⟩ := all_step (fun r : List RR => decide ((r.length : Int) ≤ 5) && r.all few) A [] hlt hall
      repeat (with_reducible first | refine c_seq ?_ | refine c_block ?_ | refine c_skip ?_ | refine x_then ?_ | refine x_block ?_)
      refine c_reg ?_
      refine l_pure rfl (s_ixr (i := i)  h11 h13 (hA.sl.below hS.below) (by omega) (by first | omega | (simp; done) | (simp; omega)) si_22 ?_)
      refine l_read rfl (s_lde (i := i) undef  rfl vi_23 (hA.sl.below hS.below) (by first | omega | (simp; done) | (simp; omega)) rfl rfl (.inr rfl) ?_)
      refine l_pure rfl (s_asg  rfl ?_)
      refine l_nil ?_
      repeat (with_reducible first | refine c_seq ?_ | refine c_block ?_ | refine c_skip ?_ | refine x_then ?_ | refine x_block ?_)
      refine c_reg ?_
      refine l_pure rfl (s_move  rfl ?_)
      refine l_pure rfl (s_move  h1 ?_)
      refine l_heavy rfl (s_call Tryz.call10 rfl (FewRats_ok _ (A.getD i []) 5 _ (hri.below hS.below)) ?_)
      rintro _ wc1 ⟨rfl, hBc1⟩
      replace hS := hS.grow hBc1
      refine l_pure rfl (s_not  rfl ?_)
      refine l_nil ?_
      repeat (with_reducible first | refine c_seq ?_ | refine c_block ?_ | refine c_skip ?_ | refine x_then ?_ | refine x_block ?_)
      cases hf : decide (((A.getD i []).length : Int) ≤ 5) && (A.getD i []).all few with
      | true =>
        refine c_no rfl (rfl) ?_
        repeat (with_reducible first | refine c_seq ?_ | refine c_block ?_ | refine c_skip ?_ | refine x_then ?_ | refine x_block ?_)
        refine c_reg ?_
        refine l_pure rfl (s_add  h13 rfl (IntWalk.i64_in _ (by omega)) ?_)
        refine l_pure rfl (s_move  rfl ?_)
        refine l_nil ?_
        repeat (with_reducible first | refine c_seq ?_ | refine c_block ?_ | refine c_skip ?_ | refine x_then ?_ | refine x_block ?_)
        exact ⟨i + 1, _, rfl, ⟨hlt, st1 hf, by assumption, by assumption, by assumption, vi rfl (by omega), hS⟩, by omega⟩
      | false =>
        rw [st2 hf]
        refine c_yes rfl (rfl) ?_
        repeat (with_reducible first | refine c_seq ?_ | refine c_block ?_ | refine c_skip ?_ | refine x_then ?_ | refine x_block ?_)
        refine c_reg ?_
        refine l_pure rfl (s_asg  rfl ?_)
        refine l_nil ?_
        repeat (with_reducible first | refine c_seq ?_ | refine c_block ?_ | refine c_skip ?_ | refine x_then ?_ | refine x_block ?_)
        refine c_ret ?_
        repeat (with_reducible first | refine x_then_ret ?_ | refine x_block_ret ?_)
        refine r_one rfl rfl ?_
        exact ⟨rfl, hS.below⟩
    · refine c_no rfl (decide_eq_false (by omega)) ?_
      repeat (with_reducible first | refine c_seq ?_ | refine c_block ?_ | refine c_skip ?_ | refine x_then ?_ | refine x_block ?_)
      refine c_exit ?_
      repeat (with_reducible first | refine x_then_exit ?_ | refine x_block_exit ?_ | refine x_block_pass rfl ?_)
      repeat (with_reducible first | refine c_seq ?_ | refine c_block ?_ | refine c_skip ?_ | refine x_then ?_ | refine x_block ?_)
      obtain rfl : i = A.length := by omega
      rw [List.take_length] at hall
      rw [hall]
      repeat (with_reducible first | refine c_seq ?_ | refine c_block ?_ | refine c_skip ?_ | refine x_then ?_ | refine x_block ?_)
      refine c_reg ?_
      refine l_pure rfl (s_asg  rfl ?_)
      refine l_nil ?_
      repeat (with_reducible first | refine c_seq ?_ | refine c_block ?_ | refine c_skip ?_ | refine x_then ?_ | refine x_block ?_)
      refine c_ret ?_
      repeat (with_reducible first | refine x_then_ret ?_ | refine x_block_ret ?_)
      refine r_one rfl rfl ?_
      exact ⟨rfl, hS.below⟩
  · have e1 : fewA A = false := by unfold fewA; rw [decide_eq_false h0]; rfl
    rw [e1]
    refine c_yes rfl (decide_eq_true (by omega)) ?_
    repeat (with_reducible first | refine c_seq ?_ | refine c_block ?_ | refine c_skip ?_ | refine x_then ?_ | refine x_block ?_)
    refine c_reg ?_
    refine l_pure rfl (s_asg  rfl ?_)
    refine l_nil ?_
    repeat (with_reducible first | refine c_seq ?_ | refine c_block ?_ | refine c_skip ?_ | refine x_then ?_ | refine x_block ?_)
    refine c_ret ?_
    repeat (with_reducible first | refine x_then_ret ?_ | refine x_block_ret ?_)
    refine r_one rfl rfl ?_
    exact ⟨rfl, hS.below⟩
theorem SameRats_eq (va vb_ : Value) (A : List RR) (w : World) (ha : Sl encR 3 w va A) (hb : Sl encR 3 w vb_ A) :
    Ret Tryz.prog 14 #[va, vb_] w fun v w' => v = .bool true ∧ Below w.heap.size w w' :=
  (SameRats_ok va vb_ A A w ha hb).mono fun _ _ ⟨h, hB⟩ => ⟨by rw [h, decide_eq_true rfl], hB⟩
theorem K24 : 8 * BB 24 16 ≤ MX := by decide
end Go.Proofs.YtblfipdfklpmmaaGreatDoor
namespace Go.Proofs.YtblfipdfklpmmaaGreatDoor
open Go Go.RowKit Go.Sx Go.ChangeShapes Go.WideShapes
section
variable {H : Type} {enc0 : TypeId × Value → H} {P : Program} {w : World} {sp : Nat → Bool} {held : Bool}
/-- A slice whose elements can be read: as a list. -/
theorem open_sl {α : Type} {enc : α → List Value} {size : Nat} {G : α → Prop} {t e : TypeId} {fuel base : Nat} {cs : List Value} {x : DataW H × List MemPlace} (ht : P.underlying t = some (.slice e)) (hce : P.cellsOf e = size)
    (hel : ∀ (n : Nat) (cs : List Value) (y : DataW H × List MemPlace), DataW.trod enc0 P w base sp held n e cs = some y → ∃ a, cs = enc a ∧ G a)
    (h : DataW.trod enc0 P w base sp held fuel t cs = some x) : ∃ v L, cs = [v] ∧ Sl enc size w v L ∧ ∀ y ∈ L, G y := by
  rcases DataW.trod_slice ht h with ⟨h1, _⟩ | ⟨a, len, cap, elems, rest, n, _, h1, _, _, hlc, hm, hlen, hel2, _, _⟩
  · exact ⟨_, [], h1, Sl.nil _ _ _, fun x hx => by cases hx⟩
  · have each : ∀ i, i < len → ∃ y : α, G y ∧ ∀ j u, (enc y)[j]? = some u → w.cell? (a.add (i * size + j)) = some u := by
      intro i hi
      have h2 := hel2 i hi
      rw [hce, List.getElem?_eq_getElem (by omega : i < elems.length), Option.bind_eq_some_iff] at h2
      obtain ⟨cs2, hcs, htr⟩ := h2
      obtain ⟨_, hcl, hcell⟩ := World.cells?_some hcs
      obtain ⟨y, rfl, hG⟩ := hel _ _ _ htr
      refine ⟨y, hG, fun j u hj => ?_⟩
      have hjl : j < size := by
        rw [← hcl]
        exact (List.getElem?_eq_some_iff.1 hj).1
      rw [← hj, ← hcell j hjl, add_add]
    refine ⟨_, (List.range len).pmap (fun i hi => Classical.choose (each i hi)) (fun i hi => List.mem_range.1 hi), h1, ⟨⟨some a, cap, by simp, by simp; exact hlc, hm, fun q => by cases q⟩, fun i hi => ?_⟩, fun y hy => ?_⟩
    · have hil : i < len := by simpa using hi
      intro j u hu2
      rw [List.getElem_pmap] at hu2
      simp only [List.getElem_range] at hu2
      show w.cell? ((a.add (i * size)).add j) = _
      rw [add_add]
      exact (Classical.choose_spec (each i hil)).2 j u hu2
    · obtain ⟨i, hi, rfl⟩ := List.mem_pmap.1 hy
      exact (Classical.choose_spec (each i (List.mem_range.1 hi))).1
end
section
variable {H : Type} {enc0 : TypeId × Value → H} {w : World} {sp : Nat → Bool} {held : Bool}
theorem list3 {α : Type} {l : List α} (h : l.length = 3) : ∃ a b c, l = [a, b, c] := by
  match l, h with
  | [a, b, c], _ => exact ⟨a, b, c, rfl⟩
theorem cb_bool : Tryz.prog.cellsOf 4 = 1 := by kernel_rfl
theorem cb_string : Tryz.prog.cellsOf 9 = 1 := by kernel_rfl
theorem cb_rat : Tryz.prog.cellsOf 49 = 3 := by kernel_rfl
/-- How long a number's texts can be. -/
def rok (r : RR) : Prop := r.num.size ≤ maxLen ∧ r.den.size ≤ maxLen
theorem open_ratc {n base : Nat} {cs : List Value} {y : DataW H × List MemPlace} (h : DataW.trod enc0 Tryz.prog w base sp held n 49 cs = some y) : ∃ r : RR, cs = encR r ∧ rok r := by
  obtain ⟨xs, m, _, _, hl, hxl, hf⟩ := DataW.trod_struct Tryz.underlying49 h
  rw [cb_rat] at hl
  obtain ⟨u0, u1, u2, rfl⟩ := list3 hl
  have h3 : xs.length = 3 := hxl
  have h0 : DataW.trod enc0 Tryz.prog w base sp held m 4 (([u0, u1, u2].drop 0).take (Tryz.prog.cellsOf 4)) = xs[0]? := hf 0 _ rfl
  have h1 : DataW.trod enc0 Tryz.prog w base sp held m 9 (([u0, u1, u2].drop 1).take (Tryz.prog.cellsOf 9)) = xs[1]? := hf 1 _ rfl
  have h2 : DataW.trod enc0 Tryz.prog w base sp held m 9 (([u0, u1, u2].drop 2).take (Tryz.prog.cellsOf 9)) = xs[2]? := hf 2 _ rfl
  rw [cb_bool, List.getElem?_eq_getElem (by omega)] at h0
  rw [cb_string, List.getElem?_eq_getElem (by omega)] at h1 h2
  obtain ⟨b, e0, _⟩ := DataW.trod_bool Tryz.underlying4 h0
  obtain ⟨s, e1, _, hs⟩ := DataW.trod_string Tryz.underlying9 h1
  obtain ⟨d, e2, _, hd⟩ := DataW.trod_string Tryz.underlying9 h2
  obtain rfl : u0 = .bool b := (List.cons.inj e0).1
  obtain rfl : u1 = .string s := (List.cons.inj e1).1
  obtain rfl : u2 = .string d := (List.cons.inj e2).1
  exact ⟨⟨b, s, d⟩, rfl, hs, hd⟩
end
end Go.Proofs.YtblfipdfklpmmaaGreatDoor
namespace Go.Proofs.YtblfipdfklpmmaaGreatDoor
open Go Go.RowKit Go.Sx Go.ChangeShapes Go.WideShapes
section
variable {H : Type} {enc0 : TypeId × Value → H} {w : World} {sp : Nat → Bool} {held : Bool}
theorem cb_rats : Tryz.prog.cellsOf 23 = 1 := by kernel_rfl
theorem open_ratsc {n base : Nat} {cs : List Value} {y : DataW H × List MemPlace} (h : DataW.trod enc0 Tryz.prog w base sp held n 23 cs = some y) : ∃ p : List RR × Value, cs = enV p.2 ∧ Sl encR 3 w p.2 p.1 := by
  obtain ⟨v, L, e, hS, _⟩ := open_sl (enc := encR) (G := rok) Tryz.underlying23 cb_rat (fun _ _ _ h => open_ratc h) h
  exact ⟨(L, v), e, hS⟩
/-- An argument of type [][]api.Rat. -/
theorem open_mats {v : Value} {d : DataW H} {ps : List MemPlace} (hval : ∃ a n c, v = .slice a n c) (h : DataW.Trod enc0 Tryz.prog w 0 (fun _ => true) true 22 v d ps) : ∃ (A : List (List RR)) (vs : List Value), Mts encR 3 w v A vs := by
  obtain ⟨a, n, c, rfl⟩ := hval
  obtain ⟨fuel, hf⟩ := h
  obtain ⟨v, L, e, hS, hG⟩ := open_sl (enc := fun p : List RR × Value => enV p.2) (size := 1) (G := fun p => Sl encR 3 w p.2 p.1) Tryz.underlying22 cb_rats (fun _ _ _ h => open_ratsc h) hf
  simp only [Value.cells, List.cons.injEq, and_true] at e
  rw [e]
  have hS2 : Sl enV 1 w v (L.map (·.2)) := by
    refine ⟨by rw [List.length_map]; exact hS.form, fun i hi => ?_⟩
    rw [List.length_map] at hi
    rw [List.getElem_map]
    exact hS.elt i hi
  refine ⟨L.map (·.1), L.map (·.2), by rw [List.length_map, List.length_map], hS2, fun i hi => ?_⟩
  rw [List.length_map] at hi
  have := hG L[i] (List.getElem_mem hi)
  rw [List.getD_eq_getElem?_getD, List.getD_eq_getElem?_getD, List.getElem?_map, List.getElem?_map, List.getElem?_eq_getElem hi]
  exact this
end
end Go.Proofs.YtblfipdfklpmmaaGreatDoor
namespace Go.Proofs.YtblfipdfklpmmaaGreatDoor
open Go Go.RowKit Go.Sx
theorem built_R1 : Tryz.prog.built 49 [(1, .string ⟨#[1]⟩)] = some #[.bool false, .string ⟨#[1]⟩, .string ⟨#[]⟩] := by kernel_rfl
theorem rOne_ok (w : World) : Ret Tryz.prog 48 #[] w fun v w' => v = aggR (ofQ ((1 : Int) : Rat)) ∧ Below w.heap.size w w' := by
  have hS := St.init w
  have h1 : aggR (ofQ ((1 : Int) : Rat)) = .agg #[.bool false, .string ⟨#[1]⟩, .string ⟨#[]⟩] := by
    have : ofQ ((1 : Int) : Rat) = ⟨false, natS 1, ⟨#[]⟩⟩ := rfl
    rw [this, natS_one]; rfl
  rw [h1]
  refine enter Tryz.func48 rfl Tryz.ntmps48 rfl ?_
  repeat (with_reducible first | refine c_seq ?_ | refine c_block ?_ | refine c_skip ?_ | refine x_then ?_ | refine x_block ?_)
  refine c_reg ?_
  refine l_heavy rfl (s_alloc  vi_49 hS ?_)
  intro b1 wz2 hS hBz2
  refine l_nil ?_
  repeat (with_reducible first | refine c_seq ?_ | refine c_block ?_ | refine c_skip ?_ | refine x_then ?_ | refine x_block ?_)
  refine c_reg ?_
  refine l_pure rfl (s_build  rfl (built_R1) ?_)
  refine l_heavy rfl (s_sta (k := 0)  rfl rfl vi_49 hS rfl rfl rfl (Nat.le_of_ble_eq_true rfl) rfl ?_)
  intro wz3 hS
  refine l_nil ?_
  repeat (with_reducible first | refine c_seq ?_ | refine c_block ?_ | refine c_skip ?_ | refine x_then ?_ | refine x_block ?_)
  refine c_ret ?_
  repeat (with_reducible first | refine x_then_ret ?_ | refine x_block_ret ?_)
  refine r_cell (k := 0) rfl rfl vi_49 hS rfl rfl ?_
  exact ⟨rfl, hS.below⟩
end Go.Proofs.YtblfipdfklpmmaaGreatDoor
namespace Go.Proofs.YtblfipdfklpmmaaGreatDoor
open Go Go.RowKit Go.Sx
def sgQ (x : Nat) : Rat := if x % 2 = 1 then - amtQ (x / 2) else amtQ (x / 2)
theorem L_sgQ (x : Nat) : L (sgQ x) ≤ 1 := by
  unfold sgQ
  split
  · rw [L_neg]; exact L_amtQ _
  · exact L_amtQ _
def matQ (l : List Nat) (cols : Nat) : Mx := fun i j => if i * cols + j < l.length then sgQ (l.getD (i * cols + j) 0) else 0
theorem L_matQ (l : List Nat) (cols i j : Nat) : L (matQ l cols i j) ≤ 1 := by
  unfold matQ
  split
  · exact L_sgQ _
  · rw [L_zero]; exact Nat.le_refl _
theorem Signed_ok (x : Nat) (w : World) (hx : x < 65536) :
    Ret Tryz.prog 56 #[.int .u16 x] w fun v w' => v = aggR (ofQ (sgQ x)) ∧ Below w.heap.size w w' := by
  have hS := St.init w
  refine enter Tryz.func56 rfl Tryz.ntmps56 rfl ?_
  repeat (with_reducible first | refine c_seq ?_ | refine c_block ?_ | refine c_skip ?_ | refine x_then ?_ | refine x_block ?_)
  refine c_reg ?_
  refine l_heavy rfl (s_alloc  vi_49 hS ?_)
  intro b2 wz1 hS hBz1
  refine l_nil ?_
  repeat (with_reducible first | refine c_seq ?_ | refine c_block ?_ | refine c_skip ?_ | refine x_then ?_ | refine x_block ?_)
  refine c_reg ?_
  refine l_pure rfl (s_move  rfl ?_)
  refine l_pure rfl (s_quo  rfl rfl (by omega) (quo_u16 x 2 hx) ?_)
  refine l_heavy rfl (s_call Tryz.call86 rfl (Amount_ok (x / 2) _ (by omega)) ?_)
  rintro _ wc2 ⟨rfl, hBc2⟩
  replace hS := hS.grow hBc2
  refine l_heavy rfl (s_alloc  vi_49 hS ?_)
  intro b3 wz3 hS hBz3
  refine l_heavy rfl (s_sta (k := 0)  rfl rfl vi_49 hS rfl rfl rfl (Nat.le_of_ble_eq_true rfl) rfl ?_)
  intro wz4 hS
  refine l_nil ?_
  repeat (with_reducible first | refine c_seq ?_ | refine c_block ?_ | refine c_skip ?_ | refine x_then ?_ | refine x_block ?_)
  refine c_reg ?_
  refine l_pure rfl (s_move  rfl ?_)
  refine l_pure rfl (s_rem  rfl rfl (by omega) (Int.tmod_eq_emod_of_nonneg (by omega)) ?_)
  refine l_pure rfl (s_eql  rfl rfl ?_)
  refine l_nil ?_
  repeat (with_reducible first | refine c_seq ?_ | refine c_block ?_ | refine c_skip ?_ | refine x_then ?_ | refine x_block ?_)
  by_cases h : x % 2 = 1
  · have e : sgQ x = - amtQ (x / 2) := if_pos h
    rw [e]
    refine c_yes rfl (decide_eq_true (by omega)) ?_
    repeat (with_reducible first | refine c_seq ?_ | refine c_block ?_ | refine c_skip ?_ | refine x_then ?_ | refine x_block ?_)
    refine c_reg ?_
    refine l_read rfl (s_ldo (k := 0)  rfl vi_49 hS rfl rfl rfl (.inl rfl) ?_)
    refine l_heavy rfl (s_call Tryz.call49 rfl (rOpposite_ok (amtQ (x / 2)) _) ?_)
    rintro _ wc5 ⟨rfl, hBc5⟩
    replace hS := hS.grow hBc5
    refine l_heavy rfl (s_sta (k := 1)  rfl rfl vi_49 hS rfl rfl rfl (Nat.le_of_ble_eq_true rfl) rfl ?_)
    intro wz6 hS
    refine l_nil ?_
    repeat (with_reducible first | refine c_seq ?_ | refine c_block ?_ | refine c_skip ?_ | refine x_then ?_ | refine x_block ?_)
    refine c_ret ?_
    repeat (with_reducible first | refine x_then_ret ?_ | refine x_block_ret ?_)
    refine r_cell (k := 1) rfl rfl vi_49 hS rfl rfl ?_
    exact ⟨rfl, hS.below⟩
  · have e : sgQ x = amtQ (x / 2) := if_neg h
    rw [e]
    refine c_no rfl (decide_eq_false (by omega)) ?_
    repeat (with_reducible first | refine c_seq ?_ | refine c_block ?_ | refine c_skip ?_ | refine x_then ?_ | refine x_block ?_)
    refine c_reg ?_
    refine l_read rfl (s_ldo (k := 0)  rfl vi_49 hS rfl rfl rfl (.inl rfl) ?_)
    refine l_heavy rfl (s_sta (k := 1)  rfl rfl vi_49 hS rfl rfl rfl (Nat.le_of_ble_eq_true rfl) rfl ?_)
    intro wz7 hS
    refine l_nil ?_
    repeat (with_reducible first | refine c_seq ?_ | refine c_block ?_ | refine c_skip ?_ | refine x_then ?_ | refine x_block ?_)
    refine c_ret ?_
    repeat (with_reducible first | refine x_then_ret ?_ | refine x_block_ret ?_)
    refine r_cell (k := 1) rfl rfl vi_49 hS rfl rfl ?_
    exact ⟨rfl, hS.below⟩
set_option maxHeartbeats 4000000 in
theorem Matrix_ok (n m : Nat) (vl : Value) (l : List Nat) (w : World) (hl : Sl (uk .u16) 1 w vl l) (hlb : ∀ x ∈ l, x < 65536) (hn1 : 1 ≤ n) (hn : n ≤ 16) (hm1 : 1 ≤ m) (hm : m ≤ 16) :
    Ret Tryz.prog 26 #[.int .i64 n, .int .i64 m, vl] w fun r w' => (∃ bo cap so R, r = .slice (some ⟨bo, 0, none⟩) n cap ∧ n ≤ cap ∧ cap ≤ 9223372036854775807 ∧ MatG R n m (qM (matQ l m)) ∧ St w w' (mD encR 49 23 bo (R.map Rw.v ++ so) R [])) ∧ Below w.heap.size w w' := by
  have hmx := hl.maxLen
  have hS := St.init w
  have hkm : ∀ i j, i < n → j ≤ m → i * m + j ≤ 16 * 16 + 16 := fun i j hi hj => by
    have := Nat.mul_le_mul (show i ≤ 16 by omega) hm
    omega
  refine enter Tryz.func26 rfl Tryz.ntmps26 rfl ?_
  repeat (with_reducible first | refine c_seq ?_ | refine c_block ?_ | refine c_skip ?_ | refine x_then ?_ | refine x_block ?_)
  refine c_reg ?_
  refine l_pure rfl (s_asg  rfl ?_)
  refine l_nil ?_
  repeat (with_reducible first | refine c_seq ?_ | refine c_block ?_ | refine c_skip ?_ | refine x_then ?_ | refine x_block ?_)
  refine c_reg ?_
  refine l_pure rfl (s_asg  rfl ?_)
  refine l_nil ?_
  repeat (with_reducible first | refine c_seq ?_ | refine c_block ?_ | refine c_skip ?_ | refine x_then ?_ | refine x_block ?_)
  refine c_reg ?_
  refine l_pure rfl (s_asg  rfl ?_)
  refine l_nil ?_
  repeat (with_reducible first | refine c_seq ?_ | refine c_block ?_ | refine c_skip ?_ | refine x_then ?_ | refine x_block ?_)
  refine c_reg ?_
  refine l_pure rfl (s_asg  rfl ?_)
  refine l_nil ?_
  repeat (with_reducible first | refine c_seq ?_ | refine c_block ?_ | refine c_skip ?_ | refine x_then ?_ | refine x_block ?_)
  refine c_loop (σ := Nat) (fun i ρ w' => i ≤ n ∧ ρ 0 = .int .i64 n ∧ ρ 1 = .int .i64 m ∧ ρ 2 = vl ∧ ρ 8 = .int .i64 (i * m : Nat) ∧ ρ 9 = .int .i64 i ∧ ∃ vo LO R, ρ 7 = vo ∧ MatG R i m (qM (matQ l m)) ∧ Gl enV 23 1 vo (R.map Rw.v) LO ∧ St w w' (R.map (Rw.blk encR 49) ++ LO)) (fun i => n - i) 0
    ⟨Nat.zero_le _, rfl, rfl, rfl, vi rfl (by omega), rfl, _, [], [], rfl, ⟨rfl, fun i hi => absurd hi (Nat.not_lt_zero _), fun i hi => absurd hi (Nat.not_lt_zero _)⟩, Gl.nil _ _ _, hS⟩ ?_
  clear hS
  rintro i ρ w2 ⟨hi, h0, h1, h2, h8, h9, vo, LO, R, h7, hR, hG, hS⟩
  have hvl : (R.map Rw.v).length = i := by rw [List.length_map, hR.len]
  repeat (with_reducible first | refine c_seq ?_ | refine c_block ?_ | refine c_skip ?_ | refine x_then ?_ | refine x_block ?_)
  refine c_reg ?_
  refine l_pure rfl (s_move  h9 ?_)
  refine l_pure rfl (s_move  h0 ?_)
  refine l_pure rfl (s_lss  rfl rfl ?_)
  refine l_nil ?_
  repeat (with_reducible first | refine c_seq ?_ | refine c_block ?_ | refine c_skip ?_ | refine x_then ?_ | refine x_block ?_)
  by_cases hlt : i < n
  · refine c_yes rfl (decide_eq_true (by omega)) ?_
    repeat (with_reducible first | refine c_seq ?_ | refine c_block ?_ | refine c_skip ?_ | refine x_then ?_ | refine x_block ?_)
    have hsm : (i + 1) * m = i * m + m := Nat.succ_mul i m
    repeat (with_reducible first | refine c_seq ?_ | refine c_block ?_ | refine c_skip ?_ | refine x_then ?_ | refine x_block ?_)
    refine c_reg ?_
    refine l_pure rfl (s_asg  rfl ?_)
    refine l_nil ?_
    repeat (with_reducible first | refine c_seq ?_ | refine c_block ?_ | refine c_skip ?_ | refine x_then ?_ | refine x_block ?_)
    refine c_reg ?_
    refine l_pure rfl (s_asg  rfl ?_)
    refine l_nil ?_
    repeat (with_reducible first | refine c_seq ?_ | refine c_skip ?_ | refine x_then ?_ | refine x_block ?_)
    refine c_cut1 (fun ρ w' => ρ 0 = .int .i64 n ∧ ρ 1 = .int .i64 m ∧ ρ 2 = vl ∧ ρ 7 = vo ∧ ρ 8 = .int .i64 ((i + 1) * m : Nat) ∧ ρ 9 = .int .i64 i ∧ ∃ sr Lr, ρ 10 = sr ∧ Gl encR 49 3 sr (tab m (qM (matQ l m) i)) Lr ∧ St w w' ((R.map (Rw.blk encR 49) ++ LO) ++ Lr)) ?_ ?_
    · repeat (with_reducible first | refine c_seq ?_ | refine c_block ?_ | refine c_skip ?_ | refine x_then ?_ | refine x_block ?_)
      refine c_loop (σ := Nat) (fun j ρ w' => j ≤ m ∧ ρ 0 = .int .i64 n ∧ ρ 1 = .int .i64 m ∧ ρ 2 = vl ∧ ρ 7 = vo ∧ ρ 8 = .int .i64 (i * m + j : Nat) ∧ ρ 9 = .int .i64 i ∧ ρ 11 = .int .i64 j ∧ ∃ sr Lr, ρ 10 = sr ∧ Gl encR 49 3 sr (tab j (qM (matQ l m) i)) Lr ∧ St w w' ((R.map (Rw.blk encR 49) ++ LO) ++ Lr)) (fun j => m - j) 0
        ⟨Nat.zero_le _, by assumption, by assumption, by assumption, by assumption, by assumption, by assumption, rfl, _, [], rfl, Gl.nil _ _ _, by rw [List.append_nil]; exact hS⟩ ?_
      clear hS
      rintro j ρ w3 ⟨hj, h0, h1, h2, h7, h8, h9, h11, sr, Lr, h10, hGr, hS⟩
      have htl := tab_len j (qM (matQ l m) i)
      have hkj := hkm i j hlt hj
      repeat (with_reducible first | refine c_seq ?_ | refine c_block ?_ | refine c_skip ?_ | refine x_then ?_ | refine x_block ?_)
      refine c_reg ?_
      refine l_pure rfl (s_move  h11 ?_)
      refine l_pure rfl (s_move  h1 ?_)
      refine l_pure rfl (s_lss  rfl rfl ?_)
      refine l_nil ?_
      repeat (with_reducible first | refine c_seq ?_ | refine c_block ?_ | refine c_skip ?_ | refine x_then ?_ | refine x_block ?_)
      by_cases hjl : j < m
      · refine c_yes rfl (decide_eq_true (by omega)) ?_
        repeat (with_reducible first | refine c_seq ?_ | refine c_block ?_ | refine c_skip ?_ | refine x_then ?_ | refine x_block ?_)
        refine c_reg ?_
        refine l_pure rfl (s_build  rfl bz_49 ?_)
        refine l_heavy rfl (s_alloc  vi_49 hS ?_)
        intro b12 wz1 hS hBz1
        refine l_heavy rfl (s_sta (k := 0)  rfl rfl vi_49 hS rfl rfl rfl (Nat.le_of_ble_eq_true rfl) rfl ?_)
        intro wz2 hS
        refine l_nil ?_
        repeat (with_reducible first | refine c_seq ?_ | refine c_block ?_ | refine c_skip ?_ | refine x_then ?_ | refine x_block ?_)
        replace hS : St w _ ((b12, 49, encR zRR) :: ((R.map (Rw.blk encR 49) ++ LO) ++ Lr)) := hS
        rw [encR_zero] at hS
        repeat (with_reducible first | refine c_seq ?_ | refine c_block ?_ | refine c_skip ?_ | refine x_then ?_ | refine x_block ?_)
        refine c_reg ?_
        refine l_pure rfl (s_move  h8 ?_)
        refine l_pure rfl (s_move  h2 ?_)
        refine l_pure rfl (s_lenr  rfl (hl.below hS.below) ⟨_, Tryz.underlying54⟩ ?_)
        refine l_pure rfl (s_lss  rfl rfl ?_)
        refine l_nil ?_
        repeat (with_reducible first | refine c_seq ?_ | refine c_block ?_ | refine c_skip ?_ | refine x_then ?_ | refine x_block ?_)
        refine c_cut1 (fun ρ w' => ρ 0 = .int .i64 n ∧ ρ 1 = .int .i64 m ∧ ρ 2 = vl ∧ ρ 7 = vo ∧ ρ 8 = .int .i64 (i * m + j : Nat) ∧ ρ 9 = .int .i64 i ∧ ρ 10 = sr ∧ ρ 11 = .int .i64 j ∧ ρ 12 = .pointer (some ⟨b12, 0, none⟩) ∧ St w w' (((b12, 49, encR (ofQ (matQ l m i j))) :: (R.map (Rw.blk encR 49) ++ LO)) ++ Lr)) ?_ ?_
        · by_cases hk : i * m + j < l.length
          · have e : matQ l m i j = sgQ (l.getD (i * m + j) 0) := if_pos hk
            rw [e]
            refine c_yes rfl (decide_eq_true (by omega)) ?_
            repeat (with_reducible first | refine c_seq ?_ | refine c_block ?_ | refine c_skip ?_ | refine x_then ?_ | refine x_block ?_)
            refine c_reg ?_
            refine l_pure rfl (s_move  h2 ?_)
            refine l_pure rfl (s_move  h8 ?_)
            refine l_pure rfl (s_ixr (i := (i * m + j))  rfl rfl (hl.below hS.below) (by omega) (by first | omega | (simp; done) | (simp; omega)) si_54 ?_)
            refine l_read rfl (s_lde (i := (i * m + j)) 0  rfl vi_88 (hl.below hS.below) (by first | omega | (simp; done) | (simp; omega)) rfl rfl (.inr rfl) ?_)
            refine l_heavy rfl (s_call Tryz.call56 rfl (Signed_ok (l.getD (i * m + j) 0) _ (hlb _ (getD_mem l _ 0 hk))) ?_)
            rintro _ wc3 ⟨rfl, hBc3⟩
            replace hS := hS.grow hBc3
            refine l_heavy rfl (s_sta (k := 0)  rfl rfl vi_49 hS rfl rfl rfl (Nat.le_of_ble_eq_true rfl) rfl ?_)
            intro wz4 hS
            refine l_nil ?_
            repeat (with_reducible first | refine c_seq ?_ | refine c_block ?_ | refine c_skip ?_ | refine x_then ?_ | refine x_block ?_)
            exact ⟨_, rfl, by assumption, by assumption, by assumption, by assumption, by assumption, by assumption, by assumption, by assumption, rfl, hS⟩
          · have e : matQ l m i j = 0 := if_neg hk
            rw [e]
            refine c_no rfl (decide_eq_false (by omega)) ?_
            repeat (with_reducible first | refine c_seq ?_ | refine c_block ?_ | refine c_skip ?_ | refine x_then ?_ | refine x_block ?_)
            exact ⟨_, rfl, by assumption, by assumption, by assumption, by assumption, by assumption, by assumption, by assumption, by assumption, rfl, hS⟩
        clear hS
        rintro ρ w4 ⟨h0, h1, h2, h7, h8, h9, h10, h11, h12, hS⟩
        repeat (with_reducible first | refine c_seq ?_ | refine c_block ?_ | refine c_skip ?_ | refine x_then ?_ | refine x_block ?_)
        refine c_reg ?_
        refine l_pure rfl (s_move  h8 ?_)
        refine l_pure rfl (s_add  rfl rfl (IntWalk.i64_in _ (by omega)) ?_)
        refine l_pure rfl (s_asg  rfl ?_)
        refine l_nil ?_
        repeat (with_reducible first | refine c_seq ?_ | refine c_block ?_ | refine c_skip ?_ | refine x_then ?_ | refine x_block ?_)
        refine c_reg ?_
        refine l_pure rfl (s_move  h10 ?_)
        refine l_read rfl (s_ldo (k := 0)  h12 vi_49 hS rfl rfl rfl (.inl rfl) ?_)
        refine l_heavy rfl (s_bsl (vs := [aggR (ofQ (matQ l m i j))])  rfl si_23 rfl (by decide) (by decide) (by decide) (by simp [Value.cells, aggR]) rfl hS ?_)
        intro b37 wz5 hS hBz5
        refine l_heavy rfl (s_appl [ofQ (matQ l m i j)]  rfl rfl si_23 (by decide) hGr hS rfl rfl encR_len (encR_one [ofQ (matQ l m i j)]) (by first | omega | (simp only [List.length_cons, List.length_nil]; omega)) (by first | omega | (simp only [List.length_cons, List.length_nil]; omega)) ?_)
        intro va6 La6 wa6 hGr hS hga6
        refine l_pure rfl (s_asg  rfl ?_)
        refine l_nil ?_
        repeat (with_reducible first | refine c_seq ?_ | refine c_block ?_ | refine c_skip ?_ | refine x_then ?_ | refine x_block ?_)
        rw [← tab_succ (f := qM (matQ l m) i)] at hGr
        replace hS := hS.drop (List.sublist_cons_self _ _)
        repeat (with_reducible first | refine c_seq ?_ | refine c_block ?_ | refine c_skip ?_ | refine x_then ?_ | refine x_block ?_)
        refine c_reg ?_
        refine l_pure rfl (s_move  h11 ?_)
        refine l_pure rfl (s_add  rfl rfl (IntWalk.i64_in _ (by omega)) ?_)
        refine l_pure rfl (s_asg  rfl ?_)
        refine l_nil ?_
        repeat (with_reducible first | refine c_seq ?_ | refine c_block ?_ | refine c_skip ?_ | refine x_then ?_ | refine x_block ?_)
        exact ⟨j + 1, _, rfl, ⟨hjl, by assumption, by assumption, by assumption, by assumption, vi rfl (by omega), by assumption, vi rfl (by omega), _, _, rfl, hGr, hS⟩, by omega⟩
      · refine c_no rfl (decide_eq_false (by omega)) ?_
        repeat (with_reducible first | refine c_seq ?_ | refine c_block ?_ | refine c_skip ?_ | refine x_then ?_ | refine x_block ?_)
        refine c_exit ?_
        repeat (with_reducible first | refine x_then_exit ?_ | refine x_block_exit ?_ | refine x_block_pass rfl ?_)
        repeat (with_reducible first | refine c_seq ?_ | refine c_block ?_ | refine c_skip ?_ | refine x_then ?_ | refine x_block ?_)
        obtain rfl : m = j := by omega
        exact ⟨_, rfl, h0, h1, h2, h7, vi h8 (by rw [hsm]), h9, _, Lr, h10, hGr, hS⟩
    clear hS
    rintro ρ w3 ⟨h0, h1, h2, h7, h8, h9, sr, Lr, h10, hGr, hS⟩
    obtain ⟨nr, hX, rfl, rfl, hc1, hc2, _⟩ := Gl_blk hGr (by intro e; have := congrArg List.length e; rw [tab_len] at this; simp at this; omega)
    replace hS := hS.perm (perm_row (R.map (Rw.blk encR 49)) LO (nr.blk encR 49))
    have hR2 := MatG_snoc hR hX ⟨by rw [hX, tab_len] at hc1; exact hc1, hc2⟩
    repeat (with_reducible first | refine c_seq ?_ | refine c_block ?_ | refine c_skip ?_ | refine x_then ?_ | refine x_block ?_)
    refine c_reg ?_
    refine l_pure rfl (s_move  h7 ?_)
    refine l_pure rfl (s_move  h10 ?_)
    refine l_heavy rfl (s_bsl (vs := [nr.v])  rfl si_22 rfl (by decide) (by decide) (by decide) (by simp [Value.cells, Rw.v]) rfl hS ?_)
    intro b41 wz7 hS hBz7
    refine l_heavy rfl (s_appl [nr.v]  rfl rfl si_22 (by decide) hG hS rfl rfl (fun _ => rfl) (fun u hu => by rw [List.mem_singleton.1 (show u ∈ [nr.v] from hu)]; rfl) (by first | omega | (simp only [List.length_cons, List.length_nil]; omega)) (by first | omega | (simp only [List.length_cons, List.length_nil]; omega)) ?_)
    intro va8 La8 wa8 hG hS hga8
    refine l_pure rfl (s_asg  rfl ?_)
    refine l_nil ?_
    repeat (with_reducible first | refine c_seq ?_ | refine c_block ?_ | refine c_skip ?_ | refine x_then ?_ | refine x_block ?_)
    rw [show R.map Rw.v ++ [nr.v] = (R ++ [nr]).map Rw.v by rw [List.map_append]; rfl] at hG
    have eb : ∀ T : List Blk, (nr.blk encR 49 :: R.map (Rw.blk encR 49) ++ T).Perm ((R ++ [nr]).map (Rw.blk encR 49) ++ T) := by
      intro T
      rw [List.map_append]
      exact List.Perm.append_right _ (List.perm_append_singleton _ _).symm
    replace hS := hS.perm (eb _)
    repeat (with_reducible first | refine c_seq ?_ | refine c_block ?_ | refine c_skip ?_ | refine x_then ?_ | refine x_block ?_)
    refine c_reg ?_
    refine l_pure rfl (s_move  h9 ?_)
    refine l_pure rfl (s_add  rfl rfl (IntWalk.i64_in _ (by omega)) ?_)
    refine l_pure rfl (s_asg  rfl ?_)
    refine l_nil ?_
    repeat (with_reducible first | refine c_seq ?_ | refine c_block ?_ | refine c_skip ?_ | refine x_then ?_ | refine x_block ?_)
    exact ⟨i + 1, _, rfl, ⟨hlt, by assumption, by assumption, by assumption, by assumption, vi rfl (by omega), _, _, R ++ [nr], rfl, hR2, hG, hS⟩, by omega⟩
  · refine c_no rfl (decide_eq_false (by omega)) ?_
    repeat (with_reducible first | refine c_seq ?_ | refine c_block ?_ | refine c_skip ?_ | refine x_then ?_ | refine x_block ?_)
    refine c_exit ?_
    repeat (with_reducible first | refine x_then_exit ?_ | refine x_block_exit ?_ | refine x_block_pass rfl ?_)
    repeat (with_reducible first | refine c_seq ?_ | refine c_block ?_ | refine c_skip ?_ | refine x_then ?_ | refine x_block ?_)
    obtain rfl : n = i := by omega
    obtain ⟨_, ⟨_, h2, _⟩ | ⟨bo, cap, so, rfl, rfl, h5, h6, _⟩⟩ := hG
    · omega
    · rw [enV_flat] at hS
      rw [hvl] at h7 h5
      repeat (with_reducible first | refine c_seq ?_ | refine c_block ?_ | refine c_skip ?_ | refine x_then ?_ | refine x_block ?_)
      refine c_reg ?_
      refine l_pure rfl (s_move  h7 ?_)
      refine l_pure rfl (s_asg  rfl ?_)
      refine l_nil ?_
      repeat (with_reducible first | refine c_seq ?_ | refine c_block ?_ | refine c_skip ?_ | refine x_then ?_ | refine x_block ?_)
      refine c_ret ?_
      repeat (with_reducible first | refine x_then_ret ?_ | refine x_block_ret ?_)
      refine r_one rfl rfl ?_
      refine ⟨⟨bo, cap, so, R, rfl, h5, by unfold Go.maxLen at h6; omega, hR, hS.perm ?_⟩, hS.below⟩
      unfold mD
      rw [List.append_nil]
      exact List.perm_append_singleton _ _
end Go.Proofs.YtblfipdfklpmmaaGreatDoor
namespace Go.Proofs.YtblfipdfklpmmaaGreatDoor
open Go Go.RowKit Go.Sx
theorem rdc_d_ne (n : Nat) (A : Mx) : ∀ c, (rdc n A c).d ≠ 0
  | 0 => by show (1 : Rat) ≠ 0; decide
  | c + 1 => by
    have ih := rdc_d_ne n A c
    have hl := (rinv n A c).len
    show (rstp n c (rdc n A c)).d ≠ 0
    generalize rdc n A c = s at *
    obtain ⟨_, _, _, h4⟩ := pv_spec s.M c hl
    unfold rstp
    split
    · next h =>
      intro e
      rcases Rat.mul_eq_zero.1 e with g | g
      · split at g
        · exact ih g
        · exact ih (by have := congrArg (fun x : Rat => -x) g; simpa using this)
      · exact h4 h g
    · exact ih
theorem detP_zero {n : Nat} {A : Mx} : detP n A = 0 ↔ (rdc n A n).P.length ≠ n := by
  unfold detP
  by_cases h : (rdc n A n).P.length = n
  · rw [if_pos h]
    exact ⟨fun e => absurd e (rdc_d_ne n A n), fun e => absurd h e⟩
  · rw [if_neg h]
    exact ⟨fun _ => h, fun _ => rfl⟩
/-- What the reduced form's last column says of the equations. -/
theorem sol_eq {n : Nat} {q : Mx} (hf : (rdc n q n).P.length = n) : ∀ i, i < n → sumF (fun j => q i j * (rdc n q n).M j n) n = q i n := by
  have hI := rinv n q n
  have hk : Ker n (n + 1) q (fun j => if j < n then (rdc n q n).M j n else -1) := by
    rw [← ker_rdc n (n + 1) q _ n]
    intro i hi
    show sumF _ n + (rdc n q n).M i n * (if n < n then _ else -1) = 0
    rw [if_neg (Nat.lt_irrefl _), sumF_one (p := i) hi fun j hj hne => by
      show (rdc n q n).M i j * (if j < n then (rdc n q n).M j n else -1) = 0
      rw [full_unit hI hf hj hi, dlt_ne (fun e => hne e.symm), Rat.zero_mul]]
    rw [full_unit hI hf hi hi, dlt_self]
    show 1 * (if i < n then (rdc n q n).M i n else -1) + (rdc n q n).M i n * -1 = 0
    rw [if_pos hi]
    grind
  intro i hi
  have h := hk i hi
  have h2 : sumF (fun j => q i j * (if j < n then (rdc n q n).M j n else -1)) n = sumF (fun j => q i j * (rdc n q n).M j n) n := sumF_congr fun j hj => by rw [if_pos hj]
  have h3 : dotM q (fun j => if j < n then (rdc n q n).M j n else -1) (n + 1) i = sumF (fun j => q i j * (if j < n then (rdc n q n).M j n else -1)) n + q i n * (if n < n then (rdc n q n).M n n else -1) := rfl
  rw [h3, h2, if_neg (Nat.lt_irrefl _)] at h
  grind
def mkA (n m : Nat) (M : Mx) : List (List RR) := tabM n m (qM M)
theorem mkA_len (n m : Nat) (M : Mx) : (mkA n m M).length = n := tabM_len _ _ _
theorem mkA_row {n m : Nat} (M : Mx) {i : Nat} (hi : i < n) : (mkA n m M).getD i [] = tab m (qM M i) := tabM_row _ hi
theorem mkA_cols {n m : Nat} (M : Mx) (hn : 1 ≤ n) : colsA (mkA n m M) = m := by unfold colsA; rw [mkA_row M (by omega), tab_len]
theorem mkA_RM {n m : Nat} (M : Mx) {i j : Nat} (hi : i < n) (hj : j < m) : RM (mkA n m M) i j = M i j := by
  unfold RM
  rw [mkA_row M hi, tab_get _ _ hj]
  exact toQ_ofQ _
theorem mkA_even {n m : Nat} (M : Mx) (hn : 1 ≤ n) : evenA (mkA n m M) = true := List.all_eq_true.2 fun r hr => by
  obtain ⟨i, hi, rfl⟩ := tab_mem (show r ∈ tab n fun i => tab m (qM M i) from hr)
  rw [mkA_cols M hn, tab_len]
  exact decide_eq_true rfl
theorem mkA_shp {n m : Nat} (M : Mx) (hn : 1 ≤ n) (hn2 : n ≤ 16) (hm : 1 ≤ m) (hm2 : m ≤ 16) : shpE (mkA n m M) = 0 := by
  unfold shpE
  rw [mkA_len, mkA_cols M hn, if_neg (by omega), mkA_even M hn, if_neg (by decide), if_neg (by omega)]
theorem mkA_sq {n : Nat} (M : Mx) (hn : 1 ≤ n) (hn2 : n ≤ 16) : sqE (mkA n n M) = 0 := by
  unfold sqE
  rw [mkA_shp M hn hn2 hn hn2, if_neg (by decide), mkA_len, mkA_cols M hn, if_neg (by omega)]
theorem mkA_RB {n m K : Nat} {M : Mx} (h : ∀ i, i < n → ∀ j, j < m → L (M i j) ≤ K) : RBM K (mkA n m M) := fun a ha r hr => by
  obtain ⟨i, hi, rfl⟩ := tab_mem (show a ∈ tab n fun i => tab m (qM M i) from ha)
  obtain ⟨j, hj, rfl⟩ := tab_mem hr
  rw [Lr_ofQ]; exact h i hi j hj
theorem matA_RB (n m : Nat) (l : List Nat) (c : Nat) : RBM 1 (mkA n m (matQ l c)) := mkA_RB fun i _ j _ => L_matQ l c i j
def vecA (n : Nat) (x : Nat → Rat) : List RR := tab n fun j => ofQ (x j)
theorem vecA_get {n : Nat} (x : Nat → Rat) {j : Nat} (hj : j < n) : VX (vecA n x) j = x j := by
  unfold VX vecA
  rw [tab_get _ _ hj]; exact toQ_ofQ _
section
variable {n : Nat} {M : Mx} {b : Nat → Rat}
theorem mkA_AUG : ∀ i, i < n → ∀ j, j < n + 1 → AUG (mkA n n M) (vecA n b) i j = if j < n then M i j else b i := by
  intro i hi j hj
  unfold AUG
  rw [mkA_len]
  by_cases h : j < n
  · rw [if_pos h, if_pos h]; exact mkA_RM M hi h
  · rw [if_neg h, if_pos (by omega), if_neg h]; exact vecA_get b hi
theorem mkA_full : (slD (mkA n n M) (vecA n b)).P.length = n ↔ (rdc n (RM (mkA n n M)) n).P.length = n := by
  unfold slD
  rw [mkA_len]
  have h := (rdc_cols (n := n) (m := n) (A := AUG (mkA n n M) (vecA n b)) (B := RM (mkA n n M)) (fun i hi j hj => by
    rw [mkA_AUG i hi j (by omega), if_pos hj, mkA_RM M hi hj]) n (Nat.le_refl _)).2.1
  rw [h]
theorem mkA_slE (hn : 1 ≤ n) (hn2 : n ≤ 16) : slE (mkA n n M) (vecA n b) = if dtQ (mkA n n M) = 0 then 5 else 0 := by
  have hd : dtQ (mkA n n M) = detP n (RM (mkA n n M)) := by unfold dtQ; rw [if_pos (mkA_sq M hn hn2), mkA_len]
  unfold slE
  rw [mkA_sq M hn hn2, if_neg (by decide), mkA_len, if_neg (by unfold vecA; rw [tab_len]; omega), hd]
  by_cases h : (slD (mkA n n M) (vecA n b)).P.length = n
  · rw [if_pos h, if_neg (fun e => detP_zero.1 e (mkA_full.1 h))]
  · rw [if_neg h, if_pos (detP_zero.2 fun e => h (mkA_full.2 e))]
theorem mkA_sol (hn : 1 ≤ n) (hn2 : n ≤ 16) (hd : dtQ (mkA n n M) ≠ 0) : apL (mkA n n M) (slL (mkA n n M) (vecA n b)) = vecA n b ∧ apE (mkA n n M) (slL (mkA n n M) (vecA n b)) = 0 := by
  have he : slE (mkA n n M) (vecA n b) = 0 := by rw [mkA_slE hn hn2, if_neg hd]
  have hf : (slD (mkA n n M) (vecA n b)).P.length = n := by
    have hdd : dtQ (mkA n n M) = detP n (RM (mkA n n M)) := by unfold dtQ; rw [if_pos (mkA_sq M hn hn2), mkA_len]
    rw [hdd] at hd
    exact mkA_full.2 (Decidable.not_not.1 fun h => hd (detP_zero.2 h))
  have hl : slL (mkA n n M) (vecA n b) = vecA n fun i => (slD (mkA n n M) (vecA n b)).M i n := by
    unfold slL vecA
    rw [show slE (mkA n n M) (tab n fun j => ofQ (b j)) = 0 from he, if_pos rfl, mkA_len]
  have hxl : (slL (mkA n n M) (vecA n b)).length = n := by rw [hl]; exact tab_len _ _
  have hap : apE (mkA n n M) (slL (mkA n n M) (vecA n b)) = 0 := by
    unfold apE
    rw [mkA_shp M hn hn2 hn hn2, if_neg (by decide), hxl, mkA_cols M hn, if_neg (by omega)]
  refine ⟨?_, hap⟩
  unfold apL
  rw [if_pos hap, mkA_len, mkA_cols M hn]
  refine tab_congr fun i hi => ?_
  congr 1
  have hs := sol_eq (n := n) (q := AUG (mkA n n M) (vecA n b)) (by unfold slD at hf; rw [mkA_len] at hf; exact hf) i hi
  rw [mkA_AUG i hi n (by omega), if_neg (Nat.lt_irrefl _)] at hs
  rw [← hs]
  refine sumF_congr fun j hj => ?_
  rw [mkA_AUG i hi j (by omega), if_pos hj, mkA_RM M hi hj, hl, vecA_get _ hj]
  unfold slD
  rw [mkA_len]
end
theorem slL_RB {n : Nat} {M : Mx} {b : Nat → Rat} (hn : 1 ≤ n) (hn4 : n ≤ 5) (hM : ∀ i, i < n → ∀ j, j < n → L (M i j) ≤ 1) (hb : ∀ i, i < n → L (b i) ≤ 1) : RB 2048 (slL (mkA n n M) (vecA n b)) := by
  intro r hr
  unfold slL at hr
  split at hr
  · obtain ⟨i, hi, rfl⟩ := tab_mem hr
    rw [mkA_len] at hi ⊢
    rw [Lr_ofQ]
    have h := (rdc_L (n := n) (m := n + 1) (M := AUG (mkA n n M) (vecA n b)) (K := 1) (fun i hi j hj => by
      rw [mkA_AUG i hi j hj]
      split
      · next h => exact hM i hi j h
      · exact hb i hi) n (by omega)).1 i hi n (by omega)
    have hp := (rinv n (AUG (mkA n n M) (vecA n b)) n).len
    have hm := BB_mono 1 (r := (rdc n (AUG (mkA n n M) (vecA n b)) n).P.length) (s := 5) (by omega)
    have h5 : BB 1 5 = 2048 := by decide
    unfold slD
    rw [mkA_len]
    omega
  · cases hr
theorem MatG_mkA {R : List (Rw RR)} {n m cap bo : Nat} {M : Mx} {so : List Value} {w0 w : World} {tR tS : TypeId} {H : List Blk} (h : MatG R n m (qM M)) (hS : St w0 w (mD encR tR tS bo (R.map Rw.v ++ so) R H)) (h1 : n ≤ cap) (h2 : cap ≤ 9223372036854775807) :
    Mts encR 3 w (.slice (some ⟨bo, 0, none⟩) n cap) (mkA n m M) (R.map Rw.v) := h.mtsD [] hS encR_len h1 h2
set_option maxHeartbeats 1000000 in
theorem LinearSolution_ok (x : Nat) (vl vr : Value) (l r : List Nat) (w : World) (hl : Sl (uk .u16) 1 w vl l) (hlb : ∀ x ∈ l, x < 65536) (hr : Sl (uk .u16) 1 w vr r) (hrb : ∀ x ∈ r, x < 65536) :
    Ret Tryz.prog 8 #[.int .u8 x, vl, vr] w fun v w' => v = .bool true ∧ Below w.heap.size w w' := by
  have hM : MX = 1099511627776 := rfl
  obtain ⟨n, hn⟩ : ∃ n, n = 1 + x % 4 := ⟨_, rfl⟩
  have hn1 : 1 ≤ n := by omega
  have hn4 : n ≤ 4 := by omega
  have hS := St.init w
  refine enter Tryz.func8 rfl Tryz.ntmps8 rfl ?_
  repeat (with_reducible first | refine c_seq ?_ | refine c_block ?_ | refine c_skip ?_ | refine x_then ?_ | refine x_block ?_)
  refine c_reg ?_
  refine l_pure rfl (s_asg  rfl ?_)
  refine l_nil ?_
  repeat (with_reducible first | refine c_seq ?_ | refine c_block ?_ | refine c_skip ?_ | refine x_then ?_ | refine x_block ?_)
  refine c_reg ?_
  refine l_pure rfl (s_move  rfl ?_)
  refine l_pure rfl (s_rem  rfl rfl (by omega) (r := ((x % 4 : Nat) : Int)) (by exact rem_nat x 4) ?_)
  refine l_pure rfl (s_conv  rfl Tryz.underlying3 ⟨_, Tryz.underlying5⟩ (IntWalk.i64_in _ (by omega)) ?_)
  refine l_pure rfl (s_add  rfl rfl (r := (n : Int)) (by rw [hn]; exact wr_i64 _ ⟨rfl, by omega, by omega⟩) ?_)
  refine l_pure rfl (s_asg  rfl ?_)
  refine l_nil ?_
  repeat (with_reducible first | refine c_seq ?_ | refine c_block ?_ | refine c_skip ?_ | refine x_then ?_ | refine x_block ?_)
  refine c_reg ?_
  refine l_pure rfl (s_move  rfl ?_)
  refine l_pure rfl (s_move  rfl ?_)
  refine l_pure rfl (s_move  rfl ?_)
  refine l_heavy rfl (s_call Tryz.call26 rfl (Matrix_ok n n vl l _ (hl.below hS.below) hlb hn1 (by omega) hn1 (by omega)) ?_)
  rintro r_ w1 ⟨⟨bo, cap, so, R, rfl, hc1, hc2, hR, hS1⟩, hB1⟩
  replace hS := hS.grow hB1
  have hm := MatG_mkA hR hS1 hc1 hc2
  clear hS1 hR
  refine l_pure rfl (s_asg  rfl ?_)
  refine l_nil ?_
  repeat (with_reducible first | refine c_seq ?_ | refine c_block ?_ | refine c_skip ?_ | refine x_then ?_ | refine x_block ?_)
  refine c_reg ?_
  refine l_pure rfl (s_move  rfl ?_)
  refine l_pure rfl (s_move  rfl ?_)
  refine l_heavy rfl (s_call Tryz.call26 rfl (Matrix_ok 1 n vr r _ (hr.below hS.below) hrb (by omega) (by omega) hn1 (by omega)) ?_)
  rintro r_ w2 ⟨⟨bo2, cap2, so2, R2, rfl, hd1, hd2, hR2, hS2⟩, hB2⟩
  replace hS := hS.grow hB2
  replace hm := hm.below hB2
  have hl2 : 0 < R2.length := by rw [hR2.len]; exact Nat.one_pos
  have hb := hR2.slD [] hS2 encR_len Nat.one_pos
  refine l_pure rfl (s_ixo (i := 0)  rfl rfl (by omega) (by first | omega | (simp; done) | (simp; omega)) si_22 ?_)
  refine l_read rfl (s_mrowD []  rfl vi_23 hS2 (by omega) (mC_row hl2) ?_)
  refine l_pure rfl (s_asg  rfl ?_)
  refine l_nil ?_
  repeat (with_reducible first | refine c_seq ?_ | refine c_block ?_ | refine c_skip ?_ | refine x_then ?_ | refine x_block ?_)
  obtain ⟨vb2, hvb⟩ : ∃ vb2, vb2 = (R2.getD 0 zRw).v := ⟨_, rfl⟩
  rw [← hvb] at hb ⊢
  clear hS2 hR2
  replace hb : Sl encR 3 w2 vb2 (vecA n (matQ r n 0)) := hb
  have hRB := matA_RB n n l n
  have hRBb : RB 1 (vecA n (matQ r n 0)) := fun y hy => by
    obtain ⟨j, _, rfl⟩ := tab_mem hy
    rw [Lr_ofQ]; exact L_matQ r n 0 j
  have hslE := mkA_slE (M := matQ l n) (b := matQ r n 0) hn1 (by omega)
  have hsol := mkA_sol (M := matQ l n) (b := matQ r n 0) hn1 (by omega)
  have hsB := slL_RB (M := matQ l n) (b := matQ r n 0) hn1 (by omega) (fun i _ j _ => L_matQ l n i j) (fun i _ => L_matQ r n 0 i)
  have hsq := mkA_sq (matQ l n) hn1 (by omega)
  have hsl0 : slE (mkA n n (matQ l n)) (vecA n (matQ r n 0)) ≠ 0 → slL (mkA n n (matQ l n)) (vecA n (matQ r n 0)) = [] := fun h => if_neg h
  have hLd : L (dtQ (mkA n n (matQ l n))) ≤ 2048 := by
    unfold dtQ
    rw [if_pos hsq, mkA_len]
    unfold detP
    have h := (rdc_L (n := n) (m := n) (M := RM (mkA n n (matQ l n))) (K := 1) (fun i hi j hj => by rw [mkA_RM _ hi hj]; exact L_matQ l n i j) n (Nat.le_refl _)).2
    have hp := (rinv n (RM (mkA n n (matQ l n))) n).len
    have hmm := BB_mono 1 (r := (rdc n (RM (mkA n n (matQ l n))) n).P.length) (s := 5) (by omega)
    have h5 : BB 1 5 = 2048 := by decide
    split
    · omega
    · rw [L_zero]; decide
  obtain ⟨A, hA⟩ : ∃ A, A = mkA n n (matQ l n) := ⟨_, rfl⟩
  obtain ⟨B, hBd⟩ : ∃ B, B = vecA n (matQ r n 0) := ⟨_, rfl⟩
  rw [← hA] at hm hRB hslE hsol hsB hsq hsl0 hLd
  rw [← hBd] at hb hRBb hslE hsol hsB hsl0
  repeat (with_reducible first | refine c_seq ?_ | refine c_block ?_ | refine c_skip ?_ | refine x_then ?_ | refine x_block ?_)
  refine c_reg ?_
  refine l_pure rfl (s_move  rfl ?_)
  refine l_pure rfl (s_move  rfl ?_)
  refine l_heavy rfl (s_call Tryz.call12 rfl (lSolve_ok _ _ A _ B 1 _ hm hb hRB hRBb (by decide)) ?_)
  rintro r_ w3 ⟨⟨v3, rfl, hv3⟩, hB3⟩
  replace hS := hS.grow hB3
  replace hm := hm.below hB3
  replace hb := hb.below hB3
  obtain ⟨e, he⟩ : ∃ e, e = slE A B := ⟨_, rfl⟩
  rw [← he] at hslE hsl0
  rw [← he]
  refine l_pure rfl (s_move  rfl ?_)
  refine l_pure rfl (s_ext  rfl rfl ?_)
  refine l_pure rfl (s_ext  rfl rfl ?_)
  refine l_pure rfl (s_asg  rfl ?_)
  refine l_pure rfl (s_asg  rfl ?_)
  refine l_nil ?_
  repeat (with_reducible first | refine c_seq ?_ | refine c_block ?_ | refine c_skip ?_ | refine x_then ?_ | refine x_block ?_)
  refine c_reg ?_
  refine l_pure rfl (s_move  rfl ?_)
  refine l_heavy rfl (s_call Tryz.call22 rfl (lDeterminant_ok _ A _ 1 _ hm hRB (by decide)) ?_)
  rintro r_ w4 ⟨rfl, hB4⟩
  replace hS := hS.grow hB4
  replace hm := hm.below hB4
  replace hb := hb.below hB4
  replace hv3 := hv3.below hB4
  rw [hsq]
  have hW := hS.below
  replace hS := St.init w4
  refine l_pure rfl (s_move  rfl ?_)
  refine l_pure rfl (s_ext  rfl rfl ?_)
  refine l_pure rfl (s_ext  rfl rfl ?_)
  refine l_heavy rfl (s_alloc  vi_49 hS ?_)
  intro b12 wz1 hS hBz1
  refine l_heavy rfl (s_sta (k := 0)  rfl rfl vi_49 hS rfl rfl rfl (Nat.le_of_ble_eq_true rfl) rfl ?_)
  intro wz2 hS
  refine l_pure rfl (s_asg  rfl ?_)
  refine l_nil ?_
  repeat (with_reducible first | refine c_seq ?_ | refine c_block ?_ | refine c_skip ?_ | refine x_then ?_ | refine x_block ?_)
  refine c_forget (fun ρ' => ρ' 8 = .slice (some ⟨bo, 0, none⟩) n cap ∧ ρ' 9 = vb2 ∧ ρ' 10 = v3 ∧ ρ' 11 = .int .i64 e ∧ ρ' 12 = .pointer (some ⟨b12, 0, none⟩) ∧ ρ' 13 = .int .i64 0 ∧ True) ⟨rfl, rfl, rfl, rfl, rfl, rfl, trivial⟩ ?_
  rintro ρk3 ⟨hk3_8, hk3_9, hk3_10, hk3_11, hk3_12, hk3_13, -⟩
  repeat (with_reducible first | refine c_seq ?_ | refine c_block ?_ | refine c_skip ?_ | refine x_then ?_ | refine x_block ?_)
  refine c_reg ?_
  refine l_pure rfl (s_move  hk3_13 ?_)
  refine l_pure rfl (s_neq  rfl rfl ?_)
  refine l_nil ?_
  repeat (with_reducible first | refine c_seq ?_ | refine c_block ?_ | refine c_skip ?_ | refine x_then ?_ | refine x_block ?_)
  refine c_no rfl (rfl) ?_
  repeat (with_reducible first | refine c_seq ?_ | refine c_block ?_ | refine c_skip ?_ | refine x_then ?_ | refine x_block ?_)
  obtain ⟨d, hd⟩ : ∃ d, d = dtQ A := ⟨_, rfl⟩
  rw [← hd] at hLd hslE hsol hS
  repeat (with_reducible first | refine c_seq ?_ | refine c_block ?_ | refine c_skip ?_ | refine x_then ?_ | refine x_block ?_)
  refine c_reg ?_
  refine l_read rfl (s_ldo (k := 0)  hk3_12 vi_49 hS rfl rfl rfl (.inl rfl) ?_)
  refine l_heavy rfl (s_call Tryz.call27 rfl (Sign_ok (ofQ d) _ (by rw [Lr_ofQ]; omega)) ?_)
  rintro _ wc4 ⟨rfl, hBc4⟩
  replace hS := hS.grow hBc4
  refine l_pure rfl (s_eql  rfl rfl ?_)
  refine l_nil ?_
  repeat (with_reducible first | refine c_seq ?_ | refine c_block ?_ | refine c_skip ?_ | refine x_then ?_ | refine x_block ?_)
  rw [toQ_ofQ]
  by_cases hz : d = 0
  · rw [if_pos hz] at hslE
    subst hslE
    rw [hsl0 (by decide)] at hv3
    refine c_yes rfl (decide_eq_true (sgnQ_zero.2 hz)) ?_
    repeat (with_reducible first | refine c_seq ?_ | refine c_block ?_ | refine c_skip ?_ | refine x_then ?_ | refine x_block ?_)
    refine c_reg ?_
    refine l_heavy rfl (s_call Tryz.call11 rfl (Lawake_ok _) ?_)
    rintro r_ wa ⟨rfl, hBa⟩
    replace hS := hS.grow hBa
    refine l_pure rfl (s_move  rfl ?_)
    refine l_pure (gd_yes 46 (by kernel_rfl) rfl rfl) (s_move  hk3_11 ?_)
    refine l_pure (gd_yes 46 (by kernel_rfl) rfl rfl) (s_eql  rfl rfl ?_)
    refine l_pure rfl (s_pick (vb rfl rfl) rfl ?_)
    refine l_pure rfl (s_move  rfl ?_)
    refine l_pure (gd_yes 50 (by kernel_rfl) rfl (decide_eq_true rfl)) (s_move  hk3_10 ?_)
    refine l_pure (gd_yes 50 (by kernel_rfl) rfl (decide_eq_true rfl)) (s_lenr  rfl (hv3.below hS.below) ⟨_, Tryz.underlying23⟩ ?_)
    refine l_pure (gd_yes 50 (by kernel_rfl) rfl (decide_eq_true rfl)) (s_eql  rfl rfl ?_)
    refine l_pure rfl (s_pick (vb rfl (decide_eq_true rfl)) rfl ?_)
    refine l_pure rfl (s_asg  rfl ?_)
    refine l_nil ?_
    repeat (with_reducible first | refine c_seq ?_ | refine c_block ?_ | refine c_skip ?_ | refine x_then ?_ | refine x_block ?_)
    refine c_ret ?_
    repeat (with_reducible first | refine x_then_ret ?_ | refine x_block_ret ?_)
    refine r_one rfl rfl ?_
    exact ⟨vb rfl (decide_eq_true rfl), hW.trans (hS.below.mono hW.size)⟩
  · rw [if_neg hz] at hslE
    obtain ⟨ha1, ha2⟩ := hsol hz
    subst hslE
    refine c_no rfl (decide_eq_false (fun h => hz (sgnQ_zero.1 h))) ?_
    repeat (with_reducible first | refine c_seq ?_ | refine c_block ?_ | refine c_skip ?_ | refine x_then ?_ | refine x_block ?_)
    refine c_reg ?_
    refine l_pure rfl (s_move  hk3_8 ?_)
    refine l_pure rfl (s_move  hk3_10 ?_)
    refine l_heavy rfl (s_call Tryz.call24 rfl (lApply_ok _ _ A _ (slL A B) 2048 _ (hm.below hS.below) (hv3.below hS.below) (RBM_mono hRB (by decide)) hsB (by omega)) ?_)
    rintro r_ w5 ⟨⟨v5, rfl, hv5⟩, hB5⟩
    replace hS := hS.grow hB5
    rw [ha2]
    rw [ha1] at hv5
    refine l_pure rfl (s_move  rfl ?_)
    refine l_pure rfl (s_ext  rfl rfl ?_)
    refine l_pure rfl (s_ext  rfl rfl ?_)
    refine l_pure rfl (s_asg  rfl ?_)
    refine l_pure rfl (s_asg  rfl ?_)
    refine l_nil ?_
    repeat (with_reducible first | refine c_seq ?_ | refine c_block ?_ | refine c_skip ?_ | refine x_then ?_ | refine x_block ?_)
    refine c_reg ?_
    refine l_heavy rfl (s_call Tryz.call11 rfl (Lawake_ok _) ?_)
    rintro r_ wa ⟨rfl, hBa⟩
    replace hS := hS.grow hBa
    replace hv5 := hv5.below hBa
    refine l_pure rfl (s_move  rfl ?_)
    refine l_pure (gd_yes 62 (by kernel_rfl) rfl rfl) (s_move  hk3_11 ?_)
    refine l_pure (gd_yes 62 (by kernel_rfl) rfl rfl) (s_eql  rfl rfl ?_)
    refine l_pure rfl (s_pick (vb rfl rfl) rfl ?_)
    refine l_pure rfl (s_move  rfl ?_)
    refine l_pure (gd_yes 66 (by kernel_rfl) rfl (decide_eq_true rfl)) (s_move  rfl ?_)
    refine l_pure (gd_yes 66 (by kernel_rfl) rfl (decide_eq_true rfl)) (s_eql  rfl rfl ?_)
    refine l_pure rfl (s_pick (vb rfl (decide_eq_true rfl)) rfl ?_)
    refine l_pure rfl (s_move  rfl ?_)
    refine l_pure (gd_yes 70 (by kernel_rfl) rfl (decide_eq_true rfl)) (s_move  rfl ?_)
    refine l_pure (gd_yes 70 (by kernel_rfl) rfl (decide_eq_true rfl)) (s_move  hk3_9 ?_)
    refine l_heavy (gd_yes 70 (by kernel_rfl) rfl (decide_eq_true rfl)) (s_call Tryz.call14 rfl (SameRats_eq _ _ _ _ hv5 (hb.below hS.below)) ?_)
    rintro r_ w6 ⟨rfl, hB6⟩
    replace hS := hS.grow hB6
    refine l_pure rfl (s_pick (vb rfl (decide_eq_true rfl)) rfl ?_)
    refine l_pure rfl (s_asg  rfl ?_)
    refine l_nil ?_
    repeat (with_reducible first | refine c_seq ?_ | refine c_block ?_ | refine c_skip ?_ | refine x_then ?_ | refine x_block ?_)
    refine c_ret ?_
    repeat (with_reducible first | refine x_then_ret ?_ | refine x_block_ret ?_)
    refine r_one rfl rfl ?_
    exact ⟨vb rfl rfl, hW.trans (hS.below.mono hW.size)⟩
end Go.Proofs.YtblfipdfklpmmaaGreatDoor
namespace Go.Proofs.YtblfipdfklpmmaaGreatDoor
open Go Go.RowKit Go.Sx
def dR (X : Mx) (c t : Nat) : Mx := fun a b => if c < a ∧ a < t ∧ c ≤ b then X a b - X a c / X c c * X c b else X a b
def dK (X : Mx) (c i k : Nat) : Mx := fun a b => if a = i ∧ c ≤ b ∧ b < k then X i b - X i c / X c c * X c b else dR X c i a b
theorem dR_elim (X : Mx) {c n a b : Nat} (ha : c < a) (han : a < n) (hb : c ≤ b) : dR X c n a b = elim X c (X c c) (fun i => X i c) a b := by
  unfold dR
  rw [if_pos ⟨ha, han, hb⟩, elim_ne _ (by omega), Rat.div_def, Rat.div_def]; grind
theorem mD_pull {α : Type} {enc : α → List Value} {tR tS : TypeId} {bo : Nat} {cs : List Value} {R : List (Rw α)} (pre H : List Blk) : (pre ++ mD enc tR tS bo cs R H).Perm (mD enc tR tS bo cs R (pre ++ H)) := by
  unfold mD
  refine List.perm_middle.trans (List.Perm.cons _ ?_)
  rw [← List.append_assoc, ← List.append_assoc]
  exact List.Perm.append_right _ List.perm_append_comm
theorem dR_step {X : Mx} {c i n : Nat} (a b : Nat) (hb : b < n) (hic : c < i) : dK X c i n a b = dR X c (i + 1) a b := by
  unfold dK dR
  by_cases e : a = i
  · by_cases h : c ≤ b
    · rw [if_pos ⟨e, h, hb⟩, if_pos ⟨by omega, by omega, h⟩, e]
    · rw [if_neg (fun q => h q.2.1), if_neg (fun q => h q.2.2), if_neg (fun q => h q.2.2)]
  · rw [if_neg (fun q => e q.1)]
    by_cases h : c < a ∧ a < i ∧ c ≤ b
    · rw [if_pos h, if_pos ⟨h.1, by omega, h.2.2⟩]
    · rw [if_neg h, if_neg (by omega)]
set_option maxHeartbeats 16000000 in
theorem rDeterminant_ok (v : Value) (A : List (List RR)) (vs : List Value) (K : Nat) (w : World) (hA : Mts encR 3 w v A vs) (hB : RBM K A) (hK : 8 * BB K 16 ≤ MX) :
    Ret Tryz.prog 23 #[v] w fun r w' => r = .tuple #[aggR (ofQ (dtQ A)), .int .i64 (sqE A)] ∧ Below w.heap.size w w' := by
  have hM : MX = 1099511627776 := rfl
  have hBK := BB_K K 16
  have hS := St.init w
  have hlen := hA.len
  have hz : aggR (ofQ 0) = .agg #[.bool false, .string ⟨#[]⟩, .string ⟨#[]⟩] := by rw [ofQ_zero]; rfl
  refine enter Tryz.func23 rfl Tryz.ntmps23 rfl ?_
  repeat (with_reducible first | refine c_seq ?_ | refine c_block ?_ | refine c_skip ?_ | refine x_then ?_ | refine x_block ?_)
  refine c_reg ?_
  refine l_heavy rfl (s_alloc  vi_49 hS ?_)
  intro b2 wz1 hS hBz1
  refine l_pure rfl (s_asg  rfl ?_)
  refine l_nil ?_
  repeat (with_reducible first | refine c_seq ?_ | refine c_block ?_ | refine c_skip ?_ | refine x_then ?_ | refine x_block ?_)
  refine c_reg ?_
  refine l_pure rfl (s_move  rfl ?_)
  refine l_heavy rfl (s_call Tryz.call38 rfl (rshape_ok v A vs _ (hA.below hS.below)) ?_)
  rintro _ wc2 ⟨rfl, hBc2⟩
  replace hS := hS.grow hBc2
  refine l_pure rfl (s_asg  rfl ?_)
  refine l_nil ?_
  repeat (with_reducible first | refine c_seq ?_ | refine c_block ?_ | refine c_skip ?_ | refine x_then ?_ | refine x_block ?_)
  refine c_reg ?_
  refine l_pure rfl (s_move  rfl ?_)
  refine l_pure rfl (s_neq  rfl rfl ?_)
  refine l_nil ?_
  repeat (with_reducible first | refine c_seq ?_ | refine c_block ?_ | refine c_skip ?_ | refine x_then ?_ | refine x_block ?_)
  by_cases hs0 : shpE A ≠ 0
  · have he : sqE A = shpE A := if_pos hs0
    have e1 : dtQ A = 0 := if_neg (by rw [he]; exact hs0)
    rw [e1, hz, he]
    refine c_yes rfl (decide_eq_true (by omega)) ?_
    repeat (with_reducible first | refine c_seq ?_ | refine c_block ?_ | refine c_skip ?_ | refine x_then ?_ | refine x_block ?_)
    refine c_reg ?_
    refine l_pure rfl (s_build  rfl bz_49 ?_)
    refine l_pure rfl (s_move  rfl ?_)
    refine l_heavy rfl (s_sta (k := 0)  rfl rfl vi_49 hS rfl rfl rfl (Nat.le_of_ble_eq_true rfl) rfl ?_)
    intro wz3 hS
    refine l_pure rfl (s_asg  rfl ?_)
    refine l_nil ?_
    repeat (with_reducible first | refine c_seq ?_ | refine c_block ?_ | refine c_skip ?_ | refine x_then ?_ | refine x_block ?_)
    refine c_ret ?_
    repeat (with_reducible first | refine x_then_ret ?_ | refine x_block_ret ?_)
    refine r_cell_tmp (k := 0) rfl rfl rfl vi_49 hS rfl rfl ?_
    exact ⟨rfl, hS.below⟩
  replace hs0 := Decidable.not_not.1 hs0
  obtain ⟨h1, h2, h3, h4, h5⟩ := shpE_zero hs0
  have hr0 := hA.row 0 (by omega)
  have hc0 : colsA A = (A.getD 0 []).length := rfl
  refine c_no rfl (decide_eq_false (by omega)) ?_
  repeat (with_reducible first | refine c_seq ?_ | refine c_block ?_ | refine c_skip ?_ | refine x_then ?_ | refine x_block ?_)
  refine c_reg ?_
  refine l_pure rfl (s_move  rfl ?_)
  refine l_pure rfl (s_lenr  rfl (hA.sl.below hS.below) ⟨_, Tryz.underlying22⟩ ?_)
  refine l_pure rfl (s_move  rfl ?_)
  refine l_pure rfl (s_ixr (i := 0)  rfl rfl (hA.sl.below hS.below) (by omega) (by first | omega | (simp; done) | (simp; omega)) si_22 ?_)
  refine l_read rfl (s_lde (i := 0) undef  rfl vi_23 (hA.sl.below hS.below) (by first | omega | (simp; done) | (simp; omega)) rfl rfl (.inr rfl) ?_)
  refine l_pure rfl (s_lenr  rfl (hr0.below hS.below) ⟨_, Tryz.underlying23⟩ ?_)
  refine l_pure rfl (s_neq  rfl rfl ?_)
  refine l_nil ?_
  repeat (with_reducible first | refine c_seq ?_ | refine c_block ?_ | refine c_skip ?_ | refine x_then ?_ | refine x_block ?_)
  by_cases hsq : A.length ≠ colsA A
  · have he : sqE A = 4 := by unfold sqE; rw [if_neg (by omega), if_pos hsq]
    have e1 : dtQ A = 0 := if_neg (by rw [he]; decide)
    rw [e1, hz, he]
    refine c_yes rfl (decide_eq_true (by omega)) ?_
    repeat (with_reducible first | refine c_seq ?_ | refine c_block ?_ | refine c_skip ?_ | refine x_then ?_ | refine x_block ?_)
    refine c_reg ?_
    refine l_pure rfl (s_build  rfl bz_49 ?_)
    refine l_heavy rfl (s_sta (k := 0)  rfl rfl vi_49 hS rfl rfl rfl (Nat.le_of_ble_eq_true rfl) rfl ?_)
    intro wz4 hS
    refine l_pure rfl (s_asg  rfl ?_)
    refine l_nil ?_
    repeat (with_reducible first | refine c_seq ?_ | refine c_block ?_ | refine c_skip ?_ | refine x_then ?_ | refine x_block ?_)
    refine c_ret ?_
    repeat (with_reducible first | refine x_then_ret ?_ | refine x_block_ret ?_)
    refine r_cell_tmp (k := 0) rfl rfl rfl vi_49 hS rfl rfl ?_
    exact ⟨rfl, hS.below⟩
  replace hsq := Decidable.not_not.1 hsq
  have he : sqE A = 0 := by unfold sqE; rw [if_neg (by omega), if_neg (by omega)]
  have e1 : dtQ A = detP A.length (RM A) := if_pos he
  rw [e1, he]
  refine c_no rfl (decide_eq_false (by omega)) ?_
  repeat (with_reducible first | refine c_seq ?_ | refine c_block ?_ | refine c_skip ?_ | refine x_then ?_ | refine x_block ?_)
  refine c_reg ?_
  refine l_pure rfl (s_move  rfl ?_)
  refine l_heavy rfl (s_call Tryz.call40 rfl (lfixedRows_ok v A vs A.length _ (hA.below hS.below) h1 (by omega) (by omega) (by omega) (fun i hi => by rw [h5 i hi]; exact hsq.symm) (RBM_mono hB (by omega))) ?_)
  rintro r w2 ⟨⟨bo, cap, so, R0, rfl, hcap1, hcap2, hR0, hS2⟩, hB2⟩
  replace hS := hS.join hS2
  clear hS2
  rw [mD_app] at hS
  replace hS := hS.perm (mD_pull [(b2, 49, [.bool false, .string ⟨#[]⟩, .string ⟨#[]⟩])] []).symm
  have hL : ∀ i, i < A.length → ∀ j, j < A.length → L (RM A i j) ≤ K := fun i hi j hj => RM_L hB hi (by rw [h5 i hi]; omega)
  obtain ⟨n, hn⟩ : ∃ n, n = A.length := ⟨_, rfl⟩
  obtain ⟨M, hMd⟩ : ∃ M, M = RM A := ⟨_, rfl⟩
  rw [← hn, ← hMd] at hR0 hL
  rw [← hn] at hcap1 h1 h2
  rw [← hn, ← hMd]
  refine l_pure rfl (s_asg  rfl ?_)
  refine l_nil ?_
  repeat (with_reducible first | refine c_seq ?_ | refine c_block ?_ | refine c_skip ?_ | refine x_then ?_ | refine x_block ?_)
  have hKn := BB_ok hK h2
  repeat (with_reducible first | refine c_seq ?_ | refine c_block ?_ | refine c_skip ?_ | refine x_then ?_ | refine x_block ?_)
  refine c_reg ?_
  refine l_heavy rfl (s_call Tryz.call48 rfl (rOne_ok _) ?_)
  rintro _ wc5 ⟨rfl, hBc5⟩
  replace hS := hS.grow hBc5
  refine l_heavy rfl (s_alloc  vi_49 hS ?_)
  intro b6 wz6 hS hBz6
  refine l_heavy rfl (s_sta (k := 0)  rfl rfl vi_49 hS rfl rfl rfl (Nat.le_of_ble_eq_true rfl) rfl ?_)
  intro wz7 hS
  refine l_nil ?_
  repeat (with_reducible first | refine c_seq ?_ | refine c_block ?_ | refine c_skip ?_ | refine x_then ?_ | refine x_block ?_)
  refine c_forget (fun ρ' => ρ' 2 = .pointer (some ⟨b2, 0, none⟩) ∧ ρ' 5 = .slice (some ⟨bo, 0, none⟩) n cap ∧ ρ' 6 = .pointer (some ⟨b6, 0, none⟩) ∧ True) ⟨rfl, rfl, rfl, trivial⟩ ?_
  rintro ρk8 ⟨hk8_2, hk8_5, hk8_6, -⟩
  replace hS : St w _ ([(b6, 49, encR (ofQ (rdc n M 0).d)), (b2, 49, [.bool false, .string ⟨#[]⟩, .string ⟨#[]⟩])] ++ mD encR 49 23 bo (R0.map Rw.v ++ so) R0 []) := hS
  repeat (with_reducible first | refine c_seq ?_ | refine c_block ?_ | refine c_skip ?_ | refine x_then ?_ | refine x_block ?_)
  refine c_reg ?_
  refine l_pure rfl (s_asg  rfl ?_)
  refine l_nil ?_
  repeat (with_reducible first | refine c_seq ?_ | refine c_skip ?_ | refine x_then ?_ | refine x_block ?_)
  refine c_cut1 (fun ρ w' => (rdc n M n).P.length = n ∧ ρ 2 = .pointer (some ⟨b2, 0, none⟩) ∧ ρ 6 = .pointer (some ⟨b6, 0, none⟩) ∧ ∃ T, St w w' ([(b6, 49, encR (ofQ (rdc n M n).d)), (b2, 49, [.bool false, .string ⟨#[]⟩, .string ⟨#[]⟩])] ++ T)) ?_ ?_
  · repeat (with_reducible first | refine c_seq ?_ | refine c_block ?_ | refine c_skip ?_ | refine x_then ?_ | refine x_block ?_)
    refine c_loop (σ := Nat) (fun c ρ w' => c ≤ n ∧ (rdc n M c).P.length = c ∧ ρ 2 = .pointer (some ⟨b2, 0, none⟩) ∧ ρ 5 = .slice (some ⟨bo, 0, none⟩) n cap ∧ ρ 6 = .pointer (some ⟨b6, 0, none⟩) ∧ ρ 7 = .int .i64 c ∧
      ∃ R D, MatG R n n (qM D) ∧ (∀ i, c ≤ i → i < n → ∀ j, c ≤ j → j < n → D i j = (rdc n M c).M i j) ∧ St w w' ([(b6, 49, encR (ofQ (rdc n M c).d)), (b2, 49, [.bool false, .string ⟨#[]⟩, .string ⟨#[]⟩])] ++ mD encR 49 23 bo (R.map Rw.v ++ so) R [])) (fun c => n - c) 0
      ⟨Nat.zero_le _, rfl, by assumption, by assumption, by assumption, rfl, R0, M, hR0, fun _ _ _ _ _ _ => rfl, hS⟩ ?_
    clear hS hR0
    rintro c ρ w3 ⟨hc, hcP, h2', h5', h6', h7', R, D, hR, hD, hS⟩
    obtain ⟨hB1, hB2⟩ := rdc_L hL c hc
    rw [hcP] at hB1 hB2
    repeat (with_reducible first | refine c_seq ?_ | refine c_block ?_ | refine c_skip ?_ | refine x_then ?_ | refine x_block ?_)
    refine c_reg ?_
    refine l_pure rfl (s_move  h7' ?_)
    refine l_pure rfl (s_move  h5' ?_)
    refine l_pure rfl (s_leno  rfl ⟨_, Tryz.underlying22⟩ ?_)
    refine l_pure rfl (s_lss  rfl rfl ?_)
    refine l_nil ?_
    repeat (with_reducible first | refine c_seq ?_ | refine c_block ?_ | refine c_skip ?_ | refine x_then ?_ | refine x_block ?_)
    by_cases hcn : c < n
    · refine c_yes rfl (decide_eq_true (by omega)) ?_
      repeat (with_reducible first | refine c_seq ?_ | refine c_block ?_ | refine c_skip ?_ | refine x_then ?_ | refine x_block ?_)
      have hbm := BB_mono K (r := c + 1) (s := n) hcn
      rw [BB_succ] at hbm
      obtain ⟨b, hb⟩ : ∃ b, b = BB K c := ⟨_, rfl⟩
      rw [← hb] at hB1 hB2 hbm
      have hpvc : pv D c n c = pv (rdc n M c).M c n c := pv_congr (by omega) fun i h1 h2 => by rw [hD i h1 h2 c (Nat.le_refl _) hcn]
      repeat (with_reducible first | refine c_seq ?_ | refine c_block ?_ | refine c_skip ?_ | refine x_then ?_ | refine x_block ?_)
      refine c_reg ?_
      refine l_pure rfl (s_move  h7' ?_)
      refine l_pure rfl (s_asg  rfl ?_)
      refine l_nil ?_
      repeat (with_reducible first | refine c_seq ?_ | refine c_skip ?_ | refine x_then ?_ | refine x_block ?_)
      refine c_cut1 (fun ρ w' => ρ 2 = .pointer (some ⟨b2, 0, none⟩) ∧ ρ 5 = .slice (some ⟨bo, 0, none⟩) n cap ∧ ρ 6 = .pointer (some ⟨b6, 0, none⟩) ∧ ρ 7 = .int .i64 c ∧ ρ 8 = .int .i64 (pv D c n c) ∧ St w w' ([(b6, 49, encR (ofQ (rdc n M c).d)), (b2, 49, [.bool false, .string ⟨#[]⟩, .string ⟨#[]⟩])] ++ mD encR 49 23 bo (R.map Rw.v ++ so) R [])) ?_ ?_
      · repeat (with_reducible first | refine c_seq ?_ | refine c_block ?_ | refine c_skip ?_ | refine x_then ?_ | refine x_block ?_)
        refine c_loop (σ := Nat) (fun p ρ w' => c ≤ p ∧ p ≤ n ∧ (∀ l, c ≤ l → l < p → D l c = 0) ∧ ρ 2 = .pointer (some ⟨b2, 0, none⟩) ∧ ρ 5 = .slice (some ⟨bo, 0, none⟩) n cap ∧ ρ 6 = .pointer (some ⟨b6, 0, none⟩) ∧ ρ 7 = .int .i64 c ∧ ρ 8 = .int .i64 p ∧ St w w' ([(b6, 49, encR (ofQ (rdc n M c).d)), (b2, 49, [.bool false, .string ⟨#[]⟩, .string ⟨#[]⟩])] ++ mD encR 49 23 bo (R.map Rw.v ++ so) R [])) (fun p => n - p) c
          ⟨Nat.le_refl _, by omega, fun l h1 h2 => absurd h2 (by omega), by assumption, by assumption, by assumption, by assumption, rfl, hS⟩ ?_
        clear hS
        rintro p ρ w4 ⟨hrp, hpn, hzz, h2', h5', h6', h7', h8', hS⟩
        repeat (with_reducible first | refine c_seq ?_ | refine c_block ?_ | refine c_skip ?_ | refine x_then ?_ | refine x_block ?_)
        by_cases hpl : p < n
        · have hlp : p < R.length := by rw [hR.len]; exact hpl
          have htlp := tab_len n (qM D p)
          have hgp : (tab n (qM D p)).getD c zRR = ofQ (D p c) := tab_get _ _ hcn
          repeat (with_reducible first | refine c_seq ?_ | refine c_block ?_ | refine c_skip ?_ | refine x_then ?_ | refine x_block ?_)
          refine c_reg ?_
          refine l_pure rfl (s_move  h8' ?_)
          refine l_pure rfl (s_move  h5' ?_)
          refine l_pure rfl (s_leno  rfl ⟨_, Tryz.underlying22⟩ ?_)
          refine l_pure rfl (s_lss  rfl rfl ?_)
          refine l_pure rfl (s_move  rfl ?_)
          refine l_pure (gd_yes 41 (by kernel_rfl) rfl (decide_eq_true (by omega))) (s_move  h5' ?_)
          refine l_pure (gd_yes 41 (by kernel_rfl) rfl (decide_eq_true (by omega))) (s_move  h8' ?_)
          refine l_pure (gd_yes 41 (by kernel_rfl) rfl (decide_eq_true (by omega))) (s_ixo (i := p)  rfl rfl (by omega) (by first | omega | (simp; done) | (simp; omega)) si_22 ?_)
          refine l_read (gd_yes 41 (by kernel_rfl) rfl (decide_eq_true (by omega))) (s_mrowD [_, _]  rfl vi_23 hS (by omega) (mC_row hlp) ?_)
          refine l_pure (gd_yes 41 (by kernel_rfl) rfl (decide_eq_true (by omega))) (s_move  h7' ?_)
          refine l_pure (gd_yes 41 (by kernel_rfl) rfl (decide_eq_true (by omega))) (s_ixr (i := c)  rfl rfl (hR.slD [_, _] hS encR_len hpl) (by omega) (by first | omega | (simp; done) | (simp; omega)) si_23 ?_)
          refine l_pure (gd_yes 41 (by kernel_rfl) rfl (decide_eq_true (by omega))) (s_fldr  rfl (spot_el (hR.slD [_, _] hS encR_len hpl) (fun _ => rfl) (by decide) (by first | omega | (simp; done) | (simp; omega))) fo_49_1 ?_)
          refine l_read (gd_yes 41 (by kernel_rfl) rfl (decide_eq_true (by omega))) (s_ldfe (i := c) (off := 1) zRR  rfl vi_9 (hR.slD [_, _] hS encR_len hpl) (fun _ => rfl) (by decide) (by first | omega | (simp; done) | (simp; omega)) rfl rfl (.inr rfl) ?_)
          refine l_pure (gd_yes 41 (by kernel_rfl) rfl (decide_eq_true (by omega))) (s_eqs  rfl rfl ?_)
          refine l_pure rfl (s_pick (vb rfl (decide_eq_true (by omega))) rfl ?_)
          refine l_nil ?_
          repeat (with_reducible first | refine c_seq ?_ | refine c_block ?_ | refine c_skip ?_ | refine x_then ?_ | refine x_block ?_)
          rw [hgp]
          by_cases hz0 : D p c = 0
          · refine c_yes rfl (decide_eq_true (ofQ_num_nil.2 hz0)) ?_
            repeat (with_reducible first | refine c_seq ?_ | refine c_block ?_ | refine c_skip ?_ | refine x_then ?_ | refine x_block ?_)
            refine c_reg ?_
            refine l_pure rfl (s_move  h8' ?_)
            refine l_pure rfl (s_add  rfl rfl (IntWalk.i64_in _ (by omega)) ?_)
            refine l_pure rfl (s_asg  rfl ?_)
            refine l_nil ?_
            repeat (with_reducible first | refine c_seq ?_ | refine c_block ?_ | refine c_skip ?_ | refine x_then ?_ | refine x_block ?_)
            exact ⟨p + 1, _, rfl, ⟨by omega, hpl, fun l h1 h2 => by
              by_cases e : l = p
              · rw [e]; exact hz0
              · exact hzz l h1 (by omega), by assumption, by assumption, by assumption, by assumption, vi rfl (by omega), hS⟩, by omega⟩
          · refine c_no rfl (decide_eq_false (fun g => hz0 (ofQ_num_nil.1 g))) ?_
            repeat (with_reducible first | refine c_seq ?_ | refine c_block ?_ | refine c_skip ?_ | refine x_then ?_ | refine x_block ?_)
            refine c_exit ?_
            repeat (with_reducible first | refine x_then_exit ?_ | refine x_block_exit ?_ | refine x_block_pass rfl ?_)
            repeat (with_reducible first | refine c_seq ?_ | refine c_block ?_ | refine c_skip ?_ | refine x_then ?_ | refine x_block ?_)
            have hp : pv D c n c = p := pv_uniq hrp (by omega) hzz fun _ => hz0
            rw [hp]
            exact ⟨_, rfl, by assumption, by assumption, by assumption, by assumption, by assumption, hS⟩
        · repeat (with_reducible first | refine c_seq ?_ | refine c_block ?_ | refine c_skip ?_ | refine x_then ?_ | refine x_block ?_)
          refine c_reg ?_
          refine l_pure rfl (s_move  h8' ?_)
          refine l_pure rfl (s_move  h5' ?_)
          refine l_pure rfl (s_leno  rfl ⟨_, Tryz.underlying22⟩ ?_)
          refine l_pure rfl (s_lss  rfl rfl ?_)
          refine l_pure rfl (s_move  rfl ?_)
          refine l_no (gno_yes 41 (by kernel_rfl) rfl (decide_eq_false (by omega))) ?_
          refine l_no (gno_yes 41 (by kernel_rfl) rfl (decide_eq_false (by omega))) ?_
          refine l_no (gno_yes 41 (by kernel_rfl) rfl (decide_eq_false (by omega))) ?_
          refine l_no (gno_yes 41 (by kernel_rfl) rfl (decide_eq_false (by omega))) ?_
          refine l_no (gno_yes 41 (by kernel_rfl) rfl (decide_eq_false (by omega))) ?_
          refine l_no (gno_yes 41 (by kernel_rfl) rfl (decide_eq_false (by omega))) ?_
          refine l_no (gno_yes 41 (by kernel_rfl) rfl (decide_eq_false (by omega))) ?_
          refine l_no (gno_yes 41 (by kernel_rfl) rfl (decide_eq_false (by omega))) ?_
          refine l_no (gno_yes 41 (by kernel_rfl) rfl (decide_eq_false (by omega))) ?_
          refine l_pure rfl (s_pick (vb rfl (decide_eq_false (by omega))) rfl ?_)
          refine l_nil ?_
          repeat (with_reducible first | refine c_seq ?_ | refine c_block ?_ | refine c_skip ?_ | refine x_then ?_ | refine x_block ?_)
          refine c_no rfl (rfl) ?_
          repeat (with_reducible first | refine c_seq ?_ | refine c_block ?_ | refine c_skip ?_ | refine x_then ?_ | refine x_block ?_)
          refine c_exit ?_
          repeat (with_reducible first | refine x_then_exit ?_ | refine x_block_exit ?_ | refine x_block_pass rfl ?_)
          repeat (with_reducible first | refine c_seq ?_ | refine c_block ?_ | refine c_skip ?_ | refine x_then ?_ | refine x_block ?_)
          obtain rfl : n = p := by omega
          have hp : pv D c n c = n := pv_uniq hrp (Nat.le_refl _) hzz fun h => absurd h (Nat.lt_irrefl _)
          rw [hp]
          exact ⟨_, rfl, by assumption, by assumption, by assumption, by assumption, by assumption, hS⟩
      clear hS
      rintro ρ w4 ⟨h2', h5', h6', h7', h8', hS⟩
      obtain ⟨p, hp⟩ : ∃ p, p = pv D c n c := ⟨_, rfl⟩
      have hps := pv_spec D c (n := n) (r := c) (by omega)
      rw [← hp] at hps h8' hpvc
      obtain ⟨hrp, hpn', _, ha⟩ := hps
      repeat (with_reducible first | refine c_seq ?_ | refine c_block ?_ | refine c_skip ?_ | refine x_then ?_ | refine x_block ?_)
      refine c_reg ?_
      refine l_pure rfl (s_move  h8' ?_)
      refine l_pure rfl (s_move  h5' ?_)
      refine l_pure rfl (s_leno  rfl ⟨_, Tryz.underlying22⟩ ?_)
      refine l_pure rfl (s_eql  rfl rfl ?_)
      refine l_nil ?_
      repeat (with_reducible first | refine c_seq ?_ | refine c_block ?_ | refine c_skip ?_ | refine x_then ?_ | refine x_block ?_)
      by_cases hpn : ¬ p < n
      · have hnf := rdc_stuck (A := M) hcn (by rw [← hpvc]; exact hpn)
        have e0 : detP n M = 0 := detP_zero.2 hnf
        rw [e0, hz]
        refine c_yes rfl (decide_eq_true (by omega)) ?_
        repeat (with_reducible first | refine c_seq ?_ | refine c_block ?_ | refine c_skip ?_ | refine x_then ?_ | refine x_block ?_)
        refine c_reg ?_
        refine l_pure rfl (s_build  rfl bz_49 ?_)
        refine l_heavy rfl (s_sta (k := 1)  h2' rfl vi_49 hS rfl rfl rfl (Nat.le_of_ble_eq_true rfl) rfl ?_)
        intro wz9 hS
        refine l_pure rfl (s_asg  rfl ?_)
        refine l_nil ?_
        repeat (with_reducible first | refine c_seq ?_ | refine c_block ?_ | refine c_skip ?_ | refine x_then ?_ | refine x_block ?_)
        refine c_ret ?_
        repeat (with_reducible first | refine x_then_ret ?_ | refine x_block_ret ?_)
        refine r_cell_tmp (k := 1) rfl h2' rfl vi_49 hS rfl rfl ?_
        exact ⟨rfl, hS.below⟩
      replace hpn := Decidable.not_not.1 hpn
      replace ha := ha hpn
      refine c_no rfl (decide_eq_false (by omega)) ?_
      repeat (with_reducible first | refine c_seq ?_ | refine c_block ?_ | refine c_skip ?_ | refine x_then ?_ | refine x_block ?_)
      have hyes := rstp_yes (n := n) (c := c) (M := M) (by rw [hcP, ← hpvc]; exact hpn)
      rw [hcP, ← hpvc] at hyes
      have hnx := (rdc_next hcP (by rw [← hpvc]; exact hpn)).1
      obtain ⟨s, hs⟩ : ∃ s, s = rdc n M c := ⟨_, rfl⟩
      rw [← hs] at hyes hB1 hB2 hD hS
      obtain ⟨X, hX⟩ : ∃ X, X = swpR D c p := ⟨_, rfl⟩
      obtain ⟨d1, hd1⟩ : ∃ d1 : Rat, d1 = if p = c then s.d else -s.d := ⟨_, rfl⟩
      rw [← hd1] at hyes
      have hXs : ∀ i, c ≤ i → i < n → ∀ j, c ≤ j → j < n → X i j = swpR s.M c p i j := by
        intro i h1 h2 j h3 h4
        rw [hX]
        unfold swpR
        split
        · exact hD p hrp hpn j h3 h4
        · split
          · exact hD c (Nat.le_refl _) hcn j h3 h4
          · exact hD i h1 h2 j h3 h4
      have hLX : ∀ i, c ≤ i → i < n → ∀ j, c ≤ j → j < n → L (X i j) ≤ b - 1 := by
        intro i h1 h2 j h3 h4
        rw [hXs i h1 h2 j h3 h4]
        exact L_swp (M := s.M) (m := n) hpn hcn (fun i hi j hj => by have := hB1 i hi j hj; omega) i h2 j h4
      have hXa : X c c = s.M p c := by rw [hXs c (Nat.le_refl _) hcn c (Nat.le_refl _) hcn, swpR_at]
      have ha2 : X c c ≠ 0 := by rw [hX, swpR_at]; exact ha
      have hb1 : 1 ≤ b := by have := hB1 p hpn c hcn; omega
      have hLd : L d1 ≤ b := by
        rw [hd1]
        split
        · exact hB2
        · rw [L_neg]; exact hB2
      repeat (with_reducible first | refine c_seq ?_ | refine c_block ?_ | refine c_skip ?_ | refine x_then ?_ | refine x_block ?_)
      refine c_reg ?_
      refine l_pure rfl (s_move  h8' ?_)
      refine l_pure rfl (s_move  h7' ?_)
      refine l_pure rfl (s_neq  rfl rfl ?_)
      refine l_nil ?_
      repeat (with_reducible first | refine c_seq ?_ | refine c_block ?_ | refine c_skip ?_ | refine x_then ?_ | refine x_block ?_)
      refine c_cut1 (fun ρ w' => ρ 2 = .pointer (some ⟨b2, 0, none⟩) ∧ ρ 5 = .slice (some ⟨bo, 0, none⟩) n cap ∧ ρ 6 = .pointer (some ⟨b6, 0, none⟩) ∧ ρ 7 = .int .i64 c ∧ ∃ R, MatG R n n (qM X) ∧ St w w' ([(b6, 49, encR (ofQ d1)), (b2, 49, [.bool false, .string ⟨#[]⟩, .string ⟨#[]⟩])] ++ mD encR 49 23 bo (R.map Rw.v ++ so) R [])) ?_ ?_
      · have hlp : p < R.length := by rw [hR.len]; exact hpn
        have hlc : c < R.length := by rw [hR.len]; exact hcn
        by_cases hpc : p = c
        · have eX : X = D := by rw [hX, hpc, swpR_self]
          have ed : d1 = s.d := by rw [hd1, if_pos hpc]
          refine c_no rfl (decide_eq_false (by omega)) ?_
          repeat (with_reducible first | refine c_seq ?_ | refine c_block ?_ | refine c_skip ?_ | refine x_then ?_ | refine x_block ?_)
          rw [eX, ed]
          exact ⟨_, rfl, by assumption, by assumption, by assumption, by assumption, R, hR, hS⟩
        · have ed : d1 = -s.d := by rw [hd1, if_neg hpc]
          have hcl : (R.map Rw.v ++ so).length = n + so.length := by rw [List.length_append, List.length_map, hR.len]
          have hR2 := (hR.swp hpn hcn).congr (g := qM X) fun i _ j _ => by
            rw [hX]
            show (if i = c then ofQ (D p j) else if i = p then ofQ (D c j) else ofQ (D i j)) = ofQ (swpR D c p i j)
            unfold swpR
            split
            · rfl
            · split <;> rfl
          have hop := fun w => rOpposite_ok s.d w
          refine c_yes rfl (decide_eq_true (by omega)) ?_
          repeat (with_reducible first | refine c_seq ?_ | refine c_block ?_ | refine c_skip ?_ | refine x_then ?_ | refine x_block ?_)
          refine c_reg ?_
          refine l_pure rfl (s_move  h5' ?_)
          refine l_pure rfl (s_move  h8' ?_)
          refine l_pure rfl (s_ixo (i := p)  rfl rfl (by omega) (by first | omega | (simp; done) | (simp; omega)) si_22 ?_)
          refine l_read rfl (s_mrowD [_, _]  rfl vi_23 hS (by omega) (mC_row hlp) ?_)
          refine l_pure rfl (s_asg  rfl ?_)
          refine l_nil ?_
          repeat (with_reducible first | refine c_seq ?_ | refine c_block ?_ | refine c_skip ?_ | refine x_then ?_ | refine x_block ?_)
          refine c_reg ?_
          refine l_pure rfl (s_move  h5' ?_)
          refine l_pure rfl (s_move  h8' ?_)
          refine l_pure rfl (s_move  h5' ?_)
          refine l_pure rfl (s_move  h7' ?_)
          refine l_pure rfl (s_ixo (i := c)  rfl rfl (by omega) (by first | omega | (simp; done) | (simp; omega)) si_22 ?_)
          refine l_read rfl (s_mrowD [_, _]  rfl vi_23 hS (by omega) (mC_row hlc) ?_)
          refine l_pure rfl (s_ixo (i := p)  rfl rfl (by omega) (by first | omega | (simp; done) | (simp; omega)) si_22 ?_)
          refine l_heavy rfl (s_mrowstP [_, _] (i := p)  rfl rfl vi_23 hS (by omega) (by omega) (Rw_one _) ?_)
          intro wz10 hS
          refine l_nil ?_
          repeat (with_reducible first | refine c_seq ?_ | refine c_block ?_ | refine c_skip ?_ | refine x_then ?_ | refine x_block ?_)
          refine c_reg ?_
          refine l_pure rfl (s_move  h5' ?_)
          refine l_pure rfl (s_move  h7' ?_)
          refine l_pure rfl (s_move  rfl ?_)
          refine l_pure rfl (s_ixo (i := c)  rfl rfl (by omega) (by first | omega | (simp; done) | (simp; omega)) si_22 ?_)
          refine l_heavy rfl (s_mrowstP [_, _] (i := c)  rfl rfl vi_23 hS (by omega) (by rw [List.length_set]; omega) (Rw_one _) ?_)
          intro wz11 hS
          refine l_nil ?_
          repeat (with_reducible first | refine c_seq ?_ | refine c_block ?_ | refine c_skip ?_ | refine x_then ?_ | refine x_block ?_)
          have hS2 := mC_swp (pre := [_, _]) (R := R) (R0 := R) rfl hlp hlc hS
          clear hS
          rename _ => hS
          repeat (with_reducible first | refine c_seq ?_ | refine c_block ?_ | refine c_skip ?_ | refine x_then ?_ | refine x_block ?_)
          refine c_reg ?_
          refine l_read rfl (s_ldo (k := 0)  h6' vi_49 hS rfl rfl rfl (.inl rfl) ?_)
          refine l_heavy rfl (s_call Tryz.call49 rfl (hop _) ?_)
          rintro _ wc12 ⟨rfl, hBc12⟩
          replace hS := hS.grow hBc12
          refine l_heavy rfl (s_sta (k := 0)  h6' rfl vi_49 hS rfl rfl rfl (Nat.le_of_ble_eq_true rfl) rfl ?_)
          intro wz13 hS
          refine l_nil ?_
          repeat (with_reducible first | refine c_seq ?_ | refine c_block ?_ | refine c_skip ?_ | refine x_then ?_ | refine x_block ?_)
          rw [ed]
          exact ⟨_, rfl, by assumption, by assumption, by assumption, by assumption, _, hR2, hS⟩
      clear hS hR
      rintro ρ w5 ⟨h2', h5', h6', h7', R, hR, hS⟩
      have hlc : c < R.length := by rw [hR.len]; exact hcn
      have htc := tab_len n (qM X c)
      have hgc : (tab n (qM X c)).getD c zRR = ofQ (X c c) := tab_get _ _ hcn
      have hLa := hLX c (Nat.le_refl _) hcn c (Nat.le_refl _) hcn
      have hti := fun w => rTimes_ok d1 (X c c) w (by omega)
      repeat (with_reducible first | refine c_seq ?_ | refine c_block ?_ | refine c_skip ?_ | refine x_then ?_ | refine x_block ?_)
      refine c_draw [(0, .read), (1, .pure), (2, .pure), (3, .pure), (4, .read), (5, .pure), (6, .pure), (7, .read), (8, .grow), (9, .free)] (by kernel_rfl) (by kernel_rfl) hS ?_
      intro wz14 hS hBz14
      refine w_read rfl rfl (s_ldo (k := 0)  h6' vi_49 hS rfl rfl rfl (.inl rfl) ?_)
      refine w_pure rfl rfl (s_move  h5' ?_)
      refine w_pure rfl rfl (s_move  h7' ?_)
      refine w_pure rfl rfl (s_ixo (i := c)  rfl rfl (by omega) (by first | omega | (simp; done) | (simp; omega)) si_22 ?_)
      refine w_read rfl rfl (s_mrowD [_, _]  rfl vi_23 hS (by omega) (mC_row hlc) ?_)
      refine w_pure rfl rfl (s_move  h7' ?_)
      refine w_pure rfl rfl (s_ixr (i := c)  rfl rfl (hR.slD [_, _] hS encR_len hcn) (by omega) (by first | omega | (simp; done) | (simp; omega)) si_23 ?_)
      refine w_read rfl rfl (s_lde (i := c) zRR  rfl vi_49 (hR.slD [_, _] hS encR_len hcn) (by first | omega | (simp; done) | (simp; omega)) rfl rfl (.inl rfl) ?_)
      rw [hgc]
      refine w_grow rfl rfl (s_call Tryz.call50 rfl (hti _) ?_)
      rintro _ wc15 ⟨rfl, hBc15⟩
      replace hS := hS.grow hBc15
      refine ⟨hBc15, ?_⟩
      refine w_free rfl rfl (s_sta (k := 0)  h6' rfl vi_49 hS rfl rfl rfl (Nat.le_of_ble_eq_true rfl) rfl ?_)
      intro wz16 hS
      refine w_end ?_
      repeat (with_reducible first | refine c_seq ?_ | refine c_block ?_ | refine c_skip ?_ | refine x_then ?_ | refine x_block ?_)
      replace hS : St w _ ([(b6, 49, encR (ofQ (d1 * X c c))), (b2, 49, [.bool false, .string ⟨#[]⟩, .string ⟨#[]⟩])] ++ mD encR 49 23 bo (R.map Rw.v ++ so) R []) := hS
      repeat (with_reducible first | refine c_seq ?_ | refine c_block ?_ | refine c_skip ?_ | refine x_then ?_ | refine x_block ?_)
      refine c_forget (fun ρ' => ρ' 2 = .pointer (some ⟨b2, 0, none⟩) ∧ ρ' 5 = .slice (some ⟨bo, 0, none⟩) n cap ∧ ρ' 6 = .pointer (some ⟨b6, 0, none⟩) ∧ ρ' 7 = .int .i64 c ∧ True) ⟨h2', h5', h6', h7', trivial⟩ ?_
      rintro ρk17 ⟨hk17_2, hk17_5, hk17_6, hk17_7, -⟩
      repeat (with_reducible first | refine c_seq ?_ | refine c_block ?_ | refine c_skip ?_ | refine x_then ?_ | refine x_block ?_)
      refine c_reg ?_
      refine l_pure rfl (s_move  hk17_7 ?_)
      refine l_pure rfl (s_add  rfl rfl (IntWalk.i64_in _ (by omega)) ?_)
      refine l_pure rfl (s_asg  rfl ?_)
      refine l_nil ?_
      repeat (with_reducible first | refine c_seq ?_ | refine c_skip ?_ | refine x_then ?_ | refine x_block ?_)
      refine c_cut1 (fun ρ w' => ρ 2 = .pointer (some ⟨b2, 0, none⟩) ∧ ρ 5 = .slice (some ⟨bo, 0, none⟩) n cap ∧ ρ 6 = .pointer (some ⟨b6, 0, none⟩) ∧ ρ 7 = .int .i64 c ∧ ∃ R, MatG R n n (qM (dR X c n)) ∧ St w w' ([(b6, 49, encR (ofQ (d1 * X c c))), (b2, 49, [.bool false, .string ⟨#[]⟩, .string ⟨#[]⟩])] ++ mD encR 49 23 bo (R.map Rw.v ++ so) R [])) ?_ ?_
      · repeat (with_reducible first | refine c_seq ?_ | refine c_block ?_ | refine c_skip ?_ | refine x_then ?_ | refine x_block ?_)
        refine c_loop (σ := Nat) (fun i ρ w' => c < i ∧ i ≤ n ∧ ρ 2 = .pointer (some ⟨b2, 0, none⟩) ∧ ρ 5 = .slice (some ⟨bo, 0, none⟩) n cap ∧ ρ 6 = .pointer (some ⟨b6, 0, none⟩) ∧ ρ 7 = .int .i64 c ∧ ρ 10 = .int .i64 i ∧ ∃ R, MatG R n n (qM (dR X c i)) ∧ St w w' ([(b6, 49, encR (ofQ (d1 * X c c))), (b2, 49, [.bool false, .string ⟨#[]⟩, .string ⟨#[]⟩])] ++ mD encR 49 23 bo (R.map Rw.v ++ so) R [])) (fun i => n - i) (c + 1)
          ⟨by omega, by omega, by assumption, by assumption, by assumption, by assumption, vi rfl (by omega), R, hR.congr fun a _ j _ => by show ofQ (X a j) = ofQ (dR X c (c + 1) a j); unfold dR; rw [if_neg (by omega)], hS⟩ ?_
        clear hS hR hlc
        rintro i ρ w6 ⟨hci, hi, h2', h5', h6', h7', h10', R, hR, hS⟩
        repeat (with_reducible first | refine c_seq ?_ | refine c_block ?_ | refine c_skip ?_ | refine x_then ?_ | refine x_block ?_)
        refine c_reg ?_
        refine l_pure rfl (s_move  h10' ?_)
        refine l_pure rfl (s_move  h5' ?_)
        refine l_pure rfl (s_leno  rfl ⟨_, Tryz.underlying22⟩ ?_)
        refine l_pure rfl (s_lss  rfl rfl ?_)
        refine l_nil ?_
        repeat (with_reducible first | refine c_seq ?_ | refine c_block ?_ | refine c_skip ?_ | refine x_then ?_ | refine x_block ?_)
        by_cases hin : i < n
        · refine c_yes rfl (decide_eq_true (by omega)) ?_
          repeat (with_reducible first | refine c_seq ?_ | refine c_block ?_ | refine c_skip ?_ | refine x_then ?_ | refine x_block ?_)
          have hli : i < R.length := by rw [hR.len]; exact hin
          have hlc : c < R.length := by rw [hR.len]; exact hcn
          have hti := tab_len n (qM (dR X c i) i)
          have htc := tab_len n (qM (dR X c i) c)
          have hgi : (tab n (qM (dR X c i) i)).getD c zRR = ofQ (X i c) := by rw [tab_get _ _ hcn]; show ofQ (dR X c i i c) = _; unfold dR; rw [if_neg (by omega)]
          have hgc : (tab n (qM (dR X c i) c)).getD c zRR = ofQ (X c c) := by rw [tab_get _ _ hcn]; show ofQ (dR X c i c c) = _; unfold dR; rw [if_neg (by omega)]
          have hLi := hLX i (by omega) hin c (Nat.le_refl _) hcn
          have hov := fun w => rOver_ok (X i c) (X c c) w (by omega) ha2
          obtain ⟨f, hf⟩ : ∃ f, f = X i c / X c c := ⟨_, rfl⟩
          have hLf := L_div (X i c) (X c c)
          rw [← hf] at hov hLf
          refine c_cut1 (fun ρ w' => ρ 2 = .pointer (some ⟨b2, 0, none⟩) ∧ ρ 5 = .slice (some ⟨bo, 0, none⟩) n cap ∧ ρ 6 = .pointer (some ⟨b6, 0, none⟩) ∧ ρ 7 = .int .i64 c ∧ ρ 10 = .int .i64 i ∧ ∃ b11, ρ 11 = .pointer (some ⟨b11, 0, none⟩) ∧ St w w' ([(b11, 49, encR (ofQ f)), (b6, 49, encR (ofQ (d1 * X c c))), (b2, 49, [.bool false, .string ⟨#[]⟩, .string ⟨#[]⟩])] ++ mD encR 49 23 bo (R.map Rw.v ++ so) R [])) ?_ ?_
          · repeat (with_reducible first | refine c_seq ?_ | refine c_block ?_ | refine c_skip ?_ | refine x_then ?_ | refine x_block ?_)
            refine c_all 17 [(0, .pure), (1, .pure), (2, .pure), (3, .read), (4, .pure), (5, .pure), (6, .read), (7, .pure), (8, .pure), (9, .pure), (10, .read), (11, .pure), (12, .pure), (13, .read), (14, .grow), (15, .grow), (16, .free)] (by kernel_rfl) (by kernel_rfl) hS ?_
            intro wz18 hS hBz18
            refine z_pure (i := 0) (U' := [(1, .pure), (2, .pure), (3, .read), (4, .pure), (5, .pure), (6, .read), (7, .pure), (8, .pure), (9, .pure), (10, .read), (11, .pure), (12, .pure), (13, .read), (14, .grow), (15, .grow), (16, .free)]) (by kernel_rfl) (by kernel_rfl) rfl rfl (s_move  h5' ?_)
            refine z_pure (i := 1) (U' := [(2, .pure), (3, .read), (4, .pure), (5, .pure), (6, .read), (7, .pure), (8, .pure), (9, .pure), (10, .read), (11, .pure), (12, .pure), (13, .read), (14, .grow), (15, .grow), (16, .free)]) (by kernel_rfl) (by kernel_rfl) rfl rfl (s_move  h10' ?_)
            refine z_pure (i := 2) (U' := [(3, .read), (4, .pure), (5, .pure), (6, .read), (7, .pure), (8, .pure), (9, .pure), (10, .read), (11, .pure), (12, .pure), (13, .read), (14, .grow), (15, .grow), (16, .free)]) (by kernel_rfl) (by kernel_rfl) rfl rfl (s_ixo (i := i)  rfl rfl (by omega) (by first | omega | (simp; done) | (simp; omega)) si_22 ?_)
            refine z_read (i := 3) (U' := [(4, .pure), (5, .pure), (6, .read), (7, .pure), (8, .pure), (9, .pure), (10, .read), (11, .pure), (12, .pure), (13, .read), (14, .grow), (15, .grow), (16, .free)]) (by kernel_rfl) (by kernel_rfl) rfl rfl (s_mrowD [_, _]  rfl vi_23 hS (by omega) (mC_row hli) ?_)
            refine z_pure (i := 4) (U' := [(5, .pure), (6, .read), (7, .pure), (8, .pure), (9, .pure), (10, .read), (11, .pure), (12, .pure), (13, .read), (14, .grow), (15, .grow), (16, .free)]) (by kernel_rfl) (by kernel_rfl) rfl rfl (s_move  h7' ?_)
            refine z_pure (i := 5) (U' := [(6, .read), (7, .pure), (8, .pure), (9, .pure), (10, .read), (11, .pure), (12, .pure), (13, .read), (14, .grow), (15, .grow), (16, .free)]) (by kernel_rfl) (by kernel_rfl) rfl rfl (s_ixr (i := c)  rfl rfl (hR.slD [_, _] hS encR_len hin) (by omega) (by first | omega | (simp; done) | (simp; omega)) si_23 ?_)
            refine z_read (i := 6) (U' := [(7, .pure), (8, .pure), (9, .pure), (10, .read), (11, .pure), (12, .pure), (13, .read), (14, .grow), (15, .grow), (16, .free)]) (by kernel_rfl) (by kernel_rfl) rfl rfl (s_lde (i := c) zRR  rfl vi_49 (hR.slD [_, _] hS encR_len hin) (by first | omega | (simp; done) | (simp; omega)) rfl rfl (.inl rfl) ?_)
            refine z_pure (i := 7) (U' := [(8, .pure), (9, .pure), (10, .read), (11, .pure), (12, .pure), (13, .read), (14, .grow), (15, .grow), (16, .free)]) (by kernel_rfl) (by kernel_rfl) rfl rfl (s_move  h5' ?_)
            refine z_pure (i := 8) (U' := [(9, .pure), (10, .read), (11, .pure), (12, .pure), (13, .read), (14, .grow), (15, .grow), (16, .free)]) (by kernel_rfl) (by kernel_rfl) rfl rfl (s_move  h7' ?_)
            refine z_pure (i := 9) (U' := [(10, .read), (11, .pure), (12, .pure), (13, .read), (14, .grow), (15, .grow), (16, .free)]) (by kernel_rfl) (by kernel_rfl) rfl rfl (s_ixo (i := c)  rfl rfl (by omega) (by first | omega | (simp; done) | (simp; omega)) si_22 ?_)
            refine z_read (i := 10) (U' := [(11, .pure), (12, .pure), (13, .read), (14, .grow), (15, .grow), (16, .free)]) (by kernel_rfl) (by kernel_rfl) rfl rfl (s_mrowD [_, _]  rfl vi_23 hS (by omega) (mC_row hlc) ?_)
            refine z_pure (i := 11) (U' := [(12, .pure), (13, .read), (14, .grow), (15, .grow), (16, .free)]) (by kernel_rfl) (by kernel_rfl) rfl rfl (s_move  h7' ?_)
            refine z_pure (i := 12) (U' := [(13, .read), (14, .grow), (15, .grow), (16, .free)]) (by kernel_rfl) (by kernel_rfl) rfl rfl (s_ixr (i := c)  rfl rfl (hR.slD [_, _] hS encR_len hcn) (by omega) (by first | omega | (simp; done) | (simp; omega)) si_23 ?_)
            refine z_read (i := 13) (U' := [(14, .grow), (15, .grow), (16, .free)]) (by kernel_rfl) (by kernel_rfl) rfl rfl (s_lde (i := c) zRR  rfl vi_49 (hR.slD [_, _] hS encR_len hcn) (by first | omega | (simp; done) | (simp; omega)) rfl rfl (.inl rfl) ?_)
            rw [hgi, hgc]
            refine z_two (x := (14, .grow)) (y := (15, .grow)) (U' := [(15, .grow), (16, .free)]) (U'' := [(14, .grow), (16, .free)]) (by kernel_rfl) (by kernel_rfl) (by kernel_rfl) ?_ ?_
            · refine z_grow rfl rfl (s_call Tryz.call51 rfl (hov _) ?_)
              rintro r wo ⟨rfl, hBo⟩
              refine ⟨hBo, ?_⟩
              replace hS := hS.grow hBo
              refine z_one (x := (15, .grow)) (U' := [(16, .free)]) (by kernel_rfl) (by kernel_rfl) ?_
              refine z_grow rfl rfl (s_alloc  vi_49 hS ?_)
              intro b11 wz19 hS hBz19
              refine ⟨hBz19, ?_⟩
              refine z_one (x := (16, .free)) (U' := []) (by kernel_rfl) (by kernel_rfl) ?_
              refine z_free rfl rfl (s_sta (k := 0)  rfl rfl vi_49 hS rfl rfl rfl (Nat.le_of_ble_eq_true rfl) rfl ?_)
              intro wz20 hS
              refine z_end ?_
              repeat (with_reducible first | refine c_seq ?_ | refine c_block ?_ | refine c_skip ?_ | refine x_then ?_ | refine x_block ?_)
              exact ⟨_, rfl, by assumption, by assumption, by assumption, by assumption, by assumption, b11, rfl, hS⟩
            · refine z_grow rfl rfl (s_alloc  vi_49 hS ?_)
              intro b11 wz21 hS hBz21
              refine ⟨hBz21, ?_⟩
              refine z_one (x := (14, .grow)) (U' := [(16, .free)]) (by kernel_rfl) (by kernel_rfl) ?_
              refine z_grow rfl rfl (s_call Tryz.call51 rfl (hov _) ?_)
              rintro r wo ⟨rfl, hBo⟩
              refine ⟨hBo, ?_⟩
              replace hS := hS.grow hBo
              refine z_one (x := (16, .free)) (U' := []) (by kernel_rfl) (by kernel_rfl) ?_
              refine z_free rfl rfl (s_sta (k := 0)  rfl rfl vi_49 hS rfl rfl rfl (Nat.le_of_ble_eq_true rfl) rfl ?_)
              intro wz22 hS
              refine z_end ?_
              repeat (with_reducible first | refine c_seq ?_ | refine c_block ?_ | refine c_skip ?_ | refine x_then ?_ | refine x_block ?_)
              exact ⟨_, rfl, by assumption, by assumption, by assumption, by assumption, by assumption, b11, rfl, hS⟩
          clear hS
          rintro ρ w7 ⟨h2', h5', h6', h7', h10', b11, h11', hS⟩
          repeat (with_reducible first | refine c_seq ?_ | refine c_block ?_ | refine c_skip ?_ | refine x_then ?_ | refine x_block ?_)
          refine c_reg ?_
          refine l_pure rfl (s_move  h7' ?_)
          refine l_pure rfl (s_asg  rfl ?_)
          refine l_nil ?_
          repeat (with_reducible first | refine c_seq ?_ | refine c_skip ?_ | refine x_then ?_ | refine x_block ?_)
          refine c_cut1 (fun ρ w' => ρ 2 = .pointer (some ⟨b2, 0, none⟩) ∧ ρ 5 = .slice (some ⟨bo, 0, none⟩) n cap ∧ ρ 6 = .pointer (some ⟨b6, 0, none⟩) ∧ ρ 7 = .int .i64 c ∧ ρ 10 = .int .i64 i ∧ ∃ R, MatG R n n (qM (dK X c i n)) ∧ St w w' ([(b6, 49, encR (ofQ (d1 * X c c))), (b2, 49, [.bool false, .string ⟨#[]⟩, .string ⟨#[]⟩])] ++ mD encR 49 23 bo (R.map Rw.v ++ so) R [])) ?_ ?_
          · repeat (with_reducible first | refine c_seq ?_ | refine c_block ?_ | refine c_skip ?_ | refine x_then ?_ | refine x_block ?_)
            refine c_loop (σ := Nat) (fun k ρ w' => c ≤ k ∧ k ≤ n ∧ ρ 2 = .pointer (some ⟨b2, 0, none⟩) ∧ ρ 5 = .slice (some ⟨bo, 0, none⟩) n cap ∧ ρ 6 = .pointer (some ⟨b6, 0, none⟩) ∧ ρ 7 = .int .i64 c ∧ ρ 10 = .int .i64 i ∧ ρ 11 = .pointer (some ⟨b11, 0, none⟩) ∧ ρ 12 = .int .i64 k ∧ ∃ R, MatG R n n (qM (dK X c i k)) ∧ St w w' ([(b11, 49, encR (ofQ f)), (b6, 49, encR (ofQ (d1 * X c c))), (b2, 49, [.bool false, .string ⟨#[]⟩, .string ⟨#[]⟩])] ++ mD encR 49 23 bo (R.map Rw.v ++ so) R [])) (fun k => n - k) c
              ⟨Nat.le_refl _, by omega, by assumption, by assumption, by assumption, by assumption, by assumption, by assumption, rfl, R, hR.congr fun a _ j _ => by show ofQ (dR X c i a j) = ofQ (dK X c i c a j); unfold dK; rw [if_neg (by omega)], hS⟩ ?_
            clear hS hR hli hlc
            rintro k ρ w8 ⟨hck, hk, h2', h5', h6', h7', h10', h11', h12', R, hR, hS⟩
            have hli : i < R.length := by rw [hR.len]; exact hin
            have hlc : c < R.length := by rw [hR.len]; exact hcn
            have hxi := hR.xlen hin
            have hti := tab_len n (qM (dK X c i k) i)
            have htc := tab_len n (qM (dK X c i k) c)
            repeat (with_reducible first | refine c_seq ?_ | refine c_block ?_ | refine c_skip ?_ | refine x_then ?_ | refine x_block ?_)
            by_cases hkn : k < n
            · by_cases hf0 : f = 0
              · repeat (with_reducible first | refine c_seq ?_ | refine c_block ?_ | refine c_skip ?_ | refine x_then ?_ | refine x_block ?_)
                refine c_reg ?_
                refine l_pure rfl (s_move  h12' ?_)
                refine l_pure rfl (s_move  h5' ?_)
                refine l_pure rfl (s_leno  rfl ⟨_, Tryz.underlying22⟩ ?_)
                refine l_pure rfl (s_lss  rfl rfl ?_)
                refine l_pure rfl (s_move  rfl ?_)
                refine l_pure (gd_yes 116 (by kernel_rfl) rfl (decide_eq_true (by omega))) (s_fld  h11' fo_49_1 ?_)
                refine l_read (gd_yes 116 (by kernel_rfl) rfl (decide_eq_true (by omega))) (s_ldo (k := 0)  rfl vi_9 hS rfl rfl rfl (.inr rfl) ?_)
                refine l_pure (gd_yes 116 (by kernel_rfl) rfl (decide_eq_true (by omega))) (s_nes  rfl rfl ?_)
                refine l_pure rfl (s_pick (vb rfl (decide_eq_true (by omega))) rfl ?_)
                refine l_nil ?_
                repeat (with_reducible first | refine c_seq ?_ | refine c_block ?_ | refine c_skip ?_ | refine x_then ?_ | refine x_block ?_)
                refine c_no rfl (decide_eq_false (fun h => h (ofQ_num_nil.2 hf0))) ?_
                repeat (with_reducible first | refine c_seq ?_ | refine c_block ?_ | refine c_skip ?_ | refine x_then ?_ | refine x_block ?_)
                refine c_exit ?_
                repeat (with_reducible first | refine x_then_exit ?_ | refine x_block_exit ?_ | refine x_block_pass rfl ?_)
                repeat (with_reducible first | refine c_seq ?_ | refine c_block ?_ | refine c_skip ?_ | refine x_then ?_ | refine x_block ?_)
                refine ⟨_, rfl, h2', h5', h6', h7', h10', R, hR.congr fun a _ j hj => ?_, hS.drop (List.sublist_cons_self _ _)⟩
                show ofQ (dK X c i k a j) = ofQ (dK X c i n a j)
                unfold dK
                by_cases e : a = i ∧ c ≤ j
                · rw [if_pos (show a = i ∧ c ≤ j ∧ j < n from ⟨e.1, e.2, hj⟩), ← hf, hf0]
                  by_cases e2 : j < k
                  · rw [if_pos (show a = i ∧ c ≤ j ∧ j < k from ⟨e.1, e.2, e2⟩)]
                  · rw [if_neg (fun q => e2 q.2.2)]
                    unfold dR
                    rw [if_neg (by omega), e.1]; congr 1; grind
                · rw [if_neg (fun q : a = i ∧ c ≤ j ∧ j < k => e ⟨q.1, q.2.1⟩), if_neg (fun q : a = i ∧ c ≤ j ∧ j < n => e ⟨q.1, q.2.1⟩)]
              · have g1 : (tab n (qM (dK X c i k) i)).getD k zRR = ofQ (X i k) := by
                  rw [tab_get _ _ hkn]; show ofQ (dK X c i k i k) = _; unfold dK dR
                  rw [if_neg (by omega), if_neg (by omega)]
                have g2 : (tab n (qM (dK X c i k) c)).getD k zRR = ofQ (X c k) := by
                  rw [tab_get _ _ hkn]; show ofQ (dK X c i k c k) = _; unfold dK dR
                  rw [if_neg (by omega), if_neg (by omega)]
                have q1 := hLX i (by omega) hin k hck hkn
                have q2 := hLX c (Nat.le_refl _) hcn k hck hkn
                have q5 := L_mul f (X c k)
                have hti2 := fun w => rTimes_ok f (X c k) w (by omega)
                have hmi := fun w => rMinus_ok (X i k) (f * X c k) w (by omega)
                repeat (with_reducible first | refine c_seq ?_ | refine c_block ?_ | refine c_skip ?_ | refine x_then ?_ | refine x_block ?_)
                refine c_reg ?_
                refine l_pure rfl (s_move  h12' ?_)
                refine l_pure rfl (s_move  h5' ?_)
                refine l_pure rfl (s_leno  rfl ⟨_, Tryz.underlying22⟩ ?_)
                refine l_pure rfl (s_lss  rfl rfl ?_)
                refine l_pure rfl (s_move  rfl ?_)
                refine l_pure (gd_yes 116 (by kernel_rfl) rfl (decide_eq_true (by omega))) (s_fld  h11' fo_49_1 ?_)
                refine l_read (gd_yes 116 (by kernel_rfl) rfl (decide_eq_true (by omega))) (s_ldo (k := 0)  rfl vi_9 hS rfl rfl rfl (.inr rfl) ?_)
                refine l_pure (gd_yes 116 (by kernel_rfl) rfl (decide_eq_true (by omega))) (s_nes  rfl rfl ?_)
                refine l_pure rfl (s_pick (vb rfl (decide_eq_true (by omega))) rfl ?_)
                refine l_nil ?_
                repeat (with_reducible first | refine c_seq ?_ | refine c_block ?_ | refine c_skip ?_ | refine x_then ?_ | refine x_block ?_)
                refine c_yes rfl (decide_eq_true (fun h => hf0 (ofQ_num_nil.1 h))) ?_
                repeat (with_reducible first | refine c_seq ?_ | refine c_block ?_ | refine c_skip ?_ | refine x_then ?_ | refine x_block ?_)
                refine c_draw [(0, .pure), (1, .pure), (2, .pure), (3, .read), (4, .pure), (5, .pure), (6, .pure), (7, .pure), (8, .read), (9, .pure), (10, .pure), (11, .read), (12, .read), (13, .pure), (14, .pure), (15, .pure), (16, .read), (17, .pure), (18, .pure), (19, .read), (20, .grow), (21, .grow), (22, .pure), (23, .free)] (by kernel_rfl) (by kernel_rfl) hS ?_
                intro wz23 hS hBz23
                refine w_pure rfl rfl (s_move  h5' ?_)
                refine w_pure rfl rfl (s_move  h10' ?_)
                refine w_pure rfl rfl (s_ixo (i := i)  rfl rfl (by omega) (by first | omega | (simp; done) | (simp; omega)) si_22 ?_)
                refine w_read rfl rfl (s_mrowD [_, _, _]  rfl vi_23 hS (by omega) (mC_row hli) ?_)
                refine w_pure rfl rfl (s_move  h12' ?_)
                refine w_pure rfl rfl (s_move  h5' ?_)
                refine w_pure rfl rfl (s_move  h10' ?_)
                refine w_pure rfl rfl (s_ixo (i := i)  rfl rfl (by omega) (by first | omega | (simp; done) | (simp; omega)) si_22 ?_)
                refine w_read rfl rfl (s_mrowD [_, _, _]  rfl vi_23 hS (by omega) (mC_row hli) ?_)
                refine w_pure rfl rfl (s_move  h12' ?_)
                refine w_pure rfl rfl (s_ixr (i := k)  rfl rfl (hR.slD [_, _, _] hS encR_len hin) (by omega) (by first | omega | (simp; done) | (simp; omega)) si_23 ?_)
                refine w_read rfl rfl (s_lde (i := k) zRR  rfl vi_49 (hR.slD [_, _, _] hS encR_len hin) (by first | omega | (simp; done) | (simp; omega)) rfl rfl (.inl rfl) ?_)
                refine w_read rfl rfl (s_ldo (k := 0)  h11' vi_49 hS rfl rfl rfl (.inl rfl) ?_)
                refine w_pure rfl rfl (s_move  h5' ?_)
                refine w_pure rfl rfl (s_move  h7' ?_)
                refine w_pure rfl rfl (s_ixo (i := c)  rfl rfl (by omega) (by first | omega | (simp; done) | (simp; omega)) si_22 ?_)
                refine w_read rfl rfl (s_mrowD [_, _, _]  rfl vi_23 hS (by omega) (mC_row hlc) ?_)
                refine w_pure rfl rfl (s_move  h12' ?_)
                refine w_pure rfl rfl (s_ixr (i := k)  rfl rfl (hR.slD [_, _, _] hS encR_len hcn) (by omega) (by first | omega | (simp; done) | (simp; omega)) si_23 ?_)
                refine w_read rfl rfl (s_lde (i := k) zRR  rfl vi_49 (hR.slD [_, _, _] hS encR_len hcn) (by first | omega | (simp; done) | (simp; omega)) rfl rfl (.inl rfl) ?_)
                rw [g1, g2]
                refine w_grow rfl rfl (s_call Tryz.call50 rfl (hti2 _) ?_)
                rintro _ wc24 ⟨rfl, hBc24⟩
                replace hS := hS.grow hBc24
                refine ⟨hBc24, ?_⟩
                refine w_grow rfl rfl (s_call Tryz.call52 rfl (hmi _) ?_)
                rintro _ wc25 ⟨rfl, hBc25⟩
                replace hS := hS.grow hBc25
                refine ⟨hBc25, ?_⟩
                refine w_pure rfl rfl (s_ixo (i := k)  rfl rfl (by omega) (by first | omega | (simp; done) | (simp; omega)) si_23 ?_)
                refine w_free rfl rfl (s_mstD [_, _, _] (i := i) (j := k) (ofQ (X i k - f * X c k)) encR_len  rfl rfl vi_49 hS rfl hli (by omega) (by omega) rfl rfl ?_)
                intro wz26 hS
                refine w_end ?_
                repeat (with_reducible first | refine c_seq ?_ | refine c_block ?_ | refine c_skip ?_ | refine x_then ?_ | refine x_block ?_)
                rw [← map_put_v R k (ofQ (X i k - f * X c k)) hli] at hS
                repeat (with_reducible first | refine c_seq ?_ | refine c_block ?_ | refine c_skip ?_ | refine x_then ?_ | refine x_block ?_)
                refine c_reg ?_
                refine l_pure rfl (s_move  h12' ?_)
                refine l_pure rfl (s_add  rfl rfl (IntWalk.i64_in _ (by omega)) ?_)
                refine l_pure rfl (s_asg  rfl ?_)
                refine l_nil ?_
                repeat (with_reducible first | refine c_seq ?_ | refine c_block ?_ | refine c_skip ?_ | refine x_then ?_ | refine x_block ?_)
                refine ⟨k + 1, _, rfl, ⟨by omega, hkn, by assumption, by assumption, by assumption, by assumption, by assumption, by assumption, vi rfl (by omega), _, (hR.put hin k (ofQ (X i k - f * X c k))).congr fun a _ j _ => ?_, hS⟩, by omega⟩
                show (if a = i ∧ j = k then ofQ (X i k - f * X c k) else ofQ (dK X c i k a j)) = ofQ (dK X c i (k + 1) a j)
                unfold dK
                by_cases g : a = i ∧ j = k
                · rw [if_pos g, if_pos (by omega), g.2, hf]
                · rw [if_neg g]
                  by_cases g2 : a = i ∧ c ≤ j ∧ j < k
                  · rw [if_pos g2, if_pos (by omega)]
                  · rw [if_neg g2, if_neg (by omega)]
            · repeat (with_reducible first | refine c_seq ?_ | refine c_block ?_ | refine c_skip ?_ | refine x_then ?_ | refine x_block ?_)
              refine c_reg ?_
              refine l_pure rfl (s_move  h12' ?_)
              refine l_pure rfl (s_move  h5' ?_)
              refine l_pure rfl (s_leno  rfl ⟨_, Tryz.underlying22⟩ ?_)
              refine l_pure rfl (s_lss  rfl rfl ?_)
              refine l_pure rfl (s_move  rfl ?_)
              refine l_no (gno_yes 116 (by kernel_rfl) rfl (decide_eq_false (by omega))) ?_
              refine l_no (gno_yes 116 (by kernel_rfl) rfl (decide_eq_false (by omega))) ?_
              refine l_no (gno_yes 116 (by kernel_rfl) rfl (decide_eq_false (by omega))) ?_
              refine l_pure rfl (s_pick (vb rfl (decide_eq_false (by omega))) rfl ?_)
              refine l_nil ?_
              repeat (with_reducible first | refine c_seq ?_ | refine c_block ?_ | refine c_skip ?_ | refine x_then ?_ | refine x_block ?_)
              refine c_no rfl (rfl) ?_
              repeat (with_reducible first | refine c_seq ?_ | refine c_block ?_ | refine c_skip ?_ | refine x_then ?_ | refine x_block ?_)
              refine c_exit ?_
              repeat (with_reducible first | refine x_then_exit ?_ | refine x_block_exit ?_ | refine x_block_pass rfl ?_)
              repeat (with_reducible first | refine c_seq ?_ | refine c_block ?_ | refine c_skip ?_ | refine x_then ?_ | refine x_block ?_)
              obtain rfl : n = k := by omega
              exact ⟨_, rfl, h2', h5', h6', h7', h10', R, hR, hS.drop (List.sublist_cons_self _ _)⟩
          clear hS hR hli hlc
          rintro ρ w8 ⟨h2', h5', h6', h7', h10', R, hR, hS⟩
          repeat (with_reducible first | refine c_seq ?_ | refine c_block ?_ | refine c_skip ?_ | refine x_then ?_ | refine x_block ?_)
          refine c_reg ?_
          refine l_pure rfl (s_move  h10' ?_)
          refine l_pure rfl (s_add  rfl rfl (IntWalk.i64_in _ (by omega)) ?_)
          refine l_pure rfl (s_asg  rfl ?_)
          refine l_nil ?_
          repeat (with_reducible first | refine c_seq ?_ | refine c_block ?_ | refine c_skip ?_ | refine x_then ?_ | refine x_block ?_)
          exact ⟨i + 1, _, rfl, ⟨by omega, hin, by assumption, by assumption, by assumption, by assumption, vi rfl (by omega), R, hR.congr fun a _ j hj => congrArg ofQ (dR_step a j hj hci), hS⟩, by omega⟩
        · refine c_no rfl (decide_eq_false (by omega)) ?_
          repeat (with_reducible first | refine c_seq ?_ | refine c_block ?_ | refine c_skip ?_ | refine x_then ?_ | refine x_block ?_)
          refine c_exit ?_
          repeat (with_reducible first | refine x_then_exit ?_ | refine x_block_exit ?_ | refine x_block_pass rfl ?_)
          repeat (with_reducible first | refine c_seq ?_ | refine c_block ?_ | refine c_skip ?_ | refine x_then ?_ | refine x_block ?_)
          obtain rfl : n = i := by omega
          exact ⟨_, rfl, h2', h5', h6', h7', R, hR, hS⟩
      clear hS hR hlc
      rintro ρ w6 ⟨h2', h5', h6', h7', R, hR, hS⟩
      repeat (with_reducible first | refine c_seq ?_ | refine c_block ?_ | refine c_skip ?_ | refine x_then ?_ | refine x_block ?_)
      refine c_reg ?_
      refine l_pure rfl (s_move  h7' ?_)
      refine l_pure rfl (s_add  rfl rfl (IntWalk.i64_in _ (by omega)) ?_)
      refine l_pure rfl (s_asg  rfl ?_)
      refine l_nil ?_
      repeat (with_reducible first | refine c_seq ?_ | refine c_block ?_ | refine c_skip ?_ | refine x_then ?_ | refine x_block ?_)
      refine ⟨c + 1, _, rfl, ⟨hcn, hnx, by assumption, by assumption, by assumption, vi rfl (by omega), R, _, hR, fun i h1 h2 j h3 h4 => ?_, by rw [hyes, ← hXa]; exact hS⟩, by omega⟩
      rw [dR_elim X (by omega) h2 (by omega), hyes, elim_ne _ (by omega)]
      show _ = elim (swpR s.M c p) c (s.M p c) (fun i => swpR s.M c p i c) i j
      rw [elim_ne _ (by omega), hXs i (by omega) h2 j (by omega) h4, hXs c (Nat.le_refl _) hcn j (by omega) h4, hXs i (by omega) h2 c (Nat.le_refl _) hcn, hXa]
    · refine c_no rfl (decide_eq_false (by omega)) ?_
      repeat (with_reducible first | refine c_seq ?_ | refine c_block ?_ | refine c_skip ?_ | refine x_then ?_ | refine x_block ?_)
      refine c_exit ?_
      repeat (with_reducible first | refine x_then_exit ?_ | refine x_block_exit ?_ | refine x_block_pass rfl ?_)
      repeat (with_reducible first | refine c_seq ?_ | refine c_block ?_ | refine c_skip ?_ | refine x_then ?_ | refine x_block ?_)
      obtain rfl : n = c := by omega
      exact ⟨_, rfl, hcP, h2', h6', _, hS⟩
  clear hS
  rintro ρ w3 ⟨hfull, h2', h6', T, hS⟩
  have e2 : detP n M = (rdc n M n).d := by unfold detP; rw [if_pos hfull]
  rw [e2]
  repeat (with_reducible first | refine c_seq ?_ | refine c_block ?_ | refine c_skip ?_ | refine x_then ?_ | refine x_block ?_)
  refine c_reg ?_
  refine l_read rfl (s_ldo (k := 0)  h6' vi_49 hS rfl rfl rfl (.inl rfl) ?_)
  refine l_heavy rfl (s_sta (k := 1)  h2' rfl vi_49 hS rfl rfl rfl (Nat.le_of_ble_eq_true rfl) rfl ?_)
  intro wz27 hS
  refine l_pure rfl (s_asg  rfl ?_)
  refine l_nil ?_
  repeat (with_reducible first | refine c_seq ?_ | refine c_block ?_ | refine c_skip ?_ | refine x_then ?_ | refine x_block ?_)
  refine c_ret ?_
  repeat (with_reducible first | refine x_then_ret ?_ | refine x_block_ret ?_)
  refine r_cell_tmp (k := 1) rfl h2' rfl vi_49 hS rfl rfl ?_
  exact ⟨rfl, hS.below⟩
theorem LinearDeterminant_ok (va : Value) (A : List (List RR)) (vs : List Value) (w : World) (hA : Mts encR 3 w va A vs) :
    Ret Tryz.prog 6 #[va] w fun v w' => v = .bool true ∧ Below w.heap.size w w' := by
  have hM : MX = 1099511627776 := rfl
  have hS := St.init w
  refine enter Tryz.func6 rfl Tryz.ntmps6 rfl ?_
  repeat (with_reducible first | refine c_seq ?_ | refine c_block ?_ | refine c_skip ?_ | refine x_then ?_ | refine x_block ?_)
  refine c_reg ?_
  refine l_pure rfl (s_asg  rfl ?_)
  refine l_nil ?_
  repeat (with_reducible first | refine c_seq ?_ | refine c_block ?_ | refine c_skip ?_ | refine x_then ?_ | refine x_block ?_)
  refine c_reg ?_
  refine l_pure rfl (s_move  rfl ?_)
  refine l_heavy rfl (s_call Tryz.call9 rfl (FewRows_ok va A vs _ (hA.below hS.below)) ?_)
  rintro _ wc1 ⟨rfl, hBc1⟩
  replace hS := hS.grow hBc1
  refine l_pure rfl (s_not  rfl ?_)
  refine l_nil ?_
  repeat (with_reducible first | refine c_seq ?_ | refine c_block ?_ | refine c_skip ?_ | refine x_then ?_ | refine x_block ?_)
  cases hf : fewA A with
  | false =>
    refine c_yes rfl (rfl) ?_
    repeat (with_reducible first | refine c_seq ?_ | refine c_block ?_ | refine c_skip ?_ | refine x_then ?_ | refine x_block ?_)
    refine c_reg ?_
    refine l_heavy rfl (s_call Tryz.call11 rfl (Lawake_ok _) ?_)
    rintro _ wc2 ⟨rfl, hBc2⟩
    replace hS := hS.grow hBc2
    refine l_pure rfl (s_asg  rfl ?_)
    refine l_nil ?_
    repeat (with_reducible first | refine c_seq ?_ | refine c_block ?_ | refine c_skip ?_ | refine x_then ?_ | refine x_block ?_)
    refine c_ret ?_
    repeat (with_reducible first | refine x_then_ret ?_ | refine x_block_ret ?_)
    refine r_one rfl rfl ?_
    exact ⟨rfl, hS.below⟩
  | true =>
  obtain ⟨_, hRB, _⟩ := fewA_B hf
  refine c_no rfl (rfl) ?_
  repeat (with_reducible first | refine c_seq ?_ | refine c_block ?_ | refine c_skip ?_ | refine x_then ?_ | refine x_block ?_)
  refine c_reg ?_
  refine l_pure rfl (s_move  rfl ?_)
  refine l_heavy rfl (s_call Tryz.call22 rfl (lDeterminant_ok va A vs 24 _ (hA.below hS.below) hRB K24) ?_)
  rintro _ wc3 ⟨rfl, hBc3⟩
  replace hS := hS.grow hBc3
  refine l_pure rfl (s_move  rfl ?_)
  refine l_pure rfl (s_ext  rfl rfl ?_)
  refine l_pure rfl (s_ext  rfl rfl ?_)
  refine l_heavy rfl (s_alloc  vi_49 hS ?_)
  intro b4 wz5 hS hBz5
  refine l_heavy rfl (s_sta (k := 0)  rfl rfl vi_49 hS rfl rfl rfl (Nat.le_of_ble_eq_true rfl) rfl ?_)
  intro wz6 hS
  refine l_pure rfl (s_asg  rfl ?_)
  refine l_nil ?_
  repeat (with_reducible first | refine c_seq ?_ | refine c_block ?_ | refine c_skip ?_ | refine x_then ?_ | refine x_block ?_)
  refine c_reg ?_
  refine l_pure rfl (s_move  rfl ?_)
  refine l_heavy rfl (s_call Tryz.call23 rfl (rDeterminant_ok va A vs 24 _ (hA.below hS.below) hRB K24) ?_)
  rintro _ wc7 ⟨rfl, hBc7⟩
  replace hS := hS.grow hBc7
  refine l_pure rfl (s_move  rfl ?_)
  refine l_pure rfl (s_ext  rfl rfl ?_)
  refine l_pure rfl (s_ext  rfl rfl ?_)
  refine l_heavy rfl (s_alloc  vi_49 hS ?_)
  intro b8 wz9 hS hBz9
  refine l_heavy rfl (s_sta (k := 0)  rfl rfl vi_49 hS rfl rfl rfl (Nat.le_of_ble_eq_true rfl) rfl ?_)
  intro wz10 hS
  refine l_pure rfl (s_asg  rfl ?_)
  refine l_nil ?_
  repeat (with_reducible first | refine c_seq ?_ | refine c_block ?_ | refine c_skip ?_ | refine x_then ?_ | refine x_block ?_)
  refine c_reg ?_
  refine l_heavy rfl (s_call Tryz.call11 rfl (Lawake_ok _) ?_)
  rintro _ wc11 ⟨rfl, hBc11⟩
  replace hS := hS.grow hBc11
  refine l_pure rfl (s_move  rfl ?_)
  refine l_read (gd_yes 22 (by kernel_rfl) rfl rfl) (s_ldo (k := 1)  rfl vi_49 hS rfl rfl rfl (.inl rfl) ?_)
  refine l_read (gd_yes 22 (by kernel_rfl) rfl rfl) (s_ldo (k := 0)  rfl vi_49 hS rfl rfl rfl (.inl rfl) ?_)
  refine l_pure (gd_yes 22 (by kernel_rfl) rfl rfl) (s_eqR  rfl rfl ?_)
  refine l_pure rfl (s_pick (vb rfl rfl) rfl ?_)
  refine l_pure rfl (s_move  rfl ?_)
  refine l_pure (gd_yes 27 (by kernel_rfl) rfl (decide_eq_true rfl)) (s_move  rfl ?_)
  refine l_pure (gd_yes 27 (by kernel_rfl) rfl (decide_eq_true rfl)) (s_move  rfl ?_)
  refine l_pure (gd_yes 27 (by kernel_rfl) rfl (decide_eq_true rfl)) (s_eql  rfl rfl ?_)
  refine l_pure rfl (s_pick (vb rfl (decide_eq_true rfl)) rfl ?_)
  refine l_pure rfl (s_asg  rfl ?_)
  refine l_nil ?_
  repeat (with_reducible first | refine c_seq ?_ | refine c_block ?_ | refine c_skip ?_ | refine x_then ?_ | refine x_block ?_)
  refine c_ret ?_
  repeat (with_reducible first | refine x_then_ret ?_ | refine x_block_ret ?_)
  refine r_one rfl rfl ?_
  exact ⟨vb rfl (by simp), hS.below⟩
end Go.Proofs.YtblfipdfklpmmaaGreatDoor
