/-
  Part 7 of the texts that the law's proof is made of: the framework and the walks.
-/
import Derived.Test.YtblfipdfklpmmaaDoorPn6
namespace Go.Sx
open Go Go.RowKit Go.Proofs.YtblfipdfklpmmaaDoor
def mD {α : Type} (enc : α → List Value) (t tS : TypeId) (bo : Nat) (cs : List Value) (R : List (Rw α)) (H : List Blk) : List Blk := (bo, tS, cs) :: (R.map (Rw.blk enc t) ++ H)
section
variable {P : Program} {N : Nat} {ρ : Nat → Value} {w0 w w' : World} {d : Option Tmp} {ty : TypeId} {pos : String} {aft : Array Edge} {g : Option (Nat × Bool)} {x y z : Operand} {t t' e : TypeId} {H : List Blk} {k b o : Nat} {v : Value} {K : Value → Prop} {K2 : Value → World → Prop}
  {α : Type} {enc : α → List Value} {size : Nat} {R : List (Rw α)} {tR tS : TypeId} {bo : Nat} {cs : List Value} {zz : List Value}
theorem mD_at {i : Nat} (hi : i < R.length) : (mD enc tR tS bo cs R H)[i + 1]? = some ((R.getD i zRw).b, tR, (R.getD i zRw).X.flatMap enc ++ (R.getD i zRw).sp) := by
  unfold mD
  rw [List.getElem?_cons_succ, List.getElem?_append_left (by rw [List.length_map]; exact hi), List.getElem?_map, List.getElem?_eq_getElem hi, getD_ge R zRw hi]; rfl
theorem MatG.slD {n m : Nat} {f : Nat → Nat → α} (pre : List Blk) (h : MatG R n m f) (hS : St w0 w (pre ++ mD enc tR tS bo cs R H)) (hu : ∀ x, (enc x).length = size) {i : Nat} (hi : i < n) : Sl enc size w (R.getD i zRw).v (tab m (f i)) := by
  have hl : i < R.length := by rw [h.len]; exact hi
  have := hS.slg (k := pre.length + (i + 1)) (by rw [preAt]; exact mD_at hl) hu (n := m) (cap := (R.getD i zRw).cap) (by rw [h.xlen hi]; omega) (h.cap i hi).1 (h.cap i hi).2
  rwa [h.row i hi, List.take_of_length_le (by rw [tab_len]; omega), ← h.v hi] at this
theorem MatG.mtsD {n m cap : Nat} {f : Nat → Nat → α} {so : List Value} (pre : List Blk) (h : MatG R n m f) (hS : St w0 w (pre ++ mD enc tR tS bo (R.map Rw.v ++ so) R H)) (hu : ∀ x, (enc x).length = size) (h1 : n ≤ cap) (h2 : cap ≤ 9223372036854775807) :
    Mts enc size w (.slice (some ⟨bo, 0, none⟩) n cap) (tabM n m f) (R.map Rw.v) := by
  have hk : (pre ++ mD enc tR tS bo (R.map Rw.v ++ so) R H)[pre.length + 0]? = some (bo, tS, (R.map Rw.v).flatMap enV ++ so) := by rw [preAt, enV_flat]; rfl
  have hsl := hS.slg hk (fun _ => rfl) (n := n) (cap := cap) (by rw [List.length_map, h.len]; omega) h1 h2
  rw [List.take_of_length_le (by rw [List.length_map, h.len]; omega)] at hsl
  refine ⟨by rw [List.length_map, h.len, tabM_len], hsl, fun i hi => ?_⟩
  rw [tabM_len] at hi
  rw [tabM_row f hi, List.getD_eq_getElem?_getD, mB_row (by rw [h.len]; exact hi)]
  exact h.slD pre hS hu hi
end
end Go.Sx
namespace Go.Proofs.YtblfipdfklpmmaaDoor
open Go Go.RowKit Go.Sx
end Go.Proofs.YtblfipdfklpmmaaDoor
namespace Go.Proofs.YtblfipdfklpmmaaDoor
open Go Go.RowKit Go.Sx
theorem RBM_mono {K K' : Nat} {A : List (List RR)} (h : RBM K A) (hk : K ≤ K') : RBM K' A := fun a ha => RB_mono (h a ha) hk
end Go.Proofs.YtblfipdfklpmmaaDoor
namespace Go.Proofs.YtblfipdfklpmmaaDoor
open Go Go.RowKit Go.Sx
theorem perm_row {α : Type} (A B : List α) (z : α) : (A ++ B ++ [z]).Perm (z :: A ++ B) := List.perm_append_singleton _ _
end Go.Proofs.YtblfipdfklpmmaaDoor
namespace Go.Proofs.YtblfipdfklpmmaaDoor
open Go Go.RowKit Go.Sx
def q1 : Rat := ((1 : Int) : Rat)
def q2 : Rat := ((2 : Int) : Rat)
def q4 : Rat := ((4 : Int) : Rat)
def qm2 : Rat := ((-2 : Int) : Rat)
def Aw : List (List RR) := [[ofQ q1, ofQ q2], [ofQ q2, ofQ q4]]
def Bw : List RR := [zRR, zRR]
def aMx : Mx := fun i j => if j = 0 then (if i = 0 then q1 else q2) else if j = 1 then (if i = 0 then q2 else q4) else 0
theorem two_cases {i : Nat} (h : i < 2) : i = 0 ∨ i = 1 := by omega
theorem three_cases {i : Nat} (h : i < 3) : i = 0 ∨ i = 1 ∨ i = 2 := by omega
theorem RM_Aw : ∀ i, i < 2 → ∀ j, j < 2 → RM Aw i j = aMx i j := by
  intro i hi j hj
  rcases two_cases hi with rfl | rfl <;> rcases two_cases hj with rfl | rfl <;> exact toQ_ofQ _
theorem AUG_Aw : ∀ i, i < 2 → ∀ j, j < 3 → AUG Aw Bw i j = aMx i j := by
  intro i hi j hj
  rcases three_cases hj with rfl | rfl | rfl
  · show RM Aw i 0 = _; exact RM_Aw i hi 0 (by decide)
  · show RM Aw i 1 = _; exact RM_Aw i hi 1 (by decide)
  · show VX Bw i = 0
    rcases two_cases hi with rfl | rfl <;> exact toQ_zRR
theorem shp_Aw : shpE Aw = 0 := rfl
theorem slE_Aw : slE Aw Bw = 5 := by
  have h := (rdc_cols (n := 2) (m := 3) AUG_Aw 2 (by decide)).2.1
  have h2 : (rdc 2 aMx 2).P.length = 1 := by decide +kernel
  unfold slE slD
  show (if sqE Aw ≠ 0 then _ else if (2 : Nat) ≠ 2 then _ else if (rdc 2 (AUG Aw Bw) 2).P.length = 2 then _ else _) = _
  rw [if_neg (by decide), if_neg (by decide), h, h2]; rfl
theorem krL_Aw : krL Aw = [[ofQ qm2, ofQ q1]] := by
  obtain ⟨h1, h2, _⟩ := rdc_cols (n := 2) (m := 2) RM_Aw 2 (by decide)
  have hP : (rdc 2 aMx 2).P = [0] := by decide +kernel
  have hM : (rdc 2 aMx 2).M 0 1 = q2 := by decide +kernel
  have e : krL Aw = (frL (rdA Aw).P 2).map (krRow (rdA Aw).M (rdA Aw).P 2) := if_pos shp_Aw
  rw [e]
  show (frL (rdc 2 (RM Aw) 2).P 2).map (krRow (rdc 2 (RM Aw) 2).M (rdc 2 (RM Aw) 2).P 2) = _
  have hP2 : (rdc 2 (RM Aw) 2).P = [0] := by rw [← hP]; exact h2
  have hM2 : (rdc 2 (RM Aw) 2).M 0 1 = q2 := by rw [h1 0 (by decide) 1 (by decide), hM]
  rw [hP2]
  show [[ofQ (kv [0] _ 1 0), ofQ (kv [0] _ 1 1)]] = _
  have k0 : kv [0] (rdc 2 (RM Aw) 2).M 1 0 = qm2 := by
    show - (rdc 2 (RM Aw) 2).M 0 1 = _
    rw [hM2]; decide +kernel
  have k1 : kv [0] (rdc 2 (RM Aw) 2).M 1 1 = q1 := rfl
  rw [k0, k1]
theorem Aw_RB : RBM 1 Aw := by
  intro a ha r hr
  have hq : ∀ z : Int, z.natAbs < 256 → Lr (ofQ (z : Rat)) ≤ 1 := fun z hz => by rw [Lr_ofQ]; exact L_int _ (by simpa using hz) (by decide)
  simp only [Aw, List.mem_cons, List.not_mem_nil, or_false] at ha
  rcases ha with rfl | rfl
  · simp only [List.mem_cons, List.not_mem_nil, or_false] at hr
    rcases hr with rfl | rfl
    · exact hq 1 (by decide)
    · exact hq 2 (by decide)
  · simp only [List.mem_cons, List.not_mem_nil, or_false] at hr
    rcases hr with rfl | rfl
    · exact hq 2 (by decide)
    · exact hq 4 (by decide)
theorem Bw_RB : RB 1 Bw := fun r hr => by
  simp only [Bw, List.mem_cons, List.not_mem_nil, or_false] at hr
  rcases hr with rfl | rfl <;> exact Nat.le_refl _
theorem ex_mts {w0 w : World} {b12 b11 b8 : Nat} (hS : St w0 w [(b12, 30, ([.slice (some ⟨b8, 0, none⟩) 2 2, .slice (some ⟨b11, 0, none⟩) 2 2] : List Value).flatMap enV), (b11, 27, [ofQ q2, ofQ q4].flatMap encR), (b8, 27, [ofQ q1, ofQ q2].flatMap encR)]) :
    Mts encR 3 w (.slice (some ⟨b12, 0, none⟩) 2 2) Aw [.slice (some ⟨b8, 0, none⟩) 2 2, .slice (some ⟨b11, 0, none⟩) 2 2] := by
  refine ⟨rfl, hS.sle (k := 0) (n := 2) (cap := 2) rfl (fun _ => rfl) (Nat.le_refl _) (Nat.le_refl _) (by decide), fun i hi => ?_⟩
  rcases two_cases hi with rfl | rfl
  · exact hS.sle (k := 2) (L := [ofQ q1, ofQ q2]) (n := 2) (cap := 2) rfl encR_len (Nat.le_refl _) (Nat.le_refl _) (by decide)
  · exact hS.sle (k := 1) (L := [ofQ q2, ofQ q4]) (n := 2) (cap := 2) rfl encR_len (Nat.le_refl _) (Nat.le_refl _) (by decide)
set_option maxHeartbeats 2000000 in
theorem Lawake_ok (w : World) :
    Ret Tryd.prog 12 #[] w fun v w' => v = .bool true ∧ Below w.heap.size w w' := by
  have hM : MX = 1099511627776 := rfl
  have hS := St.init w
  refine enter Tryd.func12 rfl Tryd.ntmps12 rfl ?_
  repeat (with_reducible first | refine c_seq ?_ | refine c_block ?_ | refine c_skip ?_ | refine x_then ?_ | refine x_block ?_)
  refine c_reg ?_
  refine l_pure rfl (s_asg  rfl ?_)
  refine l_nil ?_
  repeat (with_reducible first | refine c_seq ?_ | refine c_block ?_ | refine c_skip ?_ | refine x_then ?_ | refine x_block ?_)
  refine c_reg ?_
  refine l_heavy rfl (s_call Tryd.call32 rfl (QInt_ok 1 _ (by decide) (by decide)) ?_)
  rintro r wa ⟨rfl, hBa⟩
  replace hS := hS.grow hBa
  refine l_heavy rfl (s_call Tryd.call32 rfl (QInt_ok 2 _ (by decide) (by decide)) ?_)
  rintro r wb ⟨rfl, hBb⟩
  replace hS := hS.grow hBb
  refine l_heavy rfl (s_bsl (vs := [aggR (ofQ q1), aggR (ofQ q2)])  rfl si_30 rfl (by decide) (by decide) (by decide) (by simp [Value.cells, aggR]) rfl hS ?_)
  intro b8 wz1 hS hBz1
  refine l_heavy rfl (s_call Tryd.call32 rfl (QInt_ok 2 _ (by decide) (by decide)) ?_)
  rintro r wc ⟨rfl, hBc⟩
  replace hS := hS.grow hBc
  refine l_heavy rfl (s_call Tryd.call32 rfl (QInt_ok 4 _ (by decide) (by decide)) ?_)
  rintro r wd ⟨rfl, hBd⟩
  replace hS := hS.grow hBd
  refine l_heavy rfl (s_bsl (vs := [aggR (ofQ q2), aggR (ofQ q4)])  rfl si_30 rfl (by decide) (by decide) (by decide) (by simp [Value.cells, aggR]) rfl hS ?_)
  intro b11 wz2 hS hBz2
  refine l_heavy rfl (s_bsl (vs := [.slice (some ⟨b8, 0, none⟩) 2 2, .slice (some ⟨b11, 0, none⟩) 2 2])  rfl si_24 rfl (by decide) (by decide) (by decide) (by simp [Value.cells]) rfl hS ?_)
  intro b12 wz3 hS hBz3
  refine l_pure rfl (s_asg  rfl ?_)
  refine l_nil ?_
  repeat (with_reducible first | refine c_seq ?_ | refine c_block ?_ | refine c_skip ?_ | refine x_then ?_ | refine x_block ?_)
  replace hS : St w _ [(b12, 30, ([.slice (some ⟨b8, 0, none⟩) 2 2, .slice (some ⟨b11, 0, none⟩) 2 2] : List Value).flatMap enV), (b11, 27, [ofQ q2, ofQ q4].flatMap encR), (b8, 27, [ofQ q1, ofQ q2].flatMap encR)] := hS
  have hm := ex_mts hS
  repeat (with_reducible first | refine c_seq ?_ | refine c_block ?_ | refine c_skip ?_ | refine x_then ?_ | refine x_block ?_)
  refine c_reg ?_
  refine l_pure rfl (s_move  rfl ?_)
  refine l_pure rfl (s_build  rfl bz_27 ?_)
  refine l_pure rfl (s_build  rfl bz_27 ?_)
  refine l_heavy rfl (s_bsl (vs := [aggR zRR, aggR zRR])  rfl si_30 rfl (by decide) (by decide) (by decide) (by simp [Value.cells, aggR]) rfl hS ?_)
  intro b17 wz4 hS hBz4
  replace hS : St w _ ((b17, 27, Bw.flatMap encR) :: [(b12, 30, ([.slice (some ⟨b8, 0, none⟩) 2 2, .slice (some ⟨b11, 0, none⟩) 2 2] : List Value).flatMap enV), (b11, 27, [ofQ q2, ofQ q4].flatMap encR), (b8, 27, [ofQ q1, ofQ q2].flatMap encR)]) := hS
  have hm2 := ex_mts (hS.drop (List.sublist_cons_self _ _))
  have hb := hS.sle (k := 0) (L := Bw) (n := 2) (cap := 2) rfl encR_len (Nat.le_refl _) (Nat.le_refl _) (by decide)
  refine l_heavy rfl (s_call Tryd.call19 rfl (lSolve_ok _ _ Aw _ Bw 1 _ hm2 hb Aw_RB Bw_RB (by decide)) ?_)
  rintro r w3 ⟨⟨vx, rfl, -⟩, hB3⟩
  rw [slE_Aw]
  replace hS := hS.grow hB3
  replace hm2 := hm2.below hB3
  refine l_pure rfl (s_move  rfl ?_)
  refine l_pure rfl (s_ext  rfl rfl ?_)
  refine l_pure rfl (s_ext  rfl rfl ?_)
  refine l_pure rfl (s_asg  rfl ?_)
  refine l_pure rfl (s_asg  rfl ?_)
  refine l_nil ?_
  repeat (with_reducible first | refine c_seq ?_ | refine c_block ?_ | refine c_skip ?_ | refine x_then ?_ | refine x_block ?_)
  refine c_reg ?_
  refine l_pure rfl (s_move  rfl ?_)
  refine l_heavy rfl (s_call Tryd.call18 rfl (lKernel_ok _ Aw _ 1 _ hm2 Aw_RB (by decide)) ?_)
  rintro r w4 ⟨⟨vk, vks, rfl, hk⟩, hB4⟩
  rw [krL_Aw] at hk
  rw [shp_Aw]
  replace hS := hS.grow hB4
  have hW := hS.below
  clear hm hm2 hb
  replace hS := St.init w4
  have hkl := hk.len
  have hk0 := hk.row 0 (by decide)
  refine l_pure rfl (s_move  rfl ?_)
  refine l_pure rfl (s_ext  rfl rfl ?_)
  refine l_pure rfl (s_ext  rfl rfl ?_)
  refine l_pure rfl (s_asg  rfl ?_)
  refine l_pure rfl (s_asg  rfl ?_)
  refine l_nil ?_
  repeat (with_reducible first | refine c_seq ?_ | refine c_block ?_ | refine c_skip ?_ | refine x_then ?_ | refine x_block ?_)
  refine c_drawM [0, 1, 3, 7, 15, 31, 63, 127, 255, 511, 1023, 2047, 4095, 8191, 16383, 32767, 65535, 131071, 262143, 524287, 1048575, 2097151, 4194303, 8388607, 524287, 33554431, 67108863, 134217727, 268435455, 536870911, 1073741823, 2147483647, 4294967295, 268435455, 17179869183, 34359738367, 68719476735] [(0, .pure), (1, .pure), (2, .pure), (3, .pure), (4, .pure), (5, .pure), (6, .pure), (7, .pure), (8, .pure), (9, .pure), (10, .pure), (11, .pure), (12, .pure), (13, .pure), (14, .read), (15, .pure), (16, .pure), (17, .pure), (18, .pure), (19, .pure), (20, .pure), (21, .read), (22, .pure), (23, .read), (24, .grow), (25, .pure), (26, .pure), (27, .pure), (28, .pure), (29, .pure), (30, .read), (31, .pure), (32, .read), (33, .grow), (34, .pure), (35, .pure), (36, .pure)] (by kernel_rfl) (by kernel_rfl) hS ?_
  intro wz5 hS hBz5
  refine w_pure rfl rfl (s_move  rfl ?_)
  refine w_pure rfl rfl (s_eql  rfl rfl ?_)
  refine w_pure rfl rfl (s_move  rfl ?_)
  refine w_pure rfl (gd_yes 28 (by kernel_rfl) rfl (decide_eq_true rfl)) (s_move  rfl ?_)
  refine w_pure rfl (gd_yes 28 (by kernel_rfl) rfl (decide_eq_true rfl)) (s_eql  rfl rfl ?_)
  refine w_pure rfl rfl (s_pick (vb rfl (decide_eq_true rfl)) rfl ?_)
  refine w_pure rfl rfl (s_move  rfl ?_)
  refine w_pure rfl (gd_yes 32 (by kernel_rfl) rfl (decide_eq_true rfl)) (s_move  rfl ?_)
  refine w_pure rfl (gd_yes 32 (by kernel_rfl) rfl (decide_eq_true rfl)) (s_lenr  rfl (hk.sl.below hS.below) ⟨_, Tryd.underlying24⟩ ?_)
  refine w_pure rfl (gd_yes 32 (by kernel_rfl) rfl (decide_eq_true rfl)) (s_eql  rfl rfl ?_)
  refine w_pure rfl rfl (s_pick (vb rfl (decide_eq_true rfl)) rfl ?_)
  refine w_pure rfl rfl (s_move  rfl ?_)
  refine w_pure rfl (gd_yes 37 (by kernel_rfl) rfl (decide_eq_true (by rw [hkl]; rfl))) (s_move  rfl ?_)
  refine w_pure rfl (gd_yes 37 (by kernel_rfl) rfl (decide_eq_true (by rw [hkl]; rfl))) (s_ixr (i := 0)  rfl rfl (hk.sl.below hS.below) (by omega) (by rw [hkl]; exact Nat.one_pos) si_24 ?_)
  refine w_read rfl (gd_yes 37 (by kernel_rfl) rfl (decide_eq_true (by rw [hkl]; rfl))) (s_lde (i := 0) undef  rfl vi_30 (hk.sl.below hS.below) (by rw [hkl]; exact Nat.one_pos) rfl rfl (.inr rfl) ?_)
  refine w_pure rfl (gd_yes 37 (by kernel_rfl) rfl (decide_eq_true (by rw [hkl]; rfl))) (s_lenr  rfl (hk0.below hS.below) ⟨_, Tryd.underlying30⟩ ?_)
  refine w_pure rfl (gd_yes 37 (by kernel_rfl) rfl (decide_eq_true (by rw [hkl]; rfl))) (s_eql  rfl rfl ?_)
  refine w_pure rfl rfl (s_pick (vb rfl (decide_eq_true (by rw [hkl]; rfl))) rfl ?_)
  refine w_pure rfl rfl (s_move  rfl ?_)
  refine w_pure rfl (gd_yes 44 (by kernel_rfl) rfl (decide_eq_true rfl)) (s_move  rfl ?_)
  refine w_pure rfl (gd_yes 44 (by kernel_rfl) rfl (decide_eq_true rfl)) (s_ixr (i := 0)  rfl rfl (hk.sl.below hS.below) (by omega) (by rw [hkl]; exact Nat.one_pos) si_24 ?_)
  refine w_read rfl (gd_yes 44 (by kernel_rfl) rfl (decide_eq_true rfl)) (s_lde (i := 0) undef  rfl vi_30 (hk.sl.below hS.below) (by rw [hkl]; exact Nat.one_pos) rfl rfl (.inr rfl) ?_)
  refine w_pure rfl (gd_yes 44 (by kernel_rfl) rfl (decide_eq_true rfl)) (s_ixr (i := 0)  rfl rfl (hk0.below hS.below) (by omega) (Nat.le_of_ble_eq_true rfl) si_30 ?_)
  refine w_read rfl (gd_yes 44 (by kernel_rfl) rfl (decide_eq_true rfl)) (s_lde (i := 0) zRR  rfl vi_27 (hk0.below hS.below) (Nat.le_of_ble_eq_true rfl) rfl rfl (.inl rfl) ?_)
  refine w_grow rfl (gd_yes 44 (by kernel_rfl) rfl (decide_eq_true rfl)) (s_call Tryd.call32 rfl (QInt_ok (-2) _ (by decide) (by decide)) ?_)
  rintro r we0 ⟨rfl, hBe0⟩
  refine ⟨hBe0, ?_⟩
  replace hS := hS.grow hBe0
  refine w_pure rfl (gd_yes 44 (by kernel_rfl) rfl (decide_eq_true rfl)) (s_eqR  rfl rfl ?_)
  refine w_pure rfl rfl (s_pick (vb rfl (decide_eq_true rfl)) rfl ?_)
  refine w_pure rfl rfl (s_move  rfl ?_)
  refine w_pure rfl (gd_yes 53 (by kernel_rfl) rfl (decide_eq_true rfl)) (s_move  rfl ?_)
  refine w_pure rfl (gd_yes 53 (by kernel_rfl) rfl (decide_eq_true rfl)) (s_ixr (i := 0)  rfl rfl (hk.sl.below hS.below) (by omega) (by rw [hkl]; exact Nat.one_pos) si_24 ?_)
  refine w_read rfl (gd_yes 53 (by kernel_rfl) rfl (decide_eq_true rfl)) (s_lde (i := 0) undef  rfl vi_30 (hk.sl.below hS.below) (by rw [hkl]; exact Nat.one_pos) rfl rfl (.inr rfl) ?_)
  refine w_pure rfl (gd_yes 53 (by kernel_rfl) rfl (decide_eq_true rfl)) (s_ixr (i := 1)  rfl rfl (hk0.below hS.below) (by omega) (Nat.le_of_ble_eq_true rfl) si_30 ?_)
  refine w_read rfl (gd_yes 53 (by kernel_rfl) rfl (decide_eq_true rfl)) (s_lde (i := 1) zRR  rfl vi_27 (hk0.below hS.below) (Nat.le_of_ble_eq_true rfl) rfl rfl (.inl rfl) ?_)
  refine w_grow rfl (gd_yes 53 (by kernel_rfl) rfl (decide_eq_true rfl)) (s_call Tryd.call32 rfl (QInt_ok 1 _ (by decide) (by decide)) ?_)
  rintro r we1 ⟨rfl, hBe1⟩
  refine ⟨hBe1, ?_⟩
  replace hS := hS.grow hBe1
  refine w_pure rfl (gd_yes 53 (by kernel_rfl) rfl (decide_eq_true rfl)) (s_eqR  rfl rfl ?_)
  refine w_pure rfl rfl (s_pick (vb rfl (decide_eq_true rfl)) rfl ?_)
  refine w_pure rfl rfl (s_asg  rfl ?_)
  refine w_end ?_
  repeat (with_reducible first | refine c_seq ?_ | refine c_block ?_ | refine c_skip ?_ | refine x_then ?_ | refine x_block ?_)
  refine c_ret ?_
  repeat (with_reducible first | refine x_then_ret ?_ | refine x_block_ret ?_)
  refine r_one rfl rfl ?_
  exact ⟨vb rfl (decide_eq_true rfl), hW.trans (hS.below.mono hW.size)⟩
end Go.Proofs.YtblfipdfklpmmaaDoor
namespace Go.Proofs.YtblfipdfklpmmaaDoor
open Go Go.RowKit Go.Sx
def sgQ (x : Nat) : Rat := if x % 2 = 1 then - amtQ (x / 2) else amtQ (x / 2)
theorem L_sgQ (x : Nat) : L (sgQ x) ≤ 1 := by
  unfold sgQ
  split
  · rw [L_neg]; exact L_amtQ _
  · exact L_amtQ _
def matQ (l : List Nat) (cols : Nat) : Mx := fun i j => if i * cols + j < l.length then sgQ (l.getD (i * cols + j) 0) else 0
theorem L_matQ (l : List Nat) (cols i j : Nat) : L (matQ l cols i j) ≤ 1 := by
  unfold matQ
  split
  · exact L_sgQ _
  · rw [L_zero]; exact Nat.le_refl _
theorem Signed_ok (x : Nat) (w : World) (hx : x < 65536) :
    Ret Tryd.prog 8 #[.int .u16 x] w fun v w' => v = aggR (ofQ (sgQ x)) ∧ Below w.heap.size w w' := by
  have hS := St.init w
  refine enter Tryd.func8 rfl Tryd.ntmps8 rfl ?_
  repeat (with_reducible first | refine c_seq ?_ | refine c_block ?_ | refine c_skip ?_ | refine x_then ?_ | refine x_block ?_)
  refine c_reg ?_
  refine l_heavy rfl (s_alloc  vi_27 hS ?_)
  intro b2 wz1 hS hBz1
  refine l_nil ?_
  repeat (with_reducible first | refine c_seq ?_ | refine c_block ?_ | refine c_skip ?_ | refine x_then ?_ | refine x_block ?_)
  refine c_reg ?_
  refine l_pure rfl (s_move  rfl ?_)
  refine l_pure rfl (s_quo  rfl rfl (by omega) (quo_u16 x 2 hx) ?_)
  refine l_heavy rfl (s_call Tryd.call22 rfl (Amount_ok (x / 2) _ (by omega)) ?_)
  rintro _ wc2 ⟨rfl, hBc2⟩
  replace hS := hS.grow hBc2
  refine l_heavy rfl (s_alloc  vi_27 hS ?_)
  intro b3 wz3 hS hBz3
  refine l_heavy rfl (s_sta (k := 0)  rfl rfl vi_27 hS rfl rfl rfl (Nat.le_of_ble_eq_true rfl) rfl ?_)
  intro wz4 hS
  refine l_nil ?_
  repeat (with_reducible first | refine c_seq ?_ | refine c_block ?_ | refine c_skip ?_ | refine x_then ?_ | refine x_block ?_)
  refine c_reg ?_
  refine l_pure rfl (s_move  rfl ?_)
  refine l_pure rfl (s_rem  rfl rfl (by omega) (Int.tmod_eq_emod_of_nonneg (by omega)) ?_)
  refine l_pure rfl (s_eql  rfl rfl ?_)
  refine l_nil ?_
  repeat (with_reducible first | refine c_seq ?_ | refine c_block ?_ | refine c_skip ?_ | refine x_then ?_ | refine x_block ?_)
  by_cases h : x % 2 = 1
  · have e : sgQ x = - amtQ (x / 2) := if_pos h
    rw [e]
    refine c_yes rfl (decide_eq_true (by omega)) ?_
    repeat (with_reducible first | refine c_seq ?_ | refine c_block ?_ | refine c_skip ?_ | refine x_then ?_ | refine x_block ?_)
    refine c_reg ?_
    refine l_read rfl (s_ldo (k := 0)  rfl vi_27 hS rfl rfl rfl (.inl rfl) ?_)
    refine l_heavy rfl (s_call Tryd.call23 rfl (rOpposite_ok (amtQ (x / 2)) _) ?_)
    rintro _ wc5 ⟨rfl, hBc5⟩
    replace hS := hS.grow hBc5
    refine l_heavy rfl (s_sta (k := 1)  rfl rfl vi_27 hS rfl rfl rfl (Nat.le_of_ble_eq_true rfl) rfl ?_)
    intro wz6 hS
    refine l_nil ?_
    repeat (with_reducible first | refine c_seq ?_ | refine c_block ?_ | refine c_skip ?_ | refine x_then ?_ | refine x_block ?_)
    refine c_ret ?_
    repeat (with_reducible first | refine x_then_ret ?_ | refine x_block_ret ?_)
    refine r_cell (k := 1) rfl rfl vi_27 hS rfl rfl ?_
    exact ⟨rfl, hS.below⟩
  · have e : sgQ x = amtQ (x / 2) := if_neg h
    rw [e]
    refine c_no rfl (decide_eq_false (by omega)) ?_
    repeat (with_reducible first | refine c_seq ?_ | refine c_block ?_ | refine c_skip ?_ | refine x_then ?_ | refine x_block ?_)
    refine c_reg ?_
    refine l_read rfl (s_ldo (k := 0)  rfl vi_27 hS rfl rfl rfl (.inl rfl) ?_)
    refine l_heavy rfl (s_sta (k := 1)  rfl rfl vi_27 hS rfl rfl rfl (Nat.le_of_ble_eq_true rfl) rfl ?_)
    intro wz7 hS
    refine l_nil ?_
    repeat (with_reducible first | refine c_seq ?_ | refine c_block ?_ | refine c_skip ?_ | refine x_then ?_ | refine x_block ?_)
    refine c_ret ?_
    repeat (with_reducible first | refine x_then_ret ?_ | refine x_block_ret ?_)
    refine r_cell (k := 1) rfl rfl vi_27 hS rfl rfl ?_
    exact ⟨rfl, hS.below⟩
set_option maxHeartbeats 4000000 in
theorem Matrix_ok (n m : Nat) (vl : Value) (l : List Nat) (w : World) (hl : Sl (uk .u16) 1 w vl l) (hlb : ∀ x ∈ l, x < 65536) (hn1 : 1 ≤ n) (hn : n ≤ 16) (hm1 : 1 ≤ m) (hm : m ≤ 16) :
    Ret Tryd.prog 7 #[.int .i64 n, .int .i64 m, vl] w fun r w' => (∃ bo cap so R, r = .slice (some ⟨bo, 0, none⟩) n cap ∧ n ≤ cap ∧ cap ≤ 9223372036854775807 ∧ MatG R n m (qM (matQ l m)) ∧ St w w' (mD encR 27 30 bo (R.map Rw.v ++ so) R [])) ∧ Below w.heap.size w w' := by
  have hmx := hl.maxLen
  have hS := St.init w
  have hkm : ∀ i j, i < n → j ≤ m → i * m + j ≤ 16 * 16 + 16 := fun i j hi hj => by
    have := Nat.mul_le_mul (show i ≤ 16 by omega) hm
    omega
  refine enter Tryd.func7 rfl Tryd.ntmps7 rfl ?_
  repeat (with_reducible first | refine c_seq ?_ | refine c_block ?_ | refine c_skip ?_ | refine x_then ?_ | refine x_block ?_)
  refine c_reg ?_
  refine l_pure rfl (s_asg  rfl ?_)
  refine l_nil ?_
  repeat (with_reducible first | refine c_seq ?_ | refine c_block ?_ | refine c_skip ?_ | refine x_then ?_ | refine x_block ?_)
  refine c_reg ?_
  refine l_pure rfl (s_asg  rfl ?_)
  refine l_nil ?_
  repeat (with_reducible first | refine c_seq ?_ | refine c_block ?_ | refine c_skip ?_ | refine x_then ?_ | refine x_block ?_)
  refine c_reg ?_
  refine l_pure rfl (s_asg  rfl ?_)
  refine l_nil ?_
  repeat (with_reducible first | refine c_seq ?_ | refine c_block ?_ | refine c_skip ?_ | refine x_then ?_ | refine x_block ?_)
  refine c_reg ?_
  refine l_pure rfl (s_asg  rfl ?_)
  refine l_nil ?_
  repeat (with_reducible first | refine c_seq ?_ | refine c_block ?_ | refine c_skip ?_ | refine x_then ?_ | refine x_block ?_)
  refine c_loop (σ := Nat) (fun i ρ w' => i ≤ n ∧ ρ 0 = .int .i64 n ∧ ρ 1 = .int .i64 m ∧ ρ 2 = vl ∧ ρ 8 = .int .i64 (i * m : Nat) ∧ ρ 9 = .int .i64 i ∧ ∃ vo LO R, ρ 7 = vo ∧ MatG R i m (qM (matQ l m)) ∧ Gl enV 30 1 vo (R.map Rw.v) LO ∧ St w w' (R.map (Rw.blk encR 27) ++ LO)) (fun i => n - i) 0
    ⟨Nat.zero_le _, rfl, rfl, rfl, vi rfl (by omega), rfl, _, [], [], rfl, ⟨rfl, fun i hi => absurd hi (Nat.not_lt_zero _), fun i hi => absurd hi (Nat.not_lt_zero _)⟩, Gl.nil _ _ _, hS⟩ ?_
  clear hS
  rintro i ρ w2 ⟨hi, h0, h1, h2, h8, h9, vo, LO, R, h7, hR, hG, hS⟩
  have hvl : (R.map Rw.v).length = i := by rw [List.length_map, hR.len]
  repeat (with_reducible first | refine c_seq ?_ | refine c_block ?_ | refine c_skip ?_ | refine x_then ?_ | refine x_block ?_)
  refine c_reg ?_
  refine l_pure rfl (s_move  h9 ?_)
  refine l_pure rfl (s_move  h0 ?_)
  refine l_pure rfl (s_lss  rfl rfl ?_)
  refine l_nil ?_
  repeat (with_reducible first | refine c_seq ?_ | refine c_block ?_ | refine c_skip ?_ | refine x_then ?_ | refine x_block ?_)
  by_cases hlt : i < n
  · refine c_yes rfl (decide_eq_true (by omega)) ?_
    repeat (with_reducible first | refine c_seq ?_ | refine c_block ?_ | refine c_skip ?_ | refine x_then ?_ | refine x_block ?_)
    have hsm : (i + 1) * m = i * m + m := Nat.succ_mul i m
    repeat (with_reducible first | refine c_seq ?_ | refine c_block ?_ | refine c_skip ?_ | refine x_then ?_ | refine x_block ?_)
    refine c_reg ?_
    refine l_pure rfl (s_asg  rfl ?_)
    refine l_nil ?_
    repeat (with_reducible first | refine c_seq ?_ | refine c_block ?_ | refine c_skip ?_ | refine x_then ?_ | refine x_block ?_)
    refine c_reg ?_
    refine l_pure rfl (s_asg  rfl ?_)
    refine l_nil ?_
    repeat (with_reducible first | refine c_seq ?_ | refine c_skip ?_ | refine x_then ?_ | refine x_block ?_)
    refine c_cut1 (fun ρ w' => ρ 0 = .int .i64 n ∧ ρ 1 = .int .i64 m ∧ ρ 2 = vl ∧ ρ 7 = vo ∧ ρ 8 = .int .i64 ((i + 1) * m : Nat) ∧ ρ 9 = .int .i64 i ∧ ∃ sr Lr, ρ 10 = sr ∧ Gl encR 27 3 sr (tab m (qM (matQ l m) i)) Lr ∧ St w w' ((R.map (Rw.blk encR 27) ++ LO) ++ Lr)) ?_ ?_
    · repeat (with_reducible first | refine c_seq ?_ | refine c_block ?_ | refine c_skip ?_ | refine x_then ?_ | refine x_block ?_)
      refine c_loop (σ := Nat) (fun j ρ w' => j ≤ m ∧ ρ 0 = .int .i64 n ∧ ρ 1 = .int .i64 m ∧ ρ 2 = vl ∧ ρ 7 = vo ∧ ρ 8 = .int .i64 (i * m + j : Nat) ∧ ρ 9 = .int .i64 i ∧ ρ 11 = .int .i64 j ∧ ∃ sr Lr, ρ 10 = sr ∧ Gl encR 27 3 sr (tab j (qM (matQ l m) i)) Lr ∧ St w w' ((R.map (Rw.blk encR 27) ++ LO) ++ Lr)) (fun j => m - j) 0
        ⟨Nat.zero_le _, by assumption, by assumption, by assumption, by assumption, by assumption, by assumption, rfl, _, [], rfl, Gl.nil _ _ _, by rw [List.append_nil]; exact hS⟩ ?_
      clear hS
      rintro j ρ w3 ⟨hj, h0, h1, h2, h7, h8, h9, h11, sr, Lr, h10, hGr, hS⟩
      have htl := tab_len j (qM (matQ l m) i)
      have hkj := hkm i j hlt hj
      repeat (with_reducible first | refine c_seq ?_ | refine c_block ?_ | refine c_skip ?_ | refine x_then ?_ | refine x_block ?_)
      refine c_reg ?_
      refine l_pure rfl (s_move  h11 ?_)
      refine l_pure rfl (s_move  h1 ?_)
      refine l_pure rfl (s_lss  rfl rfl ?_)
      refine l_nil ?_
      repeat (with_reducible first | refine c_seq ?_ | refine c_block ?_ | refine c_skip ?_ | refine x_then ?_ | refine x_block ?_)
      by_cases hjl : j < m
      · refine c_yes rfl (decide_eq_true (by omega)) ?_
        repeat (with_reducible first | refine c_seq ?_ | refine c_block ?_ | refine c_skip ?_ | refine x_then ?_ | refine x_block ?_)
        refine c_reg ?_
        refine l_pure rfl (s_build  rfl bz_27 ?_)
        refine l_heavy rfl (s_alloc  vi_27 hS ?_)
        intro b12 wz1 hS hBz1
        refine l_heavy rfl (s_sta (k := 0)  rfl rfl vi_27 hS rfl rfl rfl (Nat.le_of_ble_eq_true rfl) rfl ?_)
        intro wz2 hS
        refine l_nil ?_
        repeat (with_reducible first | refine c_seq ?_ | refine c_block ?_ | refine c_skip ?_ | refine x_then ?_ | refine x_block ?_)
        replace hS : St w _ ((b12, 27, encR zRR) :: ((R.map (Rw.blk encR 27) ++ LO) ++ Lr)) := hS
        rw [encR_zero] at hS
        repeat (with_reducible first | refine c_seq ?_ | refine c_block ?_ | refine c_skip ?_ | refine x_then ?_ | refine x_block ?_)
        refine c_reg ?_
        refine l_pure rfl (s_move  h8 ?_)
        refine l_pure rfl (s_move  h2 ?_)
        refine l_pure rfl (s_lenr  rfl (hl.below hS.below) ⟨_, Tryd.underlying22⟩ ?_)
        refine l_pure rfl (s_lss  rfl rfl ?_)
        refine l_nil ?_
        repeat (with_reducible first | refine c_seq ?_ | refine c_block ?_ | refine c_skip ?_ | refine x_then ?_ | refine x_block ?_)
        refine c_cut1 (fun ρ w' => ρ 0 = .int .i64 n ∧ ρ 1 = .int .i64 m ∧ ρ 2 = vl ∧ ρ 7 = vo ∧ ρ 8 = .int .i64 (i * m + j : Nat) ∧ ρ 9 = .int .i64 i ∧ ρ 10 = sr ∧ ρ 11 = .int .i64 j ∧ ρ 12 = .pointer (some ⟨b12, 0, none⟩) ∧ St w w' (((b12, 27, encR (ofQ (matQ l m i j))) :: (R.map (Rw.blk encR 27) ++ LO)) ++ Lr)) ?_ ?_
        · by_cases hk : i * m + j < l.length
          · have e : matQ l m i j = sgQ (l.getD (i * m + j) 0) := if_pos hk
            rw [e]
            refine c_yes rfl (decide_eq_true (by omega)) ?_
            repeat (with_reducible first | refine c_seq ?_ | refine c_block ?_ | refine c_skip ?_ | refine x_then ?_ | refine x_block ?_)
            refine c_reg ?_
            refine l_pure rfl (s_move  h2 ?_)
            refine l_pure rfl (s_move  h8 ?_)
            refine l_pure rfl (s_ixr (i := (i * m + j))  rfl rfl (hl.below hS.below) (by omega) (by first | omega | (simp; done) | (simp; omega)) si_22 ?_)
            refine l_read rfl (s_lde (i := (i * m + j)) 0  rfl vi_23 (hl.below hS.below) (by first | omega | (simp; done) | (simp; omega)) rfl rfl (.inr rfl) ?_)
            refine l_heavy rfl (s_call Tryd.call8 rfl (Signed_ok (l.getD (i * m + j) 0) _ (hlb _ (getD_mem l _ 0 hk))) ?_)
            rintro _ wc3 ⟨rfl, hBc3⟩
            replace hS := hS.grow hBc3
            refine l_heavy rfl (s_sta (k := 0)  rfl rfl vi_27 hS rfl rfl rfl (Nat.le_of_ble_eq_true rfl) rfl ?_)
            intro wz4 hS
            refine l_nil ?_
            repeat (with_reducible first | refine c_seq ?_ | refine c_block ?_ | refine c_skip ?_ | refine x_then ?_ | refine x_block ?_)
            exact ⟨_, rfl, by assumption, by assumption, by assumption, by assumption, by assumption, by assumption, by assumption, by assumption, rfl, hS⟩
          · have e : matQ l m i j = 0 := if_neg hk
            rw [e]
            refine c_no rfl (decide_eq_false (by omega)) ?_
            repeat (with_reducible first | refine c_seq ?_ | refine c_block ?_ | refine c_skip ?_ | refine x_then ?_ | refine x_block ?_)
            exact ⟨_, rfl, by assumption, by assumption, by assumption, by assumption, by assumption, by assumption, by assumption, by assumption, rfl, hS⟩
        clear hS
        rintro ρ w4 ⟨h0, h1, h2, h7, h8, h9, h10, h11, h12, hS⟩
        repeat (with_reducible first | refine c_seq ?_ | refine c_block ?_ | refine c_skip ?_ | refine x_then ?_ | refine x_block ?_)
        refine c_reg ?_
        refine l_pure rfl (s_move  h8 ?_)
        refine l_pure rfl (s_add  rfl rfl (IntWalk.i64_in _ (by omega)) ?_)
        refine l_pure rfl (s_asg  rfl ?_)
        refine l_nil ?_
        repeat (with_reducible first | refine c_seq ?_ | refine c_block ?_ | refine c_skip ?_ | refine x_then ?_ | refine x_block ?_)
        refine c_reg ?_
        refine l_pure rfl (s_move  h10 ?_)
        refine l_read rfl (s_ldo (k := 0)  h12 vi_27 hS rfl rfl rfl (.inl rfl) ?_)
        refine l_heavy rfl (s_bsl (vs := [aggR (ofQ (matQ l m i j))])  rfl si_30 rfl (by decide) (by decide) (by decide) (by simp [Value.cells, aggR]) rfl hS ?_)
        intro b37 wz5 hS hBz5
        refine l_heavy rfl (s_appl [ofQ (matQ l m i j)]  rfl rfl si_30 (by decide) hGr hS rfl rfl encR_len (encR_one [ofQ (matQ l m i j)]) (by first | omega | (simp only [List.length_cons, List.length_nil]; omega)) (by first | omega | (simp only [List.length_cons, List.length_nil]; omega)) ?_)
        intro va6 La6 wa6 hGr hS hga6
        refine l_pure rfl (s_asg  rfl ?_)
        refine l_nil ?_
        repeat (with_reducible first | refine c_seq ?_ | refine c_block ?_ | refine c_skip ?_ | refine x_then ?_ | refine x_block ?_)
        rw [← tab_succ (f := qM (matQ l m) i)] at hGr
        replace hS := hS.drop (List.sublist_cons_self _ _)
        repeat (with_reducible first | refine c_seq ?_ | refine c_block ?_ | refine c_skip ?_ | refine x_then ?_ | refine x_block ?_)
        refine c_reg ?_
        refine l_pure rfl (s_move  h11 ?_)
        refine l_pure rfl (s_add  rfl rfl (IntWalk.i64_in _ (by omega)) ?_)
        refine l_pure rfl (s_asg  rfl ?_)
        refine l_nil ?_
        repeat (with_reducible first | refine c_seq ?_ | refine c_block ?_ | refine c_skip ?_ | refine x_then ?_ | refine x_block ?_)
        exact ⟨j + 1, _, rfl, ⟨hjl, by assumption, by assumption, by assumption, by assumption, vi rfl (by omega), by assumption, vi rfl (by omega), _, _, rfl, hGr, hS⟩, by omega⟩
      · refine c_no rfl (decide_eq_false (by omega)) ?_
        repeat (with_reducible first | refine c_seq ?_ | refine c_block ?_ | refine c_skip ?_ | refine x_then ?_ | refine x_block ?_)
        refine c_exit ?_
        repeat (with_reducible first | refine x_then_exit ?_ | refine x_block_exit ?_ | refine x_block_pass rfl ?_)
        repeat (with_reducible first | refine c_seq ?_ | refine c_block ?_ | refine c_skip ?_ | refine x_then ?_ | refine x_block ?_)
        obtain rfl : m = j := by omega
        exact ⟨_, rfl, h0, h1, h2, h7, vi h8 (by rw [hsm]), h9, _, Lr, h10, hGr, hS⟩
    clear hS
    rintro ρ w3 ⟨h0, h1, h2, h7, h8, h9, sr, Lr, h10, hGr, hS⟩
    obtain ⟨nr, hX, rfl, rfl, hc1, hc2, _⟩ := Gl_blk hGr (by intro e; have := congrArg List.length e; rw [tab_len] at this; simp at this; omega)
    replace hS := hS.perm (perm_row (R.map (Rw.blk encR 27)) LO (nr.blk encR 27))
    have hR2 := MatG_snoc hR hX ⟨by rw [hX, tab_len] at hc1; exact hc1, hc2⟩
    repeat (with_reducible first | refine c_seq ?_ | refine c_block ?_ | refine c_skip ?_ | refine x_then ?_ | refine x_block ?_)
    refine c_reg ?_
    refine l_pure rfl (s_move  h7 ?_)
    refine l_pure rfl (s_move  h10 ?_)
    refine l_heavy rfl (s_bsl (vs := [nr.v])  rfl si_24 rfl (by decide) (by decide) (by decide) (by simp [Value.cells, Rw.v]) rfl hS ?_)
    intro b41 wz7 hS hBz7
    refine l_heavy rfl (s_appl [nr.v]  rfl rfl si_24 (by decide) hG hS rfl rfl (fun _ => rfl) (fun u hu => by rw [List.mem_singleton.1 (show u ∈ [nr.v] from hu)]; rfl) (by first | omega | (simp only [List.length_cons, List.length_nil]; omega)) (by first | omega | (simp only [List.length_cons, List.length_nil]; omega)) ?_)
    intro va8 La8 wa8 hG hS hga8
    refine l_pure rfl (s_asg  rfl ?_)
    refine l_nil ?_
    repeat (with_reducible first | refine c_seq ?_ | refine c_block ?_ | refine c_skip ?_ | refine x_then ?_ | refine x_block ?_)
    rw [show R.map Rw.v ++ [nr.v] = (R ++ [nr]).map Rw.v by rw [List.map_append]; rfl] at hG
    have eb : ∀ T : List Blk, (nr.blk encR 27 :: R.map (Rw.blk encR 27) ++ T).Perm ((R ++ [nr]).map (Rw.blk encR 27) ++ T) := by
      intro T
      rw [List.map_append]
      exact List.Perm.append_right _ (List.perm_append_singleton _ _).symm
    replace hS := hS.perm (eb _)
    repeat (with_reducible first | refine c_seq ?_ | refine c_block ?_ | refine c_skip ?_ | refine x_then ?_ | refine x_block ?_)
    refine c_reg ?_
    refine l_pure rfl (s_move  h9 ?_)
    refine l_pure rfl (s_add  rfl rfl (IntWalk.i64_in _ (by omega)) ?_)
    refine l_pure rfl (s_asg  rfl ?_)
    refine l_nil ?_
    repeat (with_reducible first | refine c_seq ?_ | refine c_block ?_ | refine c_skip ?_ | refine x_then ?_ | refine x_block ?_)
    exact ⟨i + 1, _, rfl, ⟨hlt, by assumption, by assumption, by assumption, by assumption, vi rfl (by omega), _, _, R ++ [nr], rfl, hR2, hG, hS⟩, by omega⟩
  · refine c_no rfl (decide_eq_false (by omega)) ?_
    repeat (with_reducible first | refine c_seq ?_ | refine c_block ?_ | refine c_skip ?_ | refine x_then ?_ | refine x_block ?_)
    refine c_exit ?_
    repeat (with_reducible first | refine x_then_exit ?_ | refine x_block_exit ?_ | refine x_block_pass rfl ?_)
    repeat (with_reducible first | refine c_seq ?_ | refine c_block ?_ | refine c_skip ?_ | refine x_then ?_ | refine x_block ?_)
    obtain rfl : n = i := by omega
    obtain ⟨_, ⟨_, h2, _⟩ | ⟨bo, cap, so, rfl, rfl, h5, h6, _⟩⟩ := hG
    · omega
    · rw [enV_flat] at hS
      rw [hvl] at h7 h5
      repeat (with_reducible first | refine c_seq ?_ | refine c_block ?_ | refine c_skip ?_ | refine x_then ?_ | refine x_block ?_)
      refine c_reg ?_
      refine l_pure rfl (s_move  h7 ?_)
      refine l_pure rfl (s_asg  rfl ?_)
      refine l_nil ?_
      repeat (with_reducible first | refine c_seq ?_ | refine c_block ?_ | refine c_skip ?_ | refine x_then ?_ | refine x_block ?_)
      refine c_ret ?_
      repeat (with_reducible first | refine x_then_ret ?_ | refine x_block_ret ?_)
      refine r_one rfl rfl ?_
      refine ⟨⟨bo, cap, so, R, rfl, h5, by unfold Go.maxLen at h6; omega, hR, hS.perm ?_⟩, hS.below⟩
      unfold mD
      rw [List.append_nil]
      exact List.perm_append_singleton _ _
end Go.Proofs.YtblfipdfklpmmaaDoor
namespace Go.Proofs.YtblfipdfklpmmaaDoor
open Go Go.RowKit Go.Sx
def mkA (n m : Nat) (M : Mx) : List (List RR) := tabM n m (qM M)
theorem mkA_len (n m : Nat) (M : Mx) : (mkA n m M).length = n := tabM_len _ _ _
theorem mkA_row {n m : Nat} (M : Mx) {i : Nat} (hi : i < n) : (mkA n m M).getD i [] = tab m (qM M i) := tabM_row _ hi
theorem mkA_cols {n m : Nat} (M : Mx) (hn : 1 ≤ n) : colsA (mkA n m M) = m := by unfold colsA; rw [mkA_row M (by omega), tab_len]
theorem mkA_RM {n m : Nat} (M : Mx) {i j : Nat} (hi : i < n) (hj : j < m) : RM (mkA n m M) i j = M i j := by
  unfold RM
  rw [mkA_row M hi, tab_get _ _ hj]
  exact toQ_ofQ _
theorem mkA_even {n m : Nat} (M : Mx) (hn : 1 ≤ n) : evenA (mkA n m M) = true := List.all_eq_true.2 fun r hr => by
  obtain ⟨i, hi, rfl⟩ := tab_mem (show r ∈ tab n fun i => tab m (qM M i) from hr)
  rw [mkA_cols M hn, tab_len]
  exact decide_eq_true rfl
theorem mkA_shp {n m : Nat} (M : Mx) (hn : 1 ≤ n) (hn2 : n ≤ 16) (hm : 1 ≤ m) (hm2 : m ≤ 16) : shpE (mkA n m M) = 0 := by
  unfold shpE
  rw [mkA_len, mkA_cols M hn, if_neg (by omega), mkA_even M hn, if_neg (by decide), if_neg (by omega)]
theorem mkA_RB {n m K : Nat} {M : Mx} (h : ∀ i, i < n → ∀ j, j < m → L (M i j) ≤ K) : RBM K (mkA n m M) := fun a ha r hr => by
  obtain ⟨i, hi, rfl⟩ := tab_mem (show a ∈ tab n fun i => tab m (qM M i) from ha)
  obtain ⟨j, hj, rfl⟩ := tab_mem hr
  rw [Lr_ofQ]; exact h i hi j hj
theorem matA_RB (n m : Nat) (l : List Nat) (c : Nat) : RBM 1 (mkA n m (matQ l c)) := mkA_RB fun i _ j _ => L_matQ l c i j
section
variable {n : Nat} {M : Mx} {b : Nat → Rat}
end
theorem MatG_mkA {R : List (Rw RR)} {n m cap bo : Nat} {M : Mx} {so : List Value} {w0 w : World} {tR tS : TypeId} {H : List Blk} (h : MatG R n m (qM M)) (hS : St w0 w (mD encR tR tS bo (R.map Rw.v ++ so) R H)) (h1 : n ≤ cap) (h2 : cap ≤ 9223372036854775807) :
    Mts encR 3 w (.slice (some ⟨bo, 0, none⟩) n cap) (mkA n m M) (R.map Rw.v) := h.mtsD [] hS encR_len h1 h2
end Go.Proofs.YtblfipdfklpmmaaDoor
namespace Go.Proofs.YtblfipdfklpmmaaDoor
open Go Go.RowKit Go.Sx
theorem mkA_krL {n m : Nat} (M : Mx) (hn : 1 ≤ n) (hn2 : n ≤ 16) (hm : 1 ≤ m) (hm2 : m ≤ 16) : krL (mkA n m M) = (frL (rdc n (RM (mkA n m M)) m).P m).map (krRow (rdc n (RM (mkA n m M)) m).M (rdc n (RM (mkA n m M)) m).P m) := by
  unfold krL rdA
  rw [if_pos (mkA_shp M hn hn2 hm hm2), mkA_len, mkA_cols M hn]
theorem mkA_krlen {n m : Nat} (M : Mx) (hn : 1 ≤ n) (hn2 : n ≤ 16) (hm : 1 ≤ m) (hm2 : m ≤ 16) : (rdP (mkA n m M)).length + (krL (mkA n m M)).length = m := by
  have hI := rinv n (RM (mkA n m M)) m
  rw [mkA_krL M hn hn2 hm hm2, List.length_map]
  unfold rdP rdA
  rw [if_pos (mkA_shp M hn hn2 hm hm2), mkA_len, mkA_cols M hn, Nat.add_comm]
  exact free_count hI.inc hI.lt
theorem mkA_null {n m : Nat} (M : Mx) (hn : 1 ≤ n) (hn2 : n ≤ 16) (hm : 1 ≤ m) (hm2 : m ≤ 16) {X : List RR} (hX : X ∈ krL (mkA n m M)) : apE (mkA n m M) X = 0 ∧ apL (mkA n m M) X = tab n fun _ => ofQ 0 := by
  have hs := mkA_shp M hn hn2 hm hm2
  rw [mkA_krL M hn hn2 hm hm2] at hX
  obtain ⟨f, hf, rfl⟩ := List.mem_map.1 hX
  obtain ⟨hf1, hf2⟩ := List.mem_filter.1 hf
  have hfm := List.mem_range.1 hf1
  have hfP : f ∉ (rdc n (RM (mkA n m M)) m).P := by simpa using hf2
  have hk := (ker_rdc n m (RM (mkA n m M)) _ m).1 (ker_kv (rinv n (RM (mkA n m M)) m) hfP hfm)
  have hl : (krRow (rdc n (RM (mkA n m M)) m).M (rdc n (RM (mkA n m M)) m).P m f).length = m := tab_len _ _
  have hap : apE (mkA n m M) (krRow (rdc n (RM (mkA n m M)) m).M (rdc n (RM (mkA n m M)) m).P m f) = 0 := by
    unfold apE
    rw [hs, if_neg (by decide), hl, mkA_cols M hn, if_neg (by omega)]
  refine ⟨hap, ?_⟩
  unfold apL
  rw [if_pos hap, mkA_len, mkA_cols M hn]
  refine tab_congr fun i hi => ?_
  congr 1
  rw [← hk i hi]
  refine sumF_congr fun j hj => ?_
  congr 1
  unfold VX krRow
  rw [tab_get _ _ hj]
  exact toQ_ofQ _
theorem mkA_krB {n m : Nat} {M : Mx} (hn : 1 ≤ n) (hn4 : n ≤ 5) (hm : 1 ≤ m) (hm2 : m ≤ 16) (hM : ∀ i, i < n → ∀ j, j < m → L (M i j) ≤ 1) {X : List RR} (hX : X ∈ krL (mkA n m M)) : RB 2048 X := by
  rw [mkA_krL M hn (by omega) hm hm2] at hX
  obtain ⟨f, hf, rfl⟩ := List.mem_map.1 hX
  have hfm := List.mem_range.1 (List.mem_filter.1 hf).1
  intro r hr
  obtain ⟨j, hj, rfl⟩ := tab_mem hr
  rw [Lr_ofQ]
  have hI := rinv n (RM (mkA n m M)) m
  unfold kv
  split
  · exact Nat.le_trans (show L 1 ≤ 1 by decide +kernel) (by decide)
  · split
    · next h =>
      rw [L_neg]
      have hi := List.idxOf_lt_length_of_mem h
      have hp := hI.len
      have h := (rdc_L (n := n) (m := m) (M := RM (mkA n m M)) (K := 1) (fun i hi j hj => by rw [mkA_RM M hi hj]; exact hM i hi j hj) m (Nat.le_refl _)).1 (List.idxOf j (rdc n (RM (mkA n m M)) m).P) (by omega) f hfm
      have hmm := BB_mono 1 (r := (rdc n (RM (mkA n m M)) m).P.length) (s := 5) (by omega)
      have h5 : BB 1 5 = 2048 := by decide
      omega
    · rw [L_zero]; decide
set_option maxHeartbeats 1000000 in
theorem LinearNull_ok (x y : Nat) (vl : Value) (l : List Nat) (w : World) (hl : Sl (uk .u16) 1 w vl l) (hlb : ∀ x ∈ l, x < 65536) :
    Ret Tryd.prog 6 #[.int .u8 x, .int .u8 y, vl] w fun v w' => v = .bool true ∧ Below w.heap.size w w' := by
  have hM : MX = 1099511627776 := rfl
  obtain ⟨n, hn⟩ : ∃ n, n = 1 + x % 4 := ⟨_, rfl⟩
  obtain ⟨m, hmd⟩ : ∃ m, m = 1 + y % 5 := ⟨_, rfl⟩
  have hn1 : 1 ≤ n := by omega
  have hn4 : n ≤ 4 := by omega
  have hm1 : 1 ≤ m := by omega
  have hm5 : m ≤ 5 := by omega
  have hS := St.init w
  refine enter Tryd.func6 rfl Tryd.ntmps6 rfl ?_
  repeat (with_reducible first | refine c_seq ?_ | refine c_block ?_ | refine c_skip ?_ | refine x_then ?_ | refine x_block ?_)
  refine c_reg ?_
  refine l_pure rfl (s_asg  rfl ?_)
  refine l_nil ?_
  repeat (with_reducible first | refine c_seq ?_ | refine c_block ?_ | refine c_skip ?_ | refine x_then ?_ | refine x_block ?_)
  refine c_reg ?_
  refine l_pure rfl (s_move  rfl ?_)
  refine l_pure rfl (s_rem  rfl rfl (by omega) (r := ((x % 4 : Nat) : Int)) (by exact rem_nat x 4) ?_)
  refine l_pure rfl (s_conv  rfl Tryd.underlying3 ⟨_, Tryd.underlying5⟩ (IntWalk.i64_in _ (by omega)) ?_)
  refine l_pure rfl (s_add  rfl rfl (r := (n : Int)) (by rw [hn]; exact wr_i64 _ ⟨rfl, by omega, by omega⟩) ?_)
  refine l_pure rfl (s_move  rfl ?_)
  refine l_pure rfl (s_rem  rfl rfl (by omega) (r := ((y % 5 : Nat) : Int)) (by exact rem_nat y 5) ?_)
  refine l_pure rfl (s_conv  rfl Tryd.underlying3 ⟨_, Tryd.underlying5⟩ (IntWalk.i64_in _ (by omega)) ?_)
  refine l_pure rfl (s_add  rfl rfl (r := (m : Int)) (by rw [hmd]; exact wr_i64 _ ⟨rfl, by omega, by omega⟩) ?_)
  refine l_pure rfl (s_asg  rfl ?_)
  refine l_pure rfl (s_asg  rfl ?_)
  refine l_nil ?_
  repeat (with_reducible first | refine c_seq ?_ | refine c_block ?_ | refine c_skip ?_ | refine x_then ?_ | refine x_block ?_)
  refine c_reg ?_
  refine l_pure rfl (s_move  rfl ?_)
  refine l_pure rfl (s_move  rfl ?_)
  refine l_pure rfl (s_move  rfl ?_)
  refine l_heavy rfl (s_call Tryd.call7 rfl (Matrix_ok n m vl l _ (hl.below hS.below) hlb hn1 (by omega) hm1 (by omega)) ?_)
  rintro r_ w1 ⟨⟨bo, cap, so, R, rfl, hc1, hc2, hR, hS1⟩, hB1⟩
  replace hS := hS.grow hB1
  have hm := MatG_mkA hR hS1 hc1 hc2
  clear hS1 hR
  have hRB := matA_RB n m l m
  have hshp := mkA_shp (matQ l m) hn1 (by omega) hm1 (by omega)
  have hlen := mkA_krlen (matQ l m) hn1 (by omega) hm1 (by omega)
  have hnull := fun X => mkA_null (X := X) (matQ l m) hn1 (by omega) hm1 (by omega)
  have hkB := fun X => mkA_krB (X := X) (n := n) (m := m) hn1 (by omega) hm1 (by omega) (fun i _ j _ => L_matQ l m i j)
  obtain ⟨A, hA⟩ : ∃ A, A = mkA n m (matQ l m) := ⟨_, rfl⟩
  rw [← hA] at hm hRB hshp hlen hnull hkB
  refine l_pure rfl (s_asg  rfl ?_)
  refine l_nil ?_
  repeat (with_reducible first | refine c_seq ?_ | refine c_block ?_ | refine c_skip ?_ | refine x_then ?_ | refine x_block ?_)
  refine c_reg ?_
  refine l_pure rfl (s_move  rfl ?_)
  refine l_heavy rfl (s_call Tryd.call18 rfl (lKernel_ok _ A _ 1 _ hm hRB (by decide)) ?_)
  rintro r_ w2 ⟨⟨vk, ks, rfl, hk⟩, hB2⟩
  replace hS := hS.grow hB2
  replace hm := hm.below hB2
  rw [hshp]
  refine l_pure rfl (s_move  rfl ?_)
  refine l_pure rfl (s_ext  rfl rfl ?_)
  refine l_pure rfl (s_ext  rfl rfl ?_)
  refine l_pure rfl (s_asg  rfl ?_)
  refine l_pure rfl (s_asg  rfl ?_)
  refine l_nil ?_
  repeat (with_reducible first | refine c_seq ?_ | refine c_block ?_ | refine c_skip ?_ | refine x_then ?_ | refine x_block ?_)
  refine c_reg ?_
  refine l_pure rfl (s_move  rfl ?_)
  refine l_heavy rfl (s_call Tryd.call17 rfl (lRank_ok _ A _ 1 _ hm hRB (by decide)) ?_)
  rintro r_ w3 ⟨rfl, hB3⟩
  replace hS := hS.grow hB3
  replace hm := hm.below hB3
  replace hk := hk.below hB3
  rw [hshp]
  obtain ⟨KL, hKL⟩ : ∃ KL, KL = krL A := ⟨_, rfl⟩
  rw [← hKL] at hk hlen hnull hkB
  have hkl := hk.len
  have hW := hS.below
  replace hS := St.init w3
  refine l_pure rfl (s_move  rfl ?_)
  refine l_pure rfl (s_ext  rfl rfl ?_)
  refine l_pure rfl (s_ext  rfl rfl ?_)
  refine l_pure rfl (s_asg  rfl ?_)
  refine l_pure rfl (s_asg  rfl ?_)
  refine l_nil ?_
  repeat (with_reducible first | refine c_seq ?_ | refine c_block ?_ | refine c_skip ?_ | refine x_then ?_ | refine x_block ?_)
  refine c_reg ?_
  refine l_pure rfl (s_move  rfl ?_)
  refine l_pure rfl (s_lenr  rfl (hk.sl.below hS.below) ⟨_, Tryd.underlying24⟩ ?_)
  refine l_pure rfl (s_move  rfl ?_)
  refine l_nil ?_
  repeat (with_reducible first | refine c_seq ?_ | refine c_block ?_ | refine c_skip ?_ | refine x_then ?_ | refine x_block ?_)
  refine c_loop (σ := Nat) (fun i ρ w' => i ≤ KL.length ∧ ρ 7 = .int .i64 n ∧ ρ 8 = .int .i64 m ∧ ρ 9 = .slice (some ⟨bo, 0, none⟩) n cap ∧ ρ 10 = vk ∧ ρ 11 = .int .i64 0 ∧ ρ 12 = .int .i64 (rdP A).length ∧ ρ 13 = .int .i64 0 ∧ ρ 42 = vk ∧ ρ 43 = .int .i64 KL.length ∧ ρ 44 = .int .i64 i ∧ St w3 w' []) (fun i => KL.length - i) 0
    ⟨Nat.zero_le _, rfl, rfl, rfl, rfl, rfl, rfl, rfl, rfl, vi rfl (by omega), rfl, hS⟩ ?_
  clear hS
  rintro i ρ w4 ⟨hi, h7, h8, h9, h10, h11, h12, h13, h42, h43, h44, hS⟩
  repeat (with_reducible first | refine c_seq ?_ | refine c_block ?_ | refine c_skip ?_ | refine x_then ?_ | refine x_block ?_)
  refine c_reg ?_
  refine l_pure rfl (s_lss  h44 h43 ?_)
  refine l_nil ?_
  repeat (with_reducible first | refine c_seq ?_ | refine c_block ?_ | refine c_skip ?_ | refine x_then ?_ | refine x_block ?_)
  by_cases hlt : i < KL.length
  · refine c_yes rfl (decide_eq_true (by omega)) ?_
    repeat (with_reducible first | refine c_seq ?_ | refine c_block ?_ | refine c_skip ?_ | refine x_then ?_ | refine x_block ?_)
    have hri := hk.row i hlt
    have hmem : KL.getD i [] ∈ KL := getD_mem KL i [] hlt
    obtain ⟨hap, hal⟩ := hnull _ hmem
    have hxB := hkB _ hmem
    repeat (with_reducible first | refine c_seq ?_ | refine c_block ?_ | refine c_skip ?_ | refine x_then ?_ | refine x_block ?_)
    refine c_reg ?_
    refine l_pure rfl (s_ixr (i := i)  h42 h44 (hk.sl.below hS.below) (by omega) (by first | omega | (simp; done) | (simp; omega)) si_24 ?_)
    refine l_read rfl (s_lde (i := i) undef  rfl vi_30 (hk.sl.below hS.below) (by first | omega | (simp; done) | (simp; omega)) rfl rfl (.inr rfl) ?_)
    refine l_pure rfl (s_asg  rfl ?_)
    refine l_nil ?_
    repeat (with_reducible first | refine c_seq ?_ | refine c_block ?_ | refine c_skip ?_ | refine x_then ?_ | refine x_block ?_)
    refine c_reg ?_
    refine l_pure rfl (s_move  h9 ?_)
    refine l_pure rfl (s_move  rfl ?_)
    refine l_heavy rfl (s_call Tryd.call20 rfl (lApply_ok _ _ A _ (KL.getD i []) 2048 _ (hm.below hS.below) (hri.below hS.below) (RBM_mono hRB (by decide)) hxB (by omega)) ?_)
    rintro r_ w5 ⟨⟨v5, rfl, hv5⟩, hB5⟩
    replace hS := hS.grow hB5
    rw [hap]
    rw [hal] at hv5
    have htl := tab_len n fun _ => ofQ 0
    refine l_pure rfl (s_move  rfl ?_)
    refine l_pure rfl (s_ext  rfl rfl ?_)
    refine l_pure rfl (s_ext  rfl rfl ?_)
    refine l_pure rfl (s_asg  rfl ?_)
    refine l_pure rfl (s_asg  rfl ?_)
    refine l_nil ?_
    repeat (with_reducible first | refine c_seq ?_ | refine c_block ?_ | refine c_skip ?_ | refine x_then ?_ | refine x_block ?_)
    refine c_reg ?_
    refine l_pure rfl (s_move  rfl ?_)
    refine l_pure rfl (s_neq  rfl rfl ?_)
    refine l_pure rfl (s_move  rfl ?_)
    refine l_pure (gd_yes 56 (by kernel_rfl) rfl (decide_eq_false (by omega))) (s_move  rfl ?_)
    refine l_pure (gd_yes 56 (by kernel_rfl) rfl (decide_eq_false (by omega))) (s_lenr  rfl hv5 ⟨_, Tryd.underlying30⟩ ?_)
    refine l_pure (gd_yes 56 (by kernel_rfl) rfl (decide_eq_false (by omega))) (s_move  h7 ?_)
    refine l_pure (gd_yes 56 (by kernel_rfl) rfl (decide_eq_false (by omega))) (s_neq  rfl rfl ?_)
    refine l_pure rfl (s_pick (vb rfl (decide_eq_false (by omega))) rfl ?_)
    refine l_nil ?_
    repeat (with_reducible first | refine c_seq ?_ | refine c_block ?_ | refine c_skip ?_ | refine x_then ?_ | refine x_block ?_)
    refine c_no rfl (decide_eq_false (by omega)) ?_
    repeat (with_reducible first | refine c_seq ?_ | refine c_block ?_ | refine c_skip ?_ | refine x_then ?_ | refine x_block ?_)
    refine c_reg ?_
    refine l_pure rfl (s_move  rfl ?_)
    refine l_pure rfl (s_lenr  rfl (hv5.below (Below.refl _ _)) ⟨_, Tryd.underlying30⟩ ?_)
    refine l_pure rfl (s_move  rfl ?_)
    refine l_nil ?_
    repeat (with_reducible first | refine c_seq ?_ | refine c_skip ?_ | refine x_then ?_ | refine x_block ?_)
    have hW5 := hS.below
    replace hS := St.init w5
    refine c_cut1 (fun ρ w' => ρ 7 = .int .i64 n ∧ ρ 8 = .int .i64 m ∧ ρ 9 = .slice (some ⟨bo, 0, none⟩) n cap ∧ ρ 10 = vk ∧ ρ 11 = .int .i64 0 ∧ ρ 12 = .int .i64 (rdP A).length ∧ ρ 13 = .int .i64 0 ∧ ρ 42 = vk ∧ ρ 43 = .int .i64 KL.length ∧ ρ 44 = .int .i64 i ∧ St w5 w' []) ?_ ?_
    · repeat (with_reducible first | refine c_seq ?_ | refine c_block ?_ | refine c_skip ?_ | refine x_then ?_ | refine x_block ?_)
      refine c_loop (σ := Nat) (fun j ρ w' => j ≤ n ∧ ρ 7 = .int .i64 n ∧ ρ 8 = .int .i64 m ∧ ρ 9 = .slice (some ⟨bo, 0, none⟩) n cap ∧ ρ 10 = vk ∧ ρ 11 = .int .i64 0 ∧ ρ 12 = .int .i64 (rdP A).length ∧ ρ 13 = .int .i64 0 ∧ ρ 42 = vk ∧ ρ 43 = .int .i64 KL.length ∧ ρ 44 = .int .i64 i ∧ ρ 62 = v5 ∧ ρ 63 = .int .i64 n ∧ ρ 64 = .int .i64 j ∧ St w5 w' []) (fun j => n - j) 0
        ⟨Nat.zero_le _, by assumption, by assumption, by assumption, by assumption, by assumption, by assumption, by assumption, by assumption, by assumption, by assumption, rfl, vi rfl (by omega), rfl, hS⟩ ?_
      clear hS
      rintro j ρ w6 ⟨hj, h7, h8, h9, h10, h11, h12, h13, h42, h43, h44, h62, h63, h64, hS⟩
      repeat (with_reducible first | refine c_seq ?_ | refine c_block ?_ | refine c_skip ?_ | refine x_then ?_ | refine x_block ?_)
      refine c_reg ?_
      refine l_pure rfl (s_lss  h64 h63 ?_)
      refine l_nil ?_
      repeat (with_reducible first | refine c_seq ?_ | refine c_block ?_ | refine c_skip ?_ | refine x_then ?_ | refine x_block ?_)
      by_cases hjn : j < n
      · refine c_yes rfl (decide_eq_true (by omega)) ?_
        repeat (with_reducible first | refine c_seq ?_ | refine c_block ?_ | refine c_skip ?_ | refine x_then ?_ | refine x_block ?_)
        have hg : (tab n fun _ => ofQ 0).getD j zRR = ofQ 0 := tab_get _ _ hjn
        repeat (with_reducible first | refine c_seq ?_ | refine c_block ?_ | refine c_skip ?_ | refine x_then ?_ | refine x_block ?_)
        refine c_reg ?_
        refine l_pure rfl (s_ixr (i := j)  h62 h64 (hv5.below hS.below) (by omega) (by first | omega | (simp; done) | (simp; omega)) si_30 ?_)
        refine l_read rfl (s_lde (i := j) zRR  rfl vi_27 (hv5.below hS.below) (by first | omega | (simp; done) | (simp; omega)) rfl rfl (.inl rfl) ?_)
        refine l_heavy rfl (s_alloc  vi_27 hS ?_)
        intro b19 wz1 hS hBz1
        refine l_heavy rfl (s_sta (k := 0)  rfl rfl vi_27 hS rfl rfl rfl (Nat.le_of_ble_eq_true rfl) rfl ?_)
        intro wz2 hS
        refine l_nil ?_
        repeat (with_reducible first | refine c_seq ?_ | refine c_block ?_ | refine c_skip ?_ | refine x_then ?_ | refine x_block ?_)
        rw [hg] at hS
        repeat (with_reducible first | refine c_seq ?_ | refine c_block ?_ | refine c_skip ?_ | refine x_then ?_ | refine x_block ?_)
        refine c_reg ?_
        refine l_read rfl (s_ldo (k := 0)  rfl vi_27 hS rfl rfl rfl (.inl rfl) ?_)
        refine l_heavy rfl (s_call Tryd.call21 rfl (Sign_ok (ofQ 0) _ (by rw [Lr_ofQ, L_zero]; omega)) ?_)
        rintro _ wc3 ⟨rfl, hBc3⟩
        replace hS := hS.grow hBc3
        refine l_pure rfl (s_neq  rfl rfl ?_)
        refine l_nil ?_
        repeat (with_reducible first | refine c_seq ?_ | refine c_block ?_ | refine c_skip ?_ | refine x_then ?_ | refine x_block ?_)
        rw [toQ_ofQ]
        refine c_no rfl (decide_eq_false (fun h => h (sgnQ_zero.2 rfl))) ?_
        repeat (with_reducible first | refine c_seq ?_ | refine c_block ?_ | refine c_skip ?_ | refine x_then ?_ | refine x_block ?_)
        refine c_reg ?_
        refine l_pure rfl (s_add  h64 rfl (IntWalk.i64_in _ (by omega)) ?_)
        refine l_pure rfl (s_move  rfl ?_)
        refine l_nil ?_
        repeat (with_reducible first | refine c_seq ?_ | refine c_block ?_ | refine c_skip ?_ | refine x_then ?_ | refine x_block ?_)
        exact ⟨j + 1, _, rfl, ⟨hjn, by assumption, by assumption, by assumption, by assumption, by assumption, by assumption, by assumption, by assumption, by assumption, by assumption, by assumption, by assumption, vi rfl (by omega), hS.drop (List.nil_sublist _)⟩, by omega⟩
      · refine c_no rfl (decide_eq_false (by omega)) ?_
        repeat (with_reducible first | refine c_seq ?_ | refine c_block ?_ | refine c_skip ?_ | refine x_then ?_ | refine x_block ?_)
        refine c_exit ?_
        repeat (with_reducible first | refine x_then_exit ?_ | refine x_block_exit ?_ | refine x_block_pass rfl ?_)
        repeat (with_reducible first | refine c_seq ?_ | refine c_block ?_ | refine c_skip ?_ | refine x_then ?_ | refine x_block ?_)
        exact ⟨_, rfl, by assumption, by assumption, by assumption, by assumption, by assumption, by assumption, by assumption, by assumption, by assumption, by assumption, hS⟩
    clear hS
    rintro ρ w6 ⟨h7, h8, h9, h10, h11, h12, h13, h42, h43, h44, hS⟩
    replace hS := (St.init w3).grow (hW5.trans (hS.below.mono hW5.size))
    repeat (with_reducible first | refine c_seq ?_ | refine c_block ?_ | refine c_skip ?_ | refine x_then ?_ | refine x_block ?_)
    refine c_reg ?_
    refine l_pure rfl (s_add  h44 rfl (IntWalk.i64_in _ (by omega)) ?_)
    refine l_pure rfl (s_move  rfl ?_)
    refine l_nil ?_
    repeat (with_reducible first | refine c_seq ?_ | refine c_block ?_ | refine c_skip ?_ | refine x_then ?_ | refine x_block ?_)
    exact ⟨i + 1, _, rfl, ⟨hlt, by assumption, by assumption, by assumption, by assumption, by assumption, by assumption, by assumption, by assumption, by assumption, vi rfl (by omega), hS⟩, by omega⟩
  · refine c_no rfl (decide_eq_false (by omega)) ?_
    repeat (with_reducible first | refine c_seq ?_ | refine c_block ?_ | refine c_skip ?_ | refine x_then ?_ | refine x_block ?_)
    refine c_exit ?_
    repeat (with_reducible first | refine x_then_exit ?_ | refine x_block_exit ?_ | refine x_block_pass rfl ?_)
    repeat (with_reducible first | refine c_seq ?_ | refine c_block ?_ | refine c_skip ?_ | refine x_then ?_ | refine x_block ?_)
    refine c_reg ?_
    refine l_heavy rfl (s_call Tryd.call12 rfl (Lawake_ok _) ?_)
    rintro r_ wa ⟨rfl, hBa⟩
    replace hS := hS.grow hBa
    refine l_pure rfl (s_move  rfl ?_)
    refine l_pure (gd_yes 74 (by kernel_rfl) rfl rfl) (s_move  h11 ?_)
    refine l_pure (gd_yes 74 (by kernel_rfl) rfl rfl) (s_eql  rfl rfl ?_)
    refine l_pure rfl (s_pick (vb rfl rfl) rfl ?_)
    refine l_pure rfl (s_move  rfl ?_)
    refine l_pure (gd_yes 78 (by kernel_rfl) rfl (decide_eq_true rfl)) (s_move  h13 ?_)
    refine l_pure (gd_yes 78 (by kernel_rfl) rfl (decide_eq_true rfl)) (s_eql  rfl rfl ?_)
    refine l_pure rfl (s_pick (vb rfl (decide_eq_true rfl)) rfl ?_)
    refine l_pure rfl (s_move  rfl ?_)
    refine l_pure (gd_yes 82 (by kernel_rfl) rfl (decide_eq_true rfl)) (s_move  h12 ?_)
    refine l_pure (gd_yes 82 (by kernel_rfl) rfl (decide_eq_true rfl)) (s_move  h10 ?_)
    refine l_pure (gd_yes 82 (by kernel_rfl) rfl (decide_eq_true rfl)) (s_lenr  rfl (hk.sl.below hS.below) ⟨_, Tryd.underlying24⟩ ?_)
    refine l_pure (gd_yes 82 (by kernel_rfl) rfl (decide_eq_true rfl)) (s_add  rfl rfl (IntWalk.i64_in _ (by omega)) ?_)
    refine l_pure (gd_yes 82 (by kernel_rfl) rfl (decide_eq_true rfl)) (s_move  h8 ?_)
    refine l_pure (gd_yes 82 (by kernel_rfl) rfl (decide_eq_true rfl)) (s_eql  rfl rfl ?_)
    refine l_pure rfl (s_pick (vb rfl (decide_eq_true rfl)) rfl ?_)
    refine l_pure rfl (s_asg  rfl ?_)
    refine l_nil ?_
    repeat (with_reducible first | refine c_seq ?_ | refine c_block ?_ | refine c_skip ?_ | refine x_then ?_ | refine x_block ?_)
    refine c_ret ?_
    repeat (with_reducible first | refine x_then_ret ?_ | refine x_block_ret ?_)
    refine r_one rfl rfl ?_
    exact ⟨vb rfl (decide_eq_true (by omega)), hW.trans (hS.below.mono hW.size)⟩
end Go.Proofs.YtblfipdfklpmmaaDoor
namespace Go.Proofs.YtblfipdfklpmmaaDoor
open Go Go.RowKit Go.Sx
theorem rdc_zeros (n : Nat) : ∀ c, rdc n (fun _ _ => 0) c = ⟨fun _ _ => 0, [], 1⟩
  | 0 => rfl
  | c + 1 => by
    show rstp n c (rdc n (fun _ _ => 0) c) = _
    rw [rdc_zeros n c]
    unfold rstp
    rw [if_neg]
    intro h
    exact (pv_spec (fun _ _ => 0) c (n := n) (r := 0) (Nat.zero_le n)).2.2.2 h rfl
theorem toQ_z0 : toQ zRR = 0 := by rw [← toQ_ofQ 0, ofQ_zero]; rfl
theorem Lr_z0 : Lr zRR = 1 := by decide
def zA (n m : Nat) : List (List RR) := List.replicate n (List.replicate m zRR)
theorem zrow_get (m j : Nat) : (List.replicate m zRR).getD j zRR = zRR := by
  rw [List.getD_eq_getElem?_getD, List.getElem?_replicate]
  split <;> rfl
theorem zA_get {n m i : Nat} (h : i < n) : (zA n m).getD i [] = List.replicate m zRR := by
  unfold zA
  rw [List.getD_eq_getElem?_getD, List.getElem?_replicate, if_pos h]; rfl
theorem zA_len (n m : Nat) : (zA n m).length = n := List.length_replicate
theorem zA_RM (n m : Nat) : RM (zA n m) = fun _ _ => 0 := by
  funext i j
  unfold RM
  by_cases h : i < n
  · rw [zA_get h, zrow_get]; exact toQ_z0
  · rw [List.getD_eq_getElem?_getD (l := zA n m), List.getElem?_eq_none (by rw [zA_len]; omega)]
    exact toQ_z0
theorem zVX (n : Nat) : VX (List.replicate n zRR) = fun _ => 0 := by
  funext j
  unfold VX
  rw [zrow_get]; exact toQ_z0
theorem zRB (n : Nat) : RB 1 (List.replicate n zRR) := fun r hr => by rw [(List.mem_replicate.1 hr).2, Lr_z0]; exact Nat.le_refl _
theorem zA_RB (n m : Nat) : RBM 1 (zA n m) := fun a ha => by rw [(List.mem_replicate.1 ha).2]; exact zRB m
theorem zA_cols {n m : Nat} (h : 1 ≤ n) : colsA (zA n m) = m := by unfold colsA; rw [zA_get (by omega), List.length_replicate]
def wtE (n m : Nat) : Int := if n = 0 ∨ m = 0 then 4 else if 16 < n ∨ 16 < m then 2 else 0
theorem zA_shp (n m : Nat) : shpE (zA n m) = wtE n m := by
  unfold shpE wtE
  rw [zA_len]
  by_cases h : n = 0
  · rw [if_pos (Or.inl h), if_pos (Or.inl h)]
  · have he : evenA (zA n m) = true := List.all_eq_true.2 fun r hr => by
      rw [zA_cols (by omega), (List.mem_replicate.1 hr).2, List.length_replicate]
      exact decide_eq_true rfl
    rw [zA_cols (by omega), he]
    rfl
theorem zA_rank (n m : Nat) : (rdP (zA n m)).length = 0 := by
  unfold rdP rdA
  rw [zA_RM, rdc_zeros]
  split <;> rfl
def sqN (n m : Nat) : Int := if wtE n m ≠ 0 then wtE n m else if n ≠ m then 4 else 0
theorem zA_sq (n m : Nat) : sqE (zA n m) = sqN n m := by
  unfold sqE sqN
  rw [zA_shp, zA_len]
  by_cases h : wtE n m ≠ 0
  · rw [if_pos h, if_pos h]
  · rw [if_neg h, if_neg h, zA_cols]
    unfold wtE at h
    by_cases g : n = 0
    · rw [if_pos (Or.inl g)] at h; omega
    · omega
def slN (n m : Nat) : Int := if sqN n m ≠ 0 then sqN n m else 5
theorem zA_sl (n m : Nat) : slE (zA n m) (List.replicate n zRR) = slN n m := by
  unfold slE slN
  rw [zA_sq, zA_len, List.length_replicate]
  by_cases h : sqN n m ≠ 0
  · rw [if_pos h, if_pos h]
  · rw [if_neg h, if_neg h, if_neg (by omega), if_neg]
    have ea : AUG (zA n m) (List.replicate n zRR) = fun _ _ => 0 := by
      funext i j
      unfold AUG
      rw [zA_RM, zVX]
      split
      · rfl
      · split <;> rfl
    unfold slD
    rw [zA_len, ea, rdc_zeros]
    intro e
    have e2 : wtE n m = 4 := if_pos (Or.inl e.symm)
    exact h (by unfold sqN; rw [if_pos (by rw [e2]; decide), e2]; decide)
theorem zA_ap (n m : Nat) (h : wtE n m = 0 → 1 ≤ n) : apE (zA n m) (List.replicate m zRR) = wtE n m := by
  unfold apE
  rw [zA_shp]
  by_cases g : wtE n m ≠ 0
  · rw [if_pos g]
  · rw [if_neg g, zA_cols (h (Decidable.not_not.1 g)), List.length_replicate, if_neg (by omega)]; omega
theorem wtE_pos {n m : Nat} (h : wtE n m = 0) : 1 ≤ n ∧ 1 ≤ m := by
  unfold wtE at h
  split at h
  · omega
  · omega
set_option maxHeartbeats 4000000 in
theorem LinearLimits_ok (x y : Nat) (w : World) :
    Ret Tryd.prog 5 #[.int .u8 x, .int .u8 y] w fun v w' => v = .bool true ∧ Below w.heap.size w w' := by
  have hM : MX = 1099511627776 := rfl
  obtain ⟨n, hn⟩ : ∃ n, n = x % 20 := ⟨_, rfl⟩
  obtain ⟨m, hmd⟩ : ∃ m, m = y % 20 := ⟨_, rfl⟩
  have hn2 : n ≤ 19 := by omega
  have hm2 : m ≤ 19 := by omega
  have hS := St.init w
  refine enter Tryd.func5 rfl Tryd.ntmps5 rfl ?_
  repeat (with_reducible first | refine c_seq ?_ | refine c_block ?_ | refine c_skip ?_ | refine x_then ?_ | refine x_block ?_)
  refine c_reg ?_
  refine l_pure rfl (s_asg  rfl ?_)
  refine l_nil ?_
  repeat (with_reducible first | refine c_seq ?_ | refine c_block ?_ | refine c_skip ?_ | refine x_then ?_ | refine x_block ?_)
  refine c_reg ?_
  refine l_pure rfl (s_move  rfl ?_)
  refine l_pure rfl (s_rem  rfl rfl (by omega) (r := (n : Int)) (by rw [hn]; exact rem_nat x 20) ?_)
  refine l_pure rfl (s_conv  rfl Tryd.underlying3 ⟨_, Tryd.underlying5⟩ (IntWalk.i64_in _ (by omega)) ?_)
  refine l_pure rfl (s_move  rfl ?_)
  refine l_pure rfl (s_rem  rfl rfl (by omega) (r := (m : Int)) (by rw [hmd]; exact rem_nat y 20) ?_)
  refine l_pure rfl (s_conv  rfl Tryd.underlying3 ⟨_, Tryd.underlying5⟩ (IntWalk.i64_in _ (by omega)) ?_)
  refine l_pure rfl (s_asg  rfl ?_)
  refine l_pure rfl (s_asg  rfl ?_)
  refine l_nil ?_
  repeat (with_reducible first | refine c_seq ?_ | refine c_block ?_ | refine c_skip ?_ | refine x_then ?_ | refine x_block ?_)
  refine c_reg ?_
  refine l_pure rfl (s_asg  rfl ?_)
  refine l_nil ?_
  repeat (with_reducible first | refine c_seq ?_ | refine c_block ?_ | refine c_skip ?_ | refine x_then ?_ | refine x_block ?_)
  refine c_reg ?_
  refine l_pure rfl (s_asg  rfl ?_)
  refine l_nil ?_
  repeat (with_reducible first | refine c_seq ?_ | refine c_skip ?_ | refine x_then ?_ | refine x_block ?_)
  refine c_cut1 (fun ρ w' => ρ 5 = .int .i64 n ∧ ρ 6 = .int .i64 m ∧ ∃ vo LO R, ρ 7 = vo ∧ RwOk R ∧ R.map (·.X) = zA n m ∧ Gl enV 30 1 vo (R.map Rw.v) LO ∧ St w w' (R.map (Rw.blk encR 27) ++ LO)) ?_ ?_
  · repeat (with_reducible first | refine c_seq ?_ | refine c_block ?_ | refine c_skip ?_ | refine x_then ?_ | refine x_block ?_)
    refine c_loop (σ := Nat) (fun i ρ w' => i ≤ n ∧ ρ 5 = .int .i64 n ∧ ρ 6 = .int .i64 m ∧ ρ 8 = .int .i64 i ∧ ∃ vo LO R, ρ 7 = vo ∧ RwOk R ∧ R.map (·.X) = zA i m ∧ Gl enV 30 1 vo (R.map Rw.v) LO ∧ St w w' (R.map (Rw.blk encR 27) ++ LO)) (fun i => n - i) 0
      ⟨Nat.zero_le _, rfl, rfl, rfl, _, [], [], rfl, (fun _ h => by cases h), rfl, Gl.nil _ _ _, hS⟩ ?_
    clear hS
    rintro i ρ w2 ⟨hi, h5, h6, h8, vo, LO, R, h7, hok, hRX, hG, hS⟩
    have hRl : R.length = i := by
      have := congrArg List.length hRX
      rw [List.length_map, zA_len] at this; exact this
    have hvl : (R.map Rw.v).length = i := by rw [List.length_map, hRl]
    repeat (with_reducible first | refine c_seq ?_ | refine c_block ?_ | refine c_skip ?_ | refine x_then ?_ | refine x_block ?_)
    refine c_reg ?_
    refine l_pure rfl (s_move  h8 ?_)
    refine l_pure rfl (s_move  h5 ?_)
    refine l_pure rfl (s_lss  rfl rfl ?_)
    refine l_nil ?_
    repeat (with_reducible first | refine c_seq ?_ | refine c_block ?_ | refine c_skip ?_ | refine x_then ?_ | refine x_block ?_)
    by_cases hlt : i < n
    · refine c_yes rfl (decide_eq_true (by omega)) ?_
      repeat (with_reducible first | refine c_seq ?_ | refine c_block ?_ | refine c_skip ?_ | refine x_then ?_ | refine x_block ?_)
      refine c_reg ?_
      refine l_pure rfl (s_move  h7 ?_)
      refine l_pure rfl (s_move  h6 ?_)
      refine l_heavy rfl (s_makeE (enc := encR) (n := m) zRR  rfl rfl si_30 rfl (by omega) (by omega) (by omega) (by omega) hS ?_)
      intro b38 wz1 hS hBz1
      rw [← List.cons_append] at hS
      refine l_heavy rfl (s_bsl (vs := [.slice (some ⟨b38, 0, none⟩) m m])  rfl si_24 rfl (by decide) (by decide) (by decide) (by simp [Value.cells]) rfl hS ?_)
      intro b39 wz2 hS hBz2
      refine l_heavy rfl (s_appl [Value.slice (some ⟨b38, 0, none⟩) m m]  rfl rfl si_24 (by decide) hG hS rfl rfl (fun _ => rfl) (fun u hu => by rw [List.mem_singleton.1 (show u ∈ [Value.slice (some ⟨b38, 0, none⟩) m m] from hu)]; rfl) (by first | omega | (simp only [List.length_cons, List.length_nil]; omega)) (by first | omega | (simp only [List.length_cons, List.length_nil]; omega)) ?_)
      intro va3 La3 wa3 hG hS hga3
      refine l_pure rfl (s_asg  rfl ?_)
      refine l_nil ?_
      repeat (with_reducible first | refine c_seq ?_ | refine c_block ?_ | refine c_skip ?_ | refine x_then ?_ | refine x_block ?_)
      refine c_reg ?_
      refine l_pure rfl (s_move  h8 ?_)
      refine l_pure rfl (s_add  rfl rfl (IntWalk.i64_in _ (by omega)) ?_)
      refine l_pure rfl (s_asg  rfl ?_)
      refine l_nil ?_
      repeat (with_reducible first | refine c_seq ?_ | refine c_block ?_ | refine c_skip ?_ | refine x_then ?_ | refine x_block ?_)
      obtain ⟨nr, hnr⟩ : ∃ nr : Rw RR, nr = ⟨b38, m, List.replicate m zRR, []⟩ := ⟨_, rfl⟩
      have evv : R.map Rw.v ++ [Value.slice (some ⟨b38, 0, none⟩) m m] = (R ++ [nr]).map Rw.v := by
        rw [List.map_append, hnr]
        show _ = R.map Rw.v ++ [Value.slice (some ⟨b38, 0, none⟩) (List.replicate m zRR).length m]
        rw [List.length_replicate]
      have eb : ∀ T : List Blk, ((b38, 27, (List.replicate m zRR).flatMap encR) :: R.map (Rw.blk encR 27) ++ T).Perm ((R ++ [nr]).map (Rw.blk encR 27) ++ T) := by
        intro T
        have : List.map (Rw.blk encR 27) [nr] = [(b38, 27, (List.replicate m zRR).flatMap encR)] := by
          rw [hnr]
          show [(b38, 27, (List.replicate m zRR).flatMap encR ++ [])] = _
          rw [List.append_nil]
        rw [List.map_append, this]
        exact List.Perm.append_right _ (List.perm_append_singleton _ _).symm
      rw [evv] at hG
      have hS2 := hS.perm (eb _)
      refine ⟨i + 1, _, rfl, ⟨hlt, by assumption, by assumption, vi rfl (by omega), _, _, R ++ [nr], rfl, ?_, ?_, hG, hS2⟩, by omega⟩
      · intro r hr
        rcases List.mem_append.1 hr with g | g
        · exact hok r g
        · rw [List.mem_singleton.1 g, hnr]
          exact ⟨by show (List.replicate m zRR).length ≤ m; rw [List.length_replicate]; exact Nat.le_refl _, by show m ≤ _; omega⟩
      · rw [List.map_append, hRX, hnr]
        unfold zA
        exact List.replicate_succ'.symm
    · refine c_no rfl (decide_eq_false (by omega)) ?_
      repeat (with_reducible first | refine c_seq ?_ | refine c_block ?_ | refine c_skip ?_ | refine x_then ?_ | refine x_block ?_)
      refine c_exit ?_
      repeat (with_reducible first | refine x_then_exit ?_ | refine x_block_exit ?_ | refine x_block_pass rfl ?_)
      repeat (with_reducible first | refine c_seq ?_ | refine c_block ?_ | refine c_skip ?_ | refine x_then ?_ | refine x_block ?_)
      obtain rfl : n = i := by omega
      exact ⟨_, rfl, h5, h6, vo, LO, R, h7, hok, hRX, hG, hS⟩
  clear hS
  rintro ρ w2 ⟨h5, h6, vo, LO, R, h7, hok, hRX, hG, hS⟩
  have hm := rows_mts (size := 3) encR_len hok hG hS
  rw [hRX] at hm
  have hW := hS.below
  clear hS hok hRX hG
  have hS := St.init w2
  have hRB := zA_RB n m
  have hshp := zA_shp n m
  have hsq := zA_sq n m
  have hsl := zA_sl n m
  have hrk := zA_rank n m
  have hap := zA_ap n m fun h => (wtE_pos h).1
  obtain ⟨A, hA⟩ : ∃ A, A = zA n m := ⟨_, rfl⟩
  rw [← hA] at hm hRB hshp hsq hsl hrk hap
  repeat (with_reducible first | refine c_seq ?_ | refine c_block ?_ | refine c_skip ?_ | refine x_then ?_ | refine x_block ?_)
  refine c_reg ?_
  refine l_pure rfl (s_asg  rfl ?_)
  refine l_nil ?_
  repeat (with_reducible first | refine c_seq ?_ | refine c_skip ?_ | refine x_then ?_ | refine x_block ?_)
  refine c_cut1 (fun ρ w' => ρ 5 = .int .i64 n ∧ ρ 6 = .int .i64 m ∧ ρ 7 = vo ∧ ρ 9 = .int .i64 (wtE n m) ∧ St w2 w' []) ?_ ?_
  · repeat (with_reducible first | refine c_seq ?_ | refine c_block ?_ | refine c_skip ?_ | refine x_then ?_ | refine x_block ?_)
    by_cases hn0 : n = 0
    · have e : wtE n m = 4 := if_pos (Or.inl hn0)
      rw [e]
      repeat (with_reducible first | refine c_seq ?_ | refine c_block ?_ | refine c_skip ?_ | refine x_then ?_ | refine x_block ?_)
      refine c_reg ?_
      refine l_pure rfl (s_move  h5 ?_)
      refine l_pure rfl (s_eql  rfl rfl ?_)
      refine l_pure rfl (s_move  rfl ?_)
      refine l_no (gno_yes 44 (by kernel_rfl) rfl (decide_eq_true (by omega))) ?_
      refine l_no (gno_yes 44 (by kernel_rfl) rfl (decide_eq_true (by omega))) ?_
      refine l_pure rfl (s_pick (vb rfl (decide_eq_true (by omega))) rfl ?_)
      refine l_pure rfl (s_asg  rfl ?_)
      refine l_nil ?_
      repeat (with_reducible first | refine c_seq ?_ | refine c_block ?_ | refine c_skip ?_ | refine x_then ?_ | refine x_block ?_)
      refine c_yes rfl (rfl) ?_
      repeat (with_reducible first | refine c_seq ?_ | refine c_block ?_ | refine c_skip ?_ | refine x_then ?_ | refine x_block ?_)
      refine c_reg ?_
      refine l_pure rfl (s_asg  rfl ?_)
      refine l_nil ?_
      repeat (with_reducible first | refine c_seq ?_ | refine c_block ?_ | refine c_skip ?_ | refine x_then ?_ | refine x_block ?_)
      exact ⟨_, rfl, by assumption, by assumption, by assumption, rfl, hS⟩
    · by_cases hm0 : m = 0
      · have e : wtE n m = 4 := if_pos (Or.inr hm0)
        rw [e]
        repeat (with_reducible first | refine c_seq ?_ | refine c_block ?_ | refine c_skip ?_ | refine x_then ?_ | refine x_block ?_)
        refine c_reg ?_
        refine l_pure rfl (s_move  h5 ?_)
        refine l_pure rfl (s_eql  rfl rfl ?_)
        refine l_pure rfl (s_move  rfl ?_)
        refine l_pure (gd_yes 44 (by kernel_rfl) rfl (decide_eq_false (by omega))) (s_move  h6 ?_)
        refine l_pure (gd_yes 44 (by kernel_rfl) rfl (decide_eq_false (by omega))) (s_eql  rfl rfl ?_)
        refine l_pure rfl (s_pick (vb rfl (decide_eq_false (by omega))) rfl ?_)
        refine l_pure rfl (s_asg  rfl ?_)
        refine l_nil ?_
        repeat (with_reducible first | refine c_seq ?_ | refine c_block ?_ | refine c_skip ?_ | refine x_then ?_ | refine x_block ?_)
        refine c_yes rfl (decide_eq_true (by omega)) ?_
        repeat (with_reducible first | refine c_seq ?_ | refine c_block ?_ | refine c_skip ?_ | refine x_then ?_ | refine x_block ?_)
        refine c_reg ?_
        refine l_pure rfl (s_asg  rfl ?_)
        refine l_nil ?_
        repeat (with_reducible first | refine c_seq ?_ | refine c_block ?_ | refine c_skip ?_ | refine x_then ?_ | refine x_block ?_)
        exact ⟨_, rfl, by assumption, by assumption, by assumption, rfl, hS⟩
      · repeat (with_reducible first | refine c_seq ?_ | refine c_block ?_ | refine c_skip ?_ | refine x_then ?_ | refine x_block ?_)
        refine c_reg ?_
        refine l_pure rfl (s_move  h5 ?_)
        refine l_pure rfl (s_eql  rfl rfl ?_)
        refine l_pure rfl (s_move  rfl ?_)
        refine l_pure (gd_yes 44 (by kernel_rfl) rfl (decide_eq_false (by omega))) (s_move  h6 ?_)
        refine l_pure (gd_yes 44 (by kernel_rfl) rfl (decide_eq_false (by omega))) (s_eql  rfl rfl ?_)
        refine l_pure rfl (s_pick (vb rfl (decide_eq_false (by omega))) rfl ?_)
        refine l_pure rfl (s_asg  rfl ?_)
        refine l_nil ?_
        repeat (with_reducible first | refine c_seq ?_ | refine c_block ?_ | refine c_skip ?_ | refine x_then ?_ | refine x_block ?_)
        refine c_no rfl (decide_eq_false (by omega)) ?_
        repeat (with_reducible first | refine c_seq ?_ | refine c_block ?_ | refine c_skip ?_ | refine x_then ?_ | refine x_block ?_)
        by_cases hnb : 16 < n
        · have e : wtE n m = 2 := by unfold wtE; rw [if_neg (by omega), if_pos (Or.inl hnb)]
          rw [e]
          repeat (with_reducible first | refine c_seq ?_ | refine c_block ?_ | refine c_skip ?_ | refine x_then ?_ | refine x_block ?_)
          refine c_reg ?_
          refine l_pure rfl (s_move  h5 ?_)
          refine l_pure rfl (s_gtr  rfl rfl ?_)
          refine l_pure rfl (s_move  rfl ?_)
          refine l_no (gno_yes 51 (by kernel_rfl) rfl (decide_eq_true (by omega))) ?_
          refine l_no (gno_yes 51 (by kernel_rfl) rfl (decide_eq_true (by omega))) ?_
          refine l_pure rfl (s_pick (vb rfl (decide_eq_true (by omega))) rfl ?_)
          refine l_pure rfl (s_asg  rfl ?_)
          refine l_nil ?_
          repeat (with_reducible first | refine c_seq ?_ | refine c_block ?_ | refine c_skip ?_ | refine x_then ?_ | refine x_block ?_)
          refine c_yes rfl (rfl) ?_
          repeat (with_reducible first | refine c_seq ?_ | refine c_block ?_ | refine c_skip ?_ | refine x_then ?_ | refine x_block ?_)
          refine c_reg ?_
          refine l_pure rfl (s_asg  rfl ?_)
          refine l_nil ?_
          repeat (with_reducible first | refine c_seq ?_ | refine c_block ?_ | refine c_skip ?_ | refine x_then ?_ | refine x_block ?_)
          exact ⟨_, rfl, by assumption, by assumption, by assumption, rfl, hS⟩
        · by_cases hmb : 16 < m
          · have e : wtE n m = 2 := by unfold wtE; rw [if_neg (by omega), if_pos (Or.inr hmb)]
            rw [e]
            repeat (with_reducible first | refine c_seq ?_ | refine c_block ?_ | refine c_skip ?_ | refine x_then ?_ | refine x_block ?_)
            refine c_reg ?_
            refine l_pure rfl (s_move  h5 ?_)
            refine l_pure rfl (s_gtr  rfl rfl ?_)
            refine l_pure rfl (s_move  rfl ?_)
            refine l_pure (gd_yes 51 (by kernel_rfl) rfl (decide_eq_false (by omega))) (s_move  h6 ?_)
            refine l_pure (gd_yes 51 (by kernel_rfl) rfl (decide_eq_false (by omega))) (s_gtr  rfl rfl ?_)
            refine l_pure rfl (s_pick (vb rfl (decide_eq_false (by omega))) rfl ?_)
            refine l_pure rfl (s_asg  rfl ?_)
            refine l_nil ?_
            repeat (with_reducible first | refine c_seq ?_ | refine c_block ?_ | refine c_skip ?_ | refine x_then ?_ | refine x_block ?_)
            refine c_yes rfl (decide_eq_true (by omega)) ?_
            repeat (with_reducible first | refine c_seq ?_ | refine c_block ?_ | refine c_skip ?_ | refine x_then ?_ | refine x_block ?_)
            refine c_reg ?_
            refine l_pure rfl (s_asg  rfl ?_)
            refine l_nil ?_
            repeat (with_reducible first | refine c_seq ?_ | refine c_block ?_ | refine c_skip ?_ | refine x_then ?_ | refine x_block ?_)
            exact ⟨_, rfl, by assumption, by assumption, by assumption, rfl, hS⟩
          · have e : wtE n m = 0 := by unfold wtE; rw [if_neg (by omega), if_neg (by omega)]
            rw [e]
            repeat (with_reducible first | refine c_seq ?_ | refine c_block ?_ | refine c_skip ?_ | refine x_then ?_ | refine x_block ?_)
            refine c_reg ?_
            refine l_pure rfl (s_move  h5 ?_)
            refine l_pure rfl (s_gtr  rfl rfl ?_)
            refine l_pure rfl (s_move  rfl ?_)
            refine l_pure (gd_yes 51 (by kernel_rfl) rfl (decide_eq_false (by omega))) (s_move  h6 ?_)
            refine l_pure (gd_yes 51 (by kernel_rfl) rfl (decide_eq_false (by omega))) (s_gtr  rfl rfl ?_)
            refine l_pure rfl (s_pick (vb rfl (decide_eq_false (by omega))) rfl ?_)
            refine l_pure rfl (s_asg  rfl ?_)
            refine l_nil ?_
            repeat (with_reducible first | refine c_seq ?_ | refine c_block ?_ | refine c_skip ?_ | refine x_then ?_ | refine x_block ?_)
            refine c_no rfl (decide_eq_false (by omega)) ?_
            repeat (with_reducible first | refine c_seq ?_ | refine c_block ?_ | refine c_skip ?_ | refine x_then ?_ | refine x_block ?_)
            exact ⟨_, rfl, by assumption, by assumption, by assumption, rfl, hS⟩
  clear hS
  rintro ρ w3 ⟨h5, h6, h7, h9, hS⟩
  repeat (with_reducible first | refine c_seq ?_ | refine c_block ?_ | refine c_skip ?_ | refine x_then ?_ | refine x_block ?_)
  refine c_reg ?_
  refine l_pure rfl (s_move  h9 ?_)
  refine l_pure rfl (s_move  h9 ?_)
  refine l_pure rfl (s_asg  rfl ?_)
  refine l_pure rfl (s_asg  rfl ?_)
  refine l_nil ?_
  repeat (with_reducible first | refine c_seq ?_ | refine c_skip ?_ | refine x_then ?_ | refine x_block ?_)
  refine c_cut1 (fun ρ w' => ρ 5 = .int .i64 n ∧ ρ 6 = .int .i64 m ∧ ρ 7 = vo ∧ ρ 9 = .int .i64 (wtE n m) ∧ ρ 10 = .int .i64 (wtE n m) ∧ ρ 11 = .int .i64 (wtE n m) ∧ ρ 63 = .bool (decide (wtE n m = 0 ∧ n ≠ m)) ∧ St w2 w' []) ?_ ?_
  · repeat (with_reducible first | refine c_seq ?_ | refine c_block ?_ | refine c_skip ?_ | refine x_then ?_ | refine x_block ?_)
    by_cases hw : wtE n m = 0
    · repeat (with_reducible first | refine c_seq ?_ | refine c_block ?_ | refine c_skip ?_ | refine x_then ?_ | refine x_block ?_)
      refine c_reg ?_
      refine l_pure rfl (s_move  h9 ?_)
      refine l_pure rfl (s_eql  rfl rfl ?_)
      refine l_pure rfl (s_move  rfl ?_)
      refine l_pure (gd_yes 59 (by kernel_rfl) rfl (decide_eq_true (by omega))) (s_move  h5 ?_)
      refine l_pure (gd_yes 59 (by kernel_rfl) rfl (decide_eq_true (by omega))) (s_move  h6 ?_)
      refine l_pure (gd_yes 59 (by kernel_rfl) rfl (decide_eq_true (by omega))) (s_neq  rfl rfl ?_)
      refine l_pure rfl (s_pick (vb rfl (decide_eq_true (by omega))) rfl ?_)
      refine l_nil ?_
      repeat (with_reducible first | refine c_seq ?_ | refine c_block ?_ | refine c_skip ?_ | refine x_then ?_ | refine x_block ?_)
      exact ⟨_, rfl, by assumption, by assumption, by assumption, by assumption, rfl, rfl, vb rfl (decide_eq_decide.2 (by omega)), hS⟩
    · repeat (with_reducible first | refine c_seq ?_ | refine c_block ?_ | refine c_skip ?_ | refine x_then ?_ | refine x_block ?_)
      refine c_reg ?_
      refine l_pure rfl (s_move  h9 ?_)
      refine l_pure rfl (s_eql  rfl rfl ?_)
      refine l_pure rfl (s_move  rfl ?_)
      refine l_no (gno_yes 59 (by kernel_rfl) rfl (decide_eq_false (by omega))) ?_
      refine l_no (gno_yes 59 (by kernel_rfl) rfl (decide_eq_false (by omega))) ?_
      refine l_no (gno_yes 59 (by kernel_rfl) rfl (decide_eq_false (by omega))) ?_
      refine l_pure rfl (s_pick (vb rfl (decide_eq_false (by omega))) rfl ?_)
      refine l_nil ?_
      repeat (with_reducible first | refine c_seq ?_ | refine c_block ?_ | refine c_skip ?_ | refine x_then ?_ | refine x_block ?_)
      exact ⟨_, rfl, by assumption, by assumption, by assumption, by assumption, rfl, rfl, vb rfl (decide_eq_false (by omega)).symm, hS⟩
  clear hS h9
  rintro ρ w4 ⟨h5, h6, h7, h9, h10, h11, h63, hS⟩
  refine c_cut1 (fun ρ w' => ρ 5 = .int .i64 n ∧ ρ 6 = .int .i64 m ∧ ρ 7 = vo ∧ ρ 9 = .int .i64 (wtE n m) ∧ ρ 10 = .int .i64 (sqN n m) ∧ ρ 11 = .int .i64 (slN n m) ∧ St w2 w' []) ?_ ?_
  · by_cases hw : wtE n m = 0
    · by_cases hnm : n = m
      · have e1 : sqN n m = 0 := by unfold sqN; rw [if_neg (by omega), if_neg (by omega)]
        have e2 : slN n m = 5 := by unfold slN; rw [if_neg (by omega)]
        rw [e1, e2]
        refine c_no h63 (decide_eq_false (by omega)) ?_
        repeat (with_reducible first | refine c_seq ?_ | refine c_block ?_ | refine c_skip ?_ | refine x_then ?_ | refine x_block ?_)
        refine c_reg ?_
        refine l_pure rfl (s_move  h9 ?_)
        refine l_pure rfl (s_eql  rfl rfl ?_)
        refine l_nil ?_
        repeat (with_reducible first | refine c_seq ?_ | refine c_block ?_ | refine c_skip ?_ | refine x_then ?_ | refine x_block ?_)
        refine c_yes rfl (decide_eq_true (by omega)) ?_
        repeat (with_reducible first | refine c_seq ?_ | refine c_block ?_ | refine c_skip ?_ | refine x_then ?_ | refine x_block ?_)
        refine c_reg ?_
        refine l_pure rfl (s_asg  rfl ?_)
        refine l_nil ?_
        repeat (with_reducible first | refine c_seq ?_ | refine c_block ?_ | refine c_skip ?_ | refine x_then ?_ | refine x_block ?_)
        exact ⟨_, rfl, by assumption, by assumption, by assumption, by assumption, vi h10 hw, rfl, hS⟩
      · have e1 : sqN n m = 4 := by unfold sqN; rw [if_neg (by omega), if_pos (by omega)]
        have e2 : slN n m = 4 := by unfold slN; rw [if_pos (by omega), e1]
        rw [e1, e2]
        refine c_yes h63 (decide_eq_true ⟨hw, hnm⟩) ?_
        repeat (with_reducible first | refine c_seq ?_ | refine c_block ?_ | refine c_skip ?_ | refine x_then ?_ | refine x_block ?_)
        refine c_reg ?_
        refine l_pure rfl (s_asg  rfl ?_)
        refine l_pure rfl (s_asg  rfl ?_)
        refine l_nil ?_
        repeat (with_reducible first | refine c_seq ?_ | refine c_block ?_ | refine c_skip ?_ | refine x_then ?_ | refine x_block ?_)
        exact ⟨_, rfl, by assumption, by assumption, by assumption, by assumption, rfl, rfl, hS⟩
    · have e1 : sqN n m = wtE n m := by unfold sqN; rw [if_pos hw]
      have e2 : slN n m = wtE n m := by unfold slN; rw [if_pos (by omega), e1]
      rw [e1, e2]
      refine c_no h63 (decide_eq_false (by omega)) ?_
      repeat (with_reducible first | refine c_seq ?_ | refine c_block ?_ | refine c_skip ?_ | refine x_then ?_ | refine x_block ?_)
      refine c_reg ?_
      refine l_pure rfl (s_move  h9 ?_)
      refine l_pure rfl (s_eql  rfl rfl ?_)
      refine l_nil ?_
      repeat (with_reducible first | refine c_seq ?_ | refine c_block ?_ | refine c_skip ?_ | refine x_then ?_ | refine x_block ?_)
      refine c_no rfl (decide_eq_false (by omega)) ?_
      repeat (with_reducible first | refine c_seq ?_ | refine c_block ?_ | refine c_skip ?_ | refine x_then ?_ | refine x_block ?_)
      exact ⟨_, rfl, by assumption, by assumption, by assumption, by assumption, by assumption, by assumption, hS⟩
  clear hS h10 h11 h9
  rintro ρ w5 ⟨h5, h6, h7, h9, h10, h11, hS⟩
  repeat (with_reducible first | refine c_seq ?_ | refine c_block ?_ | refine c_skip ?_ | refine x_then ?_ | refine x_block ?_)
  refine c_reg ?_
  refine l_pure rfl (s_move  h7 ?_)
  refine l_heavy rfl (s_call Tryd.call11 rfl (lReduce_ok _ A _ 1 _ (hm.below hS.below) hRB (by decide)) ?_)
  rintro r_ w55 ⟨⟨v1, vs1, vp, rfl, _, _⟩, hB5⟩
  replace hS := hS.grow hB5
  rw [hshp]
  refine l_pure rfl (s_move  rfl ?_)
  refine l_pure rfl (s_ext  rfl rfl ?_)
  refine l_pure rfl (s_ext  rfl rfl ?_)
  refine l_pure rfl (s_ext  rfl rfl ?_)
  refine l_pure rfl (s_asg  rfl ?_)
  refine l_pure rfl (s_asg  rfl ?_)
  refine l_pure rfl (s_asg  rfl ?_)
  refine l_nil ?_
  repeat (with_reducible first | refine c_seq ?_ | refine c_block ?_ | refine c_skip ?_ | refine x_then ?_ | refine x_block ?_)
  refine c_reg ?_
  refine l_pure rfl (s_move  h7 ?_)
  refine l_heavy rfl (s_call Tryd.call17 rfl (lRank_ok _ A _ 1 _ (hm.below hS.below) hRB (by decide)) ?_)
  rintro r_ w6 ⟨rfl, hB6⟩
  replace hS := hS.grow hB6
  rw [hrk, hshp]
  refine l_pure rfl (s_move  rfl ?_)
  refine l_pure rfl (s_ext  rfl rfl ?_)
  refine l_pure rfl (s_ext  rfl rfl ?_)
  refine l_pure rfl (s_asg  rfl ?_)
  refine l_pure rfl (s_asg  rfl ?_)
  refine l_nil ?_
  repeat (with_reducible first | refine c_seq ?_ | refine c_block ?_ | refine c_skip ?_ | refine x_then ?_ | refine x_block ?_)
  refine c_reg ?_
  refine l_pure rfl (s_move  h7 ?_)
  refine l_heavy rfl (s_call Tryd.call18 rfl (lKernel_ok _ A _ 1 _ (hm.below hS.below) hRB (by decide)) ?_)
  rintro r_ w7 ⟨⟨vk, ks, rfl, _⟩, hB7⟩
  replace hS := hS.grow hB7
  rw [hshp]
  refine l_pure rfl (s_move  rfl ?_)
  refine l_pure rfl (s_ext  rfl rfl ?_)
  refine l_pure rfl (s_ext  rfl rfl ?_)
  refine l_pure rfl (s_asg  rfl ?_)
  refine l_pure rfl (s_asg  rfl ?_)
  refine l_nil ?_
  repeat (with_reducible first | refine c_seq ?_ | refine c_block ?_ | refine c_skip ?_ | refine x_then ?_ | refine x_block ?_)
  refine c_reg ?_
  refine l_pure rfl (s_move  h7 ?_)
  refine l_heavy rfl (s_call Tryd.call15 rfl (lDeterminant_ok _ A _ 1 _ (hm.below hS.below) hRB (by decide)) ?_)
  rintro r_ w8 ⟨rfl, hB8⟩
  replace hS := hS.grow hB8
  rw [hsq]
  refine l_pure rfl (s_move  rfl ?_)
  refine l_pure rfl (s_ext  rfl rfl ?_)
  refine l_pure rfl (s_ext  rfl rfl ?_)
  refine l_heavy rfl (s_alloc  vi_27 hS ?_)
  intro b19 wz4 hS hBz4
  refine l_heavy rfl (s_sta (k := 0)  rfl rfl vi_27 hS rfl rfl rfl (Nat.le_of_ble_eq_true rfl) rfl ?_)
  intro wz5 hS
  refine l_pure rfl (s_asg  rfl ?_)
  refine l_nil ?_
  repeat (with_reducible first | refine c_seq ?_ | refine c_block ?_ | refine c_skip ?_ | refine x_then ?_ | refine x_block ?_)
  refine c_reg ?_
  refine l_pure rfl (s_move  h7 ?_)
  refine l_pure rfl (s_move  h5 ?_)
  refine l_heavy rfl (s_makeE (enc := encR) (n := n) zRR  rfl rfl si_30 rfl (by omega) (by omega) (by omega) (by omega) hS ?_)
  intro b90 wz6 hS hBz6
  have hb := hS.sle (k := 0) rfl encR_len (n := n) (cap := n) (by rw [List.length_replicate]; exact Nat.le_refl _) (Nat.le_refl _) (by omega)
  rw [List.take_of_length_le (by rw [List.length_replicate]; exact Nat.le_refl _)] at hb
  refine l_heavy rfl (s_call Tryd.call19 rfl (lSolve_ok _ _ A _ _ 1 _ (hm.below hS.below) hb hRB (zRB n) (by decide)) ?_)
  rintro r_ w9 ⟨⟨v9, rfl, _⟩, hB9⟩
  replace hS := hS.grow hB9
  rw [hsl]
  refine l_pure rfl (s_move  rfl ?_)
  refine l_pure rfl (s_ext  rfl rfl ?_)
  refine l_pure rfl (s_ext  rfl rfl ?_)
  refine l_pure rfl (s_asg  rfl ?_)
  refine l_pure rfl (s_asg  rfl ?_)
  refine l_nil ?_
  repeat (with_reducible first | refine c_seq ?_ | refine c_block ?_ | refine c_skip ?_ | refine x_then ?_ | refine x_block ?_)
  refine c_reg ?_
  refine l_pure rfl (s_move  h7 ?_)
  refine l_pure rfl (s_move  h6 ?_)
  refine l_heavy rfl (s_makeE (enc := encR) (n := m) zRR  rfl rfl si_30 rfl (by omega) (by omega) (by omega) (by omega) hS ?_)
  intro b97 wz7 hS hBz7
  have hc := hS.sle (k := 0) rfl encR_len (n := m) (cap := m) (by rw [List.length_replicate]; exact Nat.le_refl _) (Nat.le_refl _) (by omega)
  rw [List.take_of_length_le (by rw [List.length_replicate]; exact Nat.le_refl _)] at hc
  refine l_heavy rfl (s_call Tryd.call20 rfl (lApply_ok _ _ A _ _ 1 _ (hm.below hS.below) hc hRB (zRB m) (by decide)) ?_)
  rintro r_ w10 ⟨⟨v10, rfl, _⟩, hB10⟩
  replace hS := hS.grow hB10
  rw [hap]
  refine l_pure rfl (s_move  rfl ?_)
  refine l_pure rfl (s_ext  rfl rfl ?_)
  refine l_pure rfl (s_ext  rfl rfl ?_)
  refine l_pure rfl (s_asg  rfl ?_)
  refine l_pure rfl (s_asg  rfl ?_)
  refine l_nil ?_
  repeat (with_reducible first | refine c_seq ?_ | refine c_block ?_ | refine c_skip ?_ | refine x_then ?_ | refine x_block ?_)
  refine c_reg ?_
  refine l_heavy rfl (s_call Tryd.call12 rfl (Lawake_ok _) ?_)
  rintro r_ wa ⟨rfl, hBa⟩
  replace hS := hS.grow hBa
  refine l_pure rfl (s_move  rfl ?_)
  refine l_pure (gd_yes 102 (by kernel_rfl) rfl rfl) (s_move  rfl ?_)
  refine l_pure (gd_yes 102 (by kernel_rfl) rfl rfl) (s_move  h9 ?_)
  refine l_pure (gd_yes 102 (by kernel_rfl) rfl rfl) (s_eql  rfl rfl ?_)
  refine l_pure rfl (s_pick (vb rfl rfl) rfl ?_)
  refine l_pure rfl (s_move  rfl ?_)
  refine l_pure (gd_yes 107 (by kernel_rfl) rfl (decide_eq_true rfl)) (s_move  rfl ?_)
  refine l_pure (gd_yes 107 (by kernel_rfl) rfl (decide_eq_true rfl)) (s_move  h9 ?_)
  refine l_pure (gd_yes 107 (by kernel_rfl) rfl (decide_eq_true rfl)) (s_eql  rfl rfl ?_)
  refine l_pure rfl (s_pick (vb rfl (decide_eq_true rfl)) rfl ?_)
  refine l_pure rfl (s_move  rfl ?_)
  refine l_pure (gd_yes 112 (by kernel_rfl) rfl (decide_eq_true rfl)) (s_move  rfl ?_)
  refine l_pure (gd_yes 112 (by kernel_rfl) rfl (decide_eq_true rfl)) (s_eql  rfl rfl ?_)
  refine l_pure rfl (s_pick (vb rfl (decide_eq_true rfl)) rfl ?_)
  refine l_pure rfl (s_move  rfl ?_)
  refine l_pure (gd_yes 116 (by kernel_rfl) rfl (decide_eq_true rfl)) (s_move  rfl ?_)
  refine l_pure (gd_yes 116 (by kernel_rfl) rfl (decide_eq_true rfl)) (s_move  h9 ?_)
  refine l_pure (gd_yes 116 (by kernel_rfl) rfl (decide_eq_true rfl)) (s_eql  rfl rfl ?_)
  refine l_pure rfl (s_pick (vb rfl (decide_eq_true rfl)) rfl ?_)
  refine l_pure rfl (s_move  rfl ?_)
  refine l_pure (gd_yes 121 (by kernel_rfl) rfl (decide_eq_true rfl)) (s_move  rfl ?_)
  refine l_pure (gd_yes 121 (by kernel_rfl) rfl (decide_eq_true rfl)) (s_move  h10 ?_)
  refine l_pure (gd_yes 121 (by kernel_rfl) rfl (decide_eq_true rfl)) (s_eql  rfl rfl ?_)
  refine l_pure rfl (s_pick (vb rfl (decide_eq_true rfl)) rfl ?_)
  refine l_pure rfl (s_move  rfl ?_)
  refine l_pure (gd_yes 126 (by kernel_rfl) rfl (decide_eq_true rfl)) (s_move  rfl ?_)
  refine l_pure (gd_yes 126 (by kernel_rfl) rfl (decide_eq_true rfl)) (s_move  h11 ?_)
  refine l_pure (gd_yes 126 (by kernel_rfl) rfl (decide_eq_true rfl)) (s_eql  rfl rfl ?_)
  refine l_pure rfl (s_pick (vb rfl (decide_eq_true rfl)) rfl ?_)
  refine l_pure rfl (s_move  rfl ?_)
  refine l_pure (gd_yes 131 (by kernel_rfl) rfl (decide_eq_true rfl)) (s_move  rfl ?_)
  refine l_pure (gd_yes 131 (by kernel_rfl) rfl (decide_eq_true rfl)) (s_move  h9 ?_)
  refine l_pure (gd_yes 131 (by kernel_rfl) rfl (decide_eq_true rfl)) (s_eql  rfl rfl ?_)
  refine l_pure rfl (s_pick (vb rfl (decide_eq_true rfl)) rfl ?_)
  refine l_pure rfl (s_asg  rfl ?_)
  refine l_nil ?_
  repeat (with_reducible first | refine c_seq ?_ | refine c_block ?_ | refine c_skip ?_ | refine x_then ?_ | refine x_block ?_)
  refine c_ret ?_
  repeat (with_reducible first | refine x_then_ret ?_ | refine x_block_ret ?_)
  refine r_one rfl rfl ?_
  exact ⟨vb rfl (decide_eq_true rfl), hW.trans (hS.below.mono hW.size)⟩
end Go.Proofs.YtblfipdfklpmmaaDoor
