/-
  The example of the chapter on collateral: what it comes to, and its walk.
-/
import Derived.Test.YtdafaibhiobpaabGreatDoorLawCf
namespace Go.Proofs.YtdafaibhiobpaabGreatDoor
open Go Go.RowKit Go.Sx

def n100 : Rat := ((100 : Int) : Rat)
def n10 : Rat := ((10 : Int) : Rat)
def n60 : Rat := ((60 : Int) : Rat)
def n120 : Rat := ((120 : Int) : Rat)
def n50 : Rat := ((50 : Int) : Rat)
def n30 : Rat := ((30 : Int) : Rat)
def n0 : Rat := ((0 : Int) : Rat)
def chA : Ch := ⟨0, 1, false, zRR⟩
def chB : Ch := ⟨1, 1, false, zRR⟩
def chC : Ch := ⟨2, 2, false, zRR⟩
def CW : List Ch := [chA, chB, chC]
def XW : It := ⟨ofQ n100, ofQ n10, CW⟩
def OW : List RR := [ofQ n60, ofQ n120, ofQ n50]
def kW (i : Nat) : Rat := if i = 0 then n60 else if i = 1 then n120 else if i = 2 then n50 else 0
theorem owF_OW : owF OW = kW := by
  funext i
  match i with
  | 0 => exact toQ_ofQ n60
  | 1 => exact toQ_ofQ n120
  | 2 => exact toQ_ofQ n50
  | n + 3 => exact toQ_zRR
theorem proc_XW : procQ XW = ((90 : Int) : Rat) := by
  show maxQ (maxQ (toQ (ofQ n100)) 0 - maxQ (toQ (ofQ n10)) 0) 0 = _
  rw [toQ_ofQ, toQ_ofQ]
  decide +kernel
theorem sh_a : shQ CW (kapQ CW kW) ((90 : Int) : Rat) 0 = n30 := by decide +kernel
theorem sh_b : shQ CW (kapQ CW kW) ((90 : Int) : Rat) 1 = n60 := by decide +kernel
theorem sh_c : shQ CW (kapQ CW kW) ((90 : Int) : Rat) 2 = n0 := by decide +kernel
theorem lef_W : lefQ CW (kapQ CW kW) ((90 : Int) : Rat) = n0 := by decide +kernel
theorem chk_W : checkE [XW] OW = 0 := by
  unfold checkE
  rw [if_neg (by decide), if_neg ?_]
  · rw [firstE, if_pos]
    · rfl
    · unfold itErr
      rw [if_neg (by decide), if_neg]
      · decide
      · show ¬ (toQ (ofQ n100) < 0 ∨ toQ (ofQ n10) < 0)
        rw [toQ_ofQ, toQ_ofQ]
        decide +kernel
  · unfold negs OW
    simp only [List.any_cons, List.any_nil, toQ_ofQ]
    decide +kernel
theorem B_W : ItB 1 [XW] ∧ RB 1 OW := by
  constructor
  · intro x hx
    rw [List.mem_singleton.1 hx]
    refine ⟨by show Lr (ofQ n100) ≤ 1; rw [Lr_ofQ]; exact L_small (n := 100) (by decide), by show Lr (ofQ n10) ≤ 1; rw [Lr_ofQ]; exact L_small (n := 10) (by decide), fun c hc => ?_⟩
    have : c.limit = zRR := by
      rcases List.mem_cons.1 hc with rfl | hc
      · rfl
      rcases List.mem_cons.1 hc with rfl | hc
      · rfl
      rw [List.mem_singleton.1 hc]; rfl
    rw [this, Lr_zRR]; exact Nat.le_refl _
  · intro r hr
    rcases List.mem_cons.1 hr with rfl | hr
    · rw [Lr_ofQ]; exact L_small (n := 60) (by decide)
    rcases List.mem_cons.1 hr with rfl | hr
    · rw [Lr_ofQ]; exact L_small (n := 120) (by decide)
    rw [List.mem_singleton.1 hr, Lr_ofQ]; exact L_small (n := 50) (by decide)
theorem tab_W : (tab XW.charges.length fun i => ofQ (shQ XW.charges (kapQ XW.charges (owF OW)) (procQ XW) i)) = [ofQ n30, ofQ n60, ofQ n0] := by
  rw [owF_OW, proc_XW]
  show [ofQ (shQ CW (kapQ CW kW) ((90 : Int) : Rat) 0), ofQ (shQ CW (kapQ CW kW) ((90 : Int) : Rat) 1), ofQ (shQ CW (kapQ CW kW) ((90 : Int) : Rat) 2)] = _
  rw [sh_a, sh_b, sh_c]
theorem lef_XW : lefQ XW.charges (kapQ XW.charges (owF OW)) (procQ XW) = n0 := by rw [owF_OW, proc_XW]; exact lef_W
theorem ShareW_own (vc vo : Value) (w : World) (hch : Sl encCh 6 w vc CW) (ho : Sl encR 3 w vo OW) :
    Ret Tryz.prog 9 #[aggIt XW vc, vo] w fun r w' => ∃ b, r = .tuple #[.slice (some ⟨b, 0, none⟩) 3 3, aggR (ofQ n0), .int .i64 0] ∧ St w w' [(b, 29, [ofQ n30, ofQ n60, ofQ n0].flatMap encR)] := by
  have h := Share_own XW vc vo OW 1 w hch ho B_W.1 B_W.2 (by decide) chk_W
  rw [tab_W, lef_XW] at h
  exact h
theorem built_It3 (p c : RR) (a : Option Addr) (n k : Nat) : Tryz.prog.built 32 [(0, aggR p), (1, aggR c), (2, .slice a n k)] = some #[.bool p.neg, .string p.num, .string p.den, .bool c.neg, .string c.num, .string c.den, .slice a n k] := by kernel_rfl
theorem n100_ok (w : World) : Ret Tryz.prog 33 #[.int .i64 100] w fun v w' => v = aggR (ofQ n100) ∧ Below w.heap.size w w' := QInt_ok 100 w (by decide) (by decide)
theorem n10_ok (w : World) : Ret Tryz.prog 33 #[.int .i64 10] w fun v w' => v = aggR (ofQ n10) ∧ Below w.heap.size w w' := QInt_ok 10 w (by decide) (by decide)
theorem n60_ok (w : World) : Ret Tryz.prog 33 #[.int .i64 60] w fun v w' => v = aggR (ofQ n60) ∧ Below w.heap.size w w' := QInt_ok 60 w (by decide) (by decide)
theorem n120_ok (w : World) : Ret Tryz.prog 33 #[.int .i64 120] w fun v w' => v = aggR (ofQ n120) ∧ Below w.heap.size w w' := QInt_ok 120 w (by decide) (by decide)
theorem n50_ok (w : World) : Ret Tryz.prog 33 #[.int .i64 50] w fun v w' => v = aggR (ofQ n50) ∧ Below w.heap.size w w' := QInt_ok 50 w (by decide) (by decide)
theorem n30_ok (w : World) : Ret Tryz.prog 33 #[.int .i64 30] w fun v w' => v = aggR (ofQ n30) ∧ Below w.heap.size w w' := QInt_ok 30 w (by decide) (by decide)
theorem n0_ok (w : World) : Ret Tryz.prog 33 #[.int .i64 0] w fun v w' => v = aggR (ofQ n0) ∧ Below w.heap.size w w' := QInt_ok 0 w (by decide) (by decide)
/-- What region 2 leaves. -/
theorem rdO {w0 w : World} {H : List Blk} {k b : Nat} {t : TypeId} (hS : St w0 w H) (hk : H[k]? = some (b, t, OW.flatMap encR)) : Sl encR 3 w (.slice (some ⟨b, 0, none⟩) 3 3) OW :=
  hS.sle (k := k) (L := OW) (n := 3) (cap := 3) hk encR_len (Nat.le_refl _) (Nat.le_refl _) (by decide)
theorem rdC {w0 w : World} {H : List Blk} {k b : Nat} {t : TypeId} (hS : St w0 w H) (hk : H[k]? = some (b, t, CW.flatMap encCh)) : Sl encCh 6 w (.slice (some ⟨b, 0, none⟩) 3 3) CW :=
  hS.sle (k := k) (L := CW) (n := 3) (cap := 3) hk encCh_len (Nat.le_refl _) (Nat.le_refl _) (by decide)
set_option maxHeartbeats 1000000 in
theorem Cawake_ok (w : World) : Ret Tryz.prog 15 #[] w fun v w' => v = .bool true ∧ Below w.heap.size w w' := by
  have hM : MX = 1099511627776 := rfl
  have hS := St.init w
  refine enter Tryz.func15 rfl Tryz.ntmps15 rfl ?_
  repeat (with_reducible first | refine c_seq ?_ | refine c_block ?_ | refine c_skip ?_ | refine x_then ?_ | refine x_block ?_)
  refine c_reg ?_
  refine l_pure rfl (s_asg  rfl ?_)
  refine l_nil ?_
  repeat (with_reducible first | refine c_seq ?_ | refine c_block ?_ | refine c_skip ?_ | refine x_then ?_ | refine x_block ?_)
  refine c_reg ?_
  refine l_heavy rfl (s_call Tryz.call33 rfl (n100_ok _) ?_)
  rintro r wa ⟨rfl, hBa⟩
  replace hS := hS.grow hBa
  refine l_heavy rfl (s_call Tryz.call33 rfl (n10_ok _) ?_)
  rintro r wb ⟨rfl, hBb⟩
  replace hS := hS.grow hBb
  refine l_pure rfl (s_build  rfl (built_Ch _ _) ?_)
  refine l_pure rfl (s_build  rfl (built_Ch _ _) ?_)
  refine l_pure rfl (s_build  rfl (built_Ch _ _) ?_)
  refine l_heavy rfl (s_bsl (vs := [.agg (encCh chA).toArray, .agg (encCh chB).toArray, .agg (encCh chC).toArray])  rfl si_30 rfl (by decide) (by decide) (by decide) (by simp [Value.cells, encCh]) rfl hS ?_)
  intro b10 wz1 hS hBz1
  refine l_pure rfl (s_build  rfl (built_It3 _ _ _ _ _) ?_)
  refine l_heavy rfl (s_alloc  vi_32 hS ?_)
  intro b1 wz2 hS hBz2
  refine l_heavy rfl (s_sta (k := 0)  rfl rfl vi_32 hS rfl rfl rfl (Nat.le_of_ble_eq_true rfl) rfl ?_)
  intro wz3 hS
  refine l_nil ?_
  repeat (with_reducible first | refine c_seq ?_ | refine c_block ?_ | refine c_skip ?_ | refine x_then ?_ | refine x_block ?_)
  replace hS : St w _ [(b1, 32, encIt (XW, .slice (some ⟨b10, 0, none⟩) 3 3)), (b10, 38, CW.flatMap encCh)] := hS
  refine c_cut1 (fun ρ w' => ∃ b3 b14, ρ 2 = .slice (some ⟨b14, 0, none⟩) 3 3 ∧ ρ 3 = .pointer (some ⟨b3, 0, none⟩) ∧ ρ 4 = .int .i64 0 ∧ St w w' [(b3, 29, encR (ofQ n0)), (b14, 29, [ofQ n30, ofQ n60, ofQ n0].flatMap encR)]) ?_ ?_
  · repeat (with_reducible first | refine c_seq ?_ | refine c_block ?_ | refine c_skip ?_ | refine x_then ?_ | refine x_block ?_)
    refine c_float 10 [(0, .read), (1, .grow), (2, .grow), (3, .grow), (4, .grow), (5, .grow), (6, .pure), (7, .pure), (8, .pure), (9, .pure), (11, .pure), (12, .free), (13, .pure)] (by kernel_rfl) (by kernel_rfl) hS ?_
    intro wz4 hS hBz4
    refine wx_read (by kernel_rfl) rfl rfl (s_ldo (k := 0)  rfl vi_32 hS rfl rfl rfl (.inl rfl) ?_)
    refine wx_fork rfl rfl ?_ ?_
    · refine w_grow rfl rfl (s_alloc  vi_29 hS ?_)
      intro b3 wz5 hS hBz5
      refine ⟨hBz5, ?_⟩
      refine w_grow rfl rfl (s_call Tryz.call33 rfl (n60_ok _) ?_)
      rintro r wc ⟨rfl, hBc⟩
      refine ⟨hBc, ?_⟩
      replace hS := hS.grow hBc
      refine w_grow rfl rfl (s_call Tryz.call33 rfl (n120_ok _) ?_)
      rintro r wd ⟨rfl, hBd⟩
      refine ⟨hBd, ?_⟩
      replace hS := hS.grow hBd
      refine w_grow rfl rfl (s_call Tryz.call33 rfl (n50_ok _) ?_)
      rintro r we ⟨rfl, hBe⟩
      refine ⟨hBe, ?_⟩
      replace hS := hS.grow hBe
      refine w_grow rfl rfl (s_bsl (vs := [aggR (ofQ n60), aggR (ofQ n120), aggR (ofQ n50)])  rfl si_24 rfl (by decide) (by decide) (by decide) (by simp [Value.cells, aggR]) rfl hS ?_)
      intro b17 wz6 hS hBz6
      refine ⟨hBz6, ?_⟩
      replace hS : St w _ [(b17, 29, OW.flatMap encR), (b3, 29, encR zRR), (b1, 32, encIt (XW, .slice (some ⟨b10, 0, none⟩) 3 3)), (b10, 38, CW.flatMap encCh)] := hS
      refine w_grow rfl rfl (s_call Tryz.call9 rfl (ShareW_own _ _ _ (rdC hS (k := 3) rfl) (rdO hS (k := 0) rfl)) ?_)
      rintro r wf ⟨b14, rfl, hSf⟩
      refine ⟨hSf.below, ?_⟩
      replace hS := hS.join hSf
      refine w_pure rfl rfl (s_move  rfl ?_)
      refine w_pure rfl rfl (s_ext  rfl rfl ?_)
      refine w_pure rfl rfl (s_ext  rfl rfl ?_)
      refine w_pure rfl rfl (s_ext  rfl rfl ?_)
      refine w_pure rfl rfl (s_asg  rfl ?_)
      refine w_free rfl rfl (s_sta (k := 2)  rfl rfl vi_29 hS rfl rfl rfl (Nat.le_of_ble_eq_true rfl) rfl ?_)
      intro wz7 hS
      refine w_pure rfl rfl (s_asg  rfl ?_)
      refine w_end ?_
      repeat (with_reducible first | refine c_seq ?_ | refine c_block ?_ | refine c_skip ?_ | refine x_then ?_ | refine x_block ?_)
      exact ⟨_, rfl, b3, b14, rfl, rfl, rfl, pick2 hS (i := 2) (j := 0) rfl rfl (by decide)⟩
    refine s_call Tryz.call33 rfl (n60_ok _) ?_
    rintro r wc ⟨rfl, hBc⟩
    refine ⟨hBc, ?_⟩
    replace hS := hS.grow hBc
    refine wx_fork rfl rfl ?_ ?_
    · refine w_grow rfl rfl (s_alloc  vi_29 hS ?_)
      intro b3 wz8 hS hBz8
      refine ⟨hBz8, ?_⟩
      refine w_grow rfl rfl (s_call Tryz.call33 rfl (n120_ok _) ?_)
      rintro r wd ⟨rfl, hBd⟩
      refine ⟨hBd, ?_⟩
      replace hS := hS.grow hBd
      refine w_grow rfl rfl (s_call Tryz.call33 rfl (n50_ok _) ?_)
      rintro r we ⟨rfl, hBe⟩
      refine ⟨hBe, ?_⟩
      replace hS := hS.grow hBe
      refine w_grow rfl rfl (s_bsl (vs := [aggR (ofQ n60), aggR (ofQ n120), aggR (ofQ n50)])  rfl si_24 rfl (by decide) (by decide) (by decide) (by simp [Value.cells, aggR]) rfl hS ?_)
      intro b17 wz9 hS hBz9
      refine ⟨hBz9, ?_⟩
      replace hS : St w _ [(b17, 29, OW.flatMap encR), (b3, 29, encR zRR), (b1, 32, encIt (XW, .slice (some ⟨b10, 0, none⟩) 3 3)), (b10, 38, CW.flatMap encCh)] := hS
      refine w_grow rfl rfl (s_call Tryz.call9 rfl (ShareW_own _ _ _ (rdC hS (k := 3) rfl) (rdO hS (k := 0) rfl)) ?_)
      rintro r wf ⟨b14, rfl, hSf⟩
      refine ⟨hSf.below, ?_⟩
      replace hS := hS.join hSf
      refine w_pure rfl rfl (s_move  rfl ?_)
      refine w_pure rfl rfl (s_ext  rfl rfl ?_)
      refine w_pure rfl rfl (s_ext  rfl rfl ?_)
      refine w_pure rfl rfl (s_ext  rfl rfl ?_)
      refine w_pure rfl rfl (s_asg  rfl ?_)
      refine w_free rfl rfl (s_sta (k := 2)  rfl rfl vi_29 hS rfl rfl rfl (Nat.le_of_ble_eq_true rfl) rfl ?_)
      intro wz10 hS
      refine w_pure rfl rfl (s_asg  rfl ?_)
      refine w_end ?_
      repeat (with_reducible first | refine c_seq ?_ | refine c_block ?_ | refine c_skip ?_ | refine x_then ?_ | refine x_block ?_)
      exact ⟨_, rfl, b3, b14, rfl, rfl, rfl, pick2 hS (i := 2) (j := 0) rfl rfl (by decide)⟩
    refine s_call Tryz.call33 rfl (n120_ok _) ?_
    rintro r wd ⟨rfl, hBd⟩
    refine ⟨hBd, ?_⟩
    replace hS := hS.grow hBd
    refine wx_fork rfl rfl ?_ ?_
    · refine w_grow rfl rfl (s_alloc  vi_29 hS ?_)
      intro b3 wz11 hS hBz11
      refine ⟨hBz11, ?_⟩
      refine w_grow rfl rfl (s_call Tryz.call33 rfl (n50_ok _) ?_)
      rintro r we ⟨rfl, hBe⟩
      refine ⟨hBe, ?_⟩
      replace hS := hS.grow hBe
      refine w_grow rfl rfl (s_bsl (vs := [aggR (ofQ n60), aggR (ofQ n120), aggR (ofQ n50)])  rfl si_24 rfl (by decide) (by decide) (by decide) (by simp [Value.cells, aggR]) rfl hS ?_)
      intro b17 wz12 hS hBz12
      refine ⟨hBz12, ?_⟩
      replace hS : St w _ [(b17, 29, OW.flatMap encR), (b3, 29, encR zRR), (b1, 32, encIt (XW, .slice (some ⟨b10, 0, none⟩) 3 3)), (b10, 38, CW.flatMap encCh)] := hS
      refine w_grow rfl rfl (s_call Tryz.call9 rfl (ShareW_own _ _ _ (rdC hS (k := 3) rfl) (rdO hS (k := 0) rfl)) ?_)
      rintro r wf ⟨b14, rfl, hSf⟩
      refine ⟨hSf.below, ?_⟩
      replace hS := hS.join hSf
      refine w_pure rfl rfl (s_move  rfl ?_)
      refine w_pure rfl rfl (s_ext  rfl rfl ?_)
      refine w_pure rfl rfl (s_ext  rfl rfl ?_)
      refine w_pure rfl rfl (s_ext  rfl rfl ?_)
      refine w_pure rfl rfl (s_asg  rfl ?_)
      refine w_free rfl rfl (s_sta (k := 2)  rfl rfl vi_29 hS rfl rfl rfl (Nat.le_of_ble_eq_true rfl) rfl ?_)
      intro wz13 hS
      refine w_pure rfl rfl (s_asg  rfl ?_)
      refine w_end ?_
      repeat (with_reducible first | refine c_seq ?_ | refine c_block ?_ | refine c_skip ?_ | refine x_then ?_ | refine x_block ?_)
      exact ⟨_, rfl, b3, b14, rfl, rfl, rfl, pick2 hS (i := 2) (j := 0) rfl rfl (by decide)⟩
    refine s_call Tryz.call33 rfl (n50_ok _) ?_
    rintro r we ⟨rfl, hBe⟩
    refine ⟨hBe, ?_⟩
    replace hS := hS.grow hBe
    refine wx_fork rfl rfl ?_ ?_
    · refine w_grow rfl rfl (s_alloc  vi_29 hS ?_)
      intro b3 wz14 hS hBz14
      refine ⟨hBz14, ?_⟩
      refine w_grow rfl rfl (s_bsl (vs := [aggR (ofQ n60), aggR (ofQ n120), aggR (ofQ n50)])  rfl si_24 rfl (by decide) (by decide) (by decide) (by simp [Value.cells, aggR]) rfl hS ?_)
      intro b17 wz15 hS hBz15
      refine ⟨hBz15, ?_⟩
      replace hS : St w _ [(b17, 29, OW.flatMap encR), (b3, 29, encR zRR), (b1, 32, encIt (XW, .slice (some ⟨b10, 0, none⟩) 3 3)), (b10, 38, CW.flatMap encCh)] := hS
      refine w_grow rfl rfl (s_call Tryz.call9 rfl (ShareW_own _ _ _ (rdC hS (k := 3) rfl) (rdO hS (k := 0) rfl)) ?_)
      rintro r wf ⟨b14, rfl, hSf⟩
      refine ⟨hSf.below, ?_⟩
      replace hS := hS.join hSf
      refine w_pure rfl rfl (s_move  rfl ?_)
      refine w_pure rfl rfl (s_ext  rfl rfl ?_)
      refine w_pure rfl rfl (s_ext  rfl rfl ?_)
      refine w_pure rfl rfl (s_ext  rfl rfl ?_)
      refine w_pure rfl rfl (s_asg  rfl ?_)
      refine w_free rfl rfl (s_sta (k := 2)  rfl rfl vi_29 hS rfl rfl rfl (Nat.le_of_ble_eq_true rfl) rfl ?_)
      intro wz16 hS
      refine w_pure rfl rfl (s_asg  rfl ?_)
      refine w_end ?_
      repeat (with_reducible first | refine c_seq ?_ | refine c_block ?_ | refine c_skip ?_ | refine x_then ?_ | refine x_block ?_)
      exact ⟨_, rfl, b3, b14, rfl, rfl, rfl, pick2 hS (i := 2) (j := 0) rfl rfl (by decide)⟩
    refine s_bsl (vs := [aggR (ofQ n60), aggR (ofQ n120), aggR (ofQ n50)])  rfl si_24 rfl (by decide) (by decide) (by decide) (by simp [Value.cells, aggR]) rfl hS ?_
    intro b17 wz17 hS hBz17
    refine ⟨hBz17, ?_⟩
    replace hS : St w _ [(b17, 29, OW.flatMap encR), (b1, 32, encIt (XW, .slice (some ⟨b10, 0, none⟩) 3 3)), (b10, 38, CW.flatMap encCh)] := hS
    refine wx_fork rfl rfl ?_ ?_
    · refine w_grow rfl rfl (s_alloc  vi_29 hS ?_)
      intro b3 wz18 hS hBz18
      refine ⟨hBz18, ?_⟩
      replace hS : St w _ [(b3, 29, encR zRR), (b17, 29, OW.flatMap encR), (b1, 32, encIt (XW, .slice (some ⟨b10, 0, none⟩) 3 3)), (b10, 38, CW.flatMap encCh)] := hS
      refine w_grow rfl rfl (s_call Tryz.call9 rfl (ShareW_own _ _ _ (rdC hS (k := 3) rfl) (rdO hS (k := 1) rfl)) ?_)
      rintro r wf ⟨b14, rfl, hSf⟩
      refine ⟨hSf.below, ?_⟩
      replace hS := hS.join hSf
      refine w_pure rfl rfl (s_move  rfl ?_)
      refine w_pure rfl rfl (s_ext  rfl rfl ?_)
      refine w_pure rfl rfl (s_ext  rfl rfl ?_)
      refine w_pure rfl rfl (s_ext  rfl rfl ?_)
      refine w_pure rfl rfl (s_asg  rfl ?_)
      refine w_free rfl rfl (s_sta (k := 1)  rfl rfl vi_29 hS rfl rfl rfl (Nat.le_of_ble_eq_true rfl) rfl ?_)
      intro wz19 hS
      refine w_pure rfl rfl (s_asg  rfl ?_)
      refine w_end ?_
      repeat (with_reducible first | refine c_seq ?_ | refine c_block ?_ | refine c_skip ?_ | refine x_then ?_ | refine x_block ?_)
      exact ⟨_, rfl, b3, b14, rfl, rfl, rfl, pick2 hS (i := 1) (j := 0) rfl rfl (by decide)⟩
    refine s_call Tryz.call9 rfl (ShareW_own _ _ _ (rdC hS (k := 2) rfl) (rdO hS (k := 0) rfl)) ?_
    rintro r wf ⟨b14, rfl, hSf⟩
    refine ⟨hSf.below, ?_⟩
    replace hS := hS.join hSf
    refine wx_pure (by kernel_rfl) rfl rfl (s_move  rfl ?_)
    refine wx_pure (by kernel_rfl) rfl rfl (s_ext  rfl rfl ?_)
    refine wx_pure (by kernel_rfl) rfl rfl (s_ext  rfl rfl ?_)
    refine wx_pure (by kernel_rfl) rfl rfl (s_ext  rfl rfl ?_)
    refine wx_now (by kernel_rfl) ?_
    refine w_grow rfl rfl (s_alloc  vi_29 hS ?_)
    intro b3 wz20 hS hBz20
    refine ⟨hBz20, ?_⟩
    refine w_pure rfl rfl (s_asg  rfl ?_)
    refine w_free rfl rfl (s_sta (k := 0)  rfl rfl vi_29 hS rfl rfl rfl (Nat.le_of_ble_eq_true rfl) rfl ?_)
    intro wz21 hS
    refine w_pure rfl rfl (s_asg  rfl ?_)
    refine w_end ?_
    repeat (with_reducible first | refine c_seq ?_ | refine c_block ?_ | refine c_skip ?_ | refine x_then ?_ | refine x_block ?_)
    exact ⟨_, rfl, b3, b14, rfl, rfl, rfl, pick2 hS (i := 0) (j := 1) rfl rfl (by decide)⟩
  clear hS
  rintro ρ w2 ⟨b3, b14, h2, h3, h4, hS⟩
  repeat (with_reducible first | refine c_seq ?_ | refine c_block ?_ | refine c_skip ?_ | refine x_then ?_ | refine x_block ?_)
  refine c_drawM [0, 1, 3, 7, 15, 31, 63, 127, 255, 511, 1023, 255, 4095, 8191, 16383, 32767, 65535, 131071, 32767, 524287, 1048575, 2097151, 4194303, 8388607, 16777215, 4194303, 67108863, 134217727, 268435455, 536870911, 536870911, 2147483647, 4294967295, 8589934591] [(0, .pure), (1, .pure), (2, .pure), (3, .pure), (4, .pure), (5, .pure), (6, .pure), (7, .pure), (8, .pure), (9, .pure), (10, .read), (11, .grow), (12, .pure), (13, .pure), (14, .pure), (15, .pure), (16, .pure), (17, .read), (18, .grow), (19, .pure), (20, .pure), (21, .pure), (22, .pure), (23, .pure), (24, .read), (25, .grow), (26, .pure), (27, .pure), (28, .pure), (29, .read), (30, .grow), (31, .pure), (32, .pure), (33, .pure)] (by kernel_rfl) (by kernel_rfl) hS ?_
  intro wz22 hS hBz22
  refine w_pure rfl rfl (s_move  h4 ?_)
  refine w_pure rfl rfl (s_eql  rfl rfl ?_)
  refine w_pure rfl rfl (s_move  rfl ?_)
  refine w_pure rfl (gd_yes 24 (by kernel_rfl) rfl rfl) (s_move  h2 ?_)
  refine w_pure rfl (gd_yes 24 (by kernel_rfl) rfl rfl) (s_leno  rfl ⟨_, Tryz.underlying24⟩ ?_)
  refine w_pure rfl (gd_yes 24 (by kernel_rfl) rfl rfl) (s_eql  rfl rfl ?_)
  refine w_pure rfl rfl (s_pick (vb rfl rfl) rfl ?_)
  refine w_pure rfl rfl (s_move  rfl ?_)
  refine w_pure rfl (gd_yes 29 (by kernel_rfl) rfl rfl) (s_move  h2 ?_)
  refine w_pure rfl (gd_yes 29 (by kernel_rfl) rfl rfl) (s_ixo (i := 0)  rfl rfl (by omega) (by first | omega | (simp; done) | (simp; omega)) si_24 ?_)
  refine w_read rfl (gd_yes 29 (by kernel_rfl) rfl rfl) (s_ldE (k := 1) (i := 0) (enc := encR) zRR (fun _ => rfl)  rfl vi_29 hS rfl (by first | omega | simp) (by first | omega | (simp; done) | (simp; omega)) rfl (.inl rfl) ?_)
  refine w_grow rfl (gd_yes 29 (by kernel_rfl) rfl rfl) (s_call Tryz.call33 rfl (n30_ok _) ?_)
  rintro r w5 ⟨rfl, hB5⟩
  refine ⟨hB5, ?_⟩
  replace hS := hS.grow hB5
  refine w_pure rfl (gd_yes 29 (by kernel_rfl) rfl rfl) (s_eqR  rfl rfl ?_)
  refine w_pure rfl rfl (s_pick (vb rfl rfl) rfl ?_)
  refine w_pure rfl rfl (s_move  rfl ?_)
  refine w_pure rfl (gd_yes 36 (by kernel_rfl) rfl (decide_eq_true rfl)) (s_move  h2 ?_)
  refine w_pure rfl (gd_yes 36 (by kernel_rfl) rfl (decide_eq_true rfl)) (s_ixo (i := 1)  rfl rfl (by omega) (by first | omega | (simp; done) | (simp; omega)) si_24 ?_)
  refine w_read rfl (gd_yes 36 (by kernel_rfl) rfl (decide_eq_true rfl)) (s_ldE (k := 1) (i := 1) (enc := encR) zRR (fun _ => rfl)  rfl vi_29 hS rfl (by first | omega | simp) (by first | omega | (simp; done) | (simp; omega)) rfl (.inl rfl) ?_)
  refine w_grow rfl (gd_yes 36 (by kernel_rfl) rfl (decide_eq_true rfl)) (s_call Tryz.call33 rfl (n60_ok _) ?_)
  rintro r w6 ⟨rfl, hB6⟩
  refine ⟨hB6, ?_⟩
  replace hS := hS.grow hB6
  refine w_pure rfl (gd_yes 36 (by kernel_rfl) rfl (decide_eq_true rfl)) (s_eqR  rfl rfl ?_)
  refine w_pure rfl rfl (s_pick (vb rfl (decide_eq_true rfl)) rfl ?_)
  refine w_pure rfl rfl (s_move  rfl ?_)
  refine w_pure rfl (gd_yes 43 (by kernel_rfl) rfl (decide_eq_true rfl)) (s_move  h2 ?_)
  refine w_pure rfl (gd_yes 43 (by kernel_rfl) rfl (decide_eq_true rfl)) (s_ixo (i := 2)  rfl rfl (by omega) (by first | omega | (simp; done) | (simp; omega)) si_24 ?_)
  refine w_read rfl (gd_yes 43 (by kernel_rfl) rfl (decide_eq_true rfl)) (s_ldE (k := 1) (i := 2) (enc := encR) zRR (fun _ => rfl)  rfl vi_29 hS rfl (by first | omega | simp) (by first | omega | (simp; done) | (simp; omega)) rfl (.inl rfl) ?_)
  refine w_grow rfl (gd_yes 43 (by kernel_rfl) rfl (decide_eq_true rfl)) (s_call Tryz.call33 rfl (n0_ok _) ?_)
  rintro r w7 ⟨rfl, hB7⟩
  refine ⟨hB7, ?_⟩
  replace hS := hS.grow hB7
  refine w_pure rfl (gd_yes 43 (by kernel_rfl) rfl (decide_eq_true rfl)) (s_eqR  rfl rfl ?_)
  refine w_pure rfl rfl (s_pick (vb rfl (decide_eq_true rfl)) rfl ?_)
  refine w_pure rfl rfl (s_move  rfl ?_)
  refine w_read rfl (gd_yes 50 (by kernel_rfl) rfl (decide_eq_true rfl)) (s_ldo (k := 0)  h3 vi_29 hS rfl rfl rfl (.inl rfl) ?_)
  refine w_grow rfl (gd_yes 50 (by kernel_rfl) rfl (decide_eq_true rfl)) (s_call Tryz.call33 rfl (n0_ok _) ?_)
  rintro r w8 ⟨rfl, hB8⟩
  refine ⟨hB8, ?_⟩
  replace hS := hS.grow hB8
  refine w_pure rfl (gd_yes 50 (by kernel_rfl) rfl (decide_eq_true rfl)) (s_eqR  rfl rfl ?_)
  refine w_pure rfl rfl (s_pick (vb rfl (decide_eq_true rfl)) rfl ?_)
  refine w_pure rfl rfl (s_asg  rfl ?_)
  refine w_end ?_
  repeat (with_reducible first | refine c_seq ?_ | refine c_block ?_ | refine c_skip ?_ | refine x_then ?_ | refine x_block ?_)
  refine c_ret ?_
  repeat (with_reducible first | refine x_then_ret ?_ | refine x_block_ret ?_)
  refine r_one rfl rfl ?_
  exact ⟨vb rfl (decide_eq_true rfl), hS.below⟩
end Go.Proofs.YtdafaibhiobpaabGreatDoor
