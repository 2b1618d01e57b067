/-
  The law that a higher price never lowers what a charge receives: its walk.
-/
import Derived.Test.YtdafaibhiobpaabDoorLawCp
namespace Go.Proofs.YtdafaibhiobpaabDoor
open Go Go.RowKit Go.Sx

/-- The item with a higher price. -/
def more (x : It) (b : Nat) : It := ⟨ofQ (toQ x.price + amtQ b), x.costs, x.charges⟩
theorem more_proc (x : It) (b : Nat) : procQ x ≤ procQ (more x b) := by
  have h := amtQ_nonneg b
  unfold procQ more
  simp only [toQ_ofQ]
  have mono : ∀ p q r : Rat, p ≤ q → maxQ p r ≤ maxQ q r := fun p q r h => by unfold maxQ; split <;> split <;> grind
  have h1 := mono (toQ x.price) (toQ x.price + amtQ b) 0 (by grind)
  exact mono _ _ _ (by grind)
theorem more_check {x : It} {owed : List RR} (b : Nat) (h : checkE [x] owed = 0) : checkE [more x b] owed = 0 := by
  obtain ⟨h1, h2, h3, h4, h5⟩ := checkE_zero h
  obtain ⟨a1, a2, a3, a4⟩ := itErr_zero (h4 x List.mem_cons_self)
  unfold checkE
  rw [if_neg (by simp; omega), if_neg (by rw [h3]; decide)]
  refine firstE_none fun y hy => ?_
  rw [List.mem_singleton.1 hy]
  unfold itErr
  have hb := amtQ_nonneg b
  rw [if_neg (by show ¬ 8 < x.charges.length; omega), if_neg (by
    rintro (g | g)
    · exact absurd g (Rat.not_lt.2 (by show 0 ≤ toQ (ofQ (toQ x.price + amtQ b)); rw [toQ_ofQ]; grind))
    · exact absurd g (Rat.not_lt.2 a3))]
  exact firstE_none fun c hc => a4 c hc
theorem more_B {x : It} (b : Nat) (h : ItB 1 [x]) : ItB 3 [more x b] := by
  intro y hy
  rw [List.mem_singleton.1 hy]
  obtain ⟨h1, h2, h3⟩ := h x List.mem_cons_self
  refine ⟨?_, by show Lr x.costs ≤ 3; omega, fun c hc => by have := h3 c hc; omega⟩
  show Lr (ofQ (toQ x.price + amtQ b)) ≤ 3
  rw [Lr_ofQ]
  have a1 := L_add (toQ x.price) (amtQ b)
  have a2 := L_toQ x.price
  have a3 := L_amtQ b
  omega
theorem check_one {X : List It} {owed : List RR} {x : It} (h : checkE X owed = 0) (hx : x ∈ X) : checkE [x] owed = 0 := by
  obtain ⟨h1, h2, h3, h4, h5⟩ := checkE_zero h
  unfold checkE
  rw [if_neg (by simp; omega), if_neg (by rw [h3]; decide)]
  exact firstE_none fun y hy => by rw [List.mem_singleton.1 hy]; exact h4 x hx
theorem B_one {k : Nat} {X : List It} {x : It} (h : ItB k X) (hx : x ∈ X) : ItB k [x] := fun y hy => by rw [List.mem_singleton.1 hy]; exact h x hx
set_option maxHeartbeats 2000000 in
theorem CollateralMore_ok (y : Nat → Nat) (va : Value) (a : List Nat) (b : Nat) (w : World) (hy : ∀ i, i < 6 → y i < 65536) (hb : b < 65536) (ha : Sl (uk .u16) 1 w va a) (hab : ∀ x ∈ a, x < 65536) :
    Ret Tryd.prog 3 #[.agg (enc6 y).toArray, va, .int .u16 b] w fun v w' => v = .bool true ∧ Below w.heap.size w w' := by
  have hM : MX = 1099511627776 := rfl
  have hS := St.init w
  have hm6 : (amts a 6).length ≤ 6 := by rw [amts_len]; omega
  obtain ⟨owed, how⟩ : ∃ l, l = amts a 6 := ⟨_, rfl⟩
  have hoB := amts_RB a 6
  have hck0 := items_check [y] a 4 6 (by decide) (by decide)
  have hIB := items_B [y] (amts a 6).length 4
  rw [← how] at hm6 hoB hck0 hIB
  obtain ⟨x, hx⟩ : ∃ x, x = itOf owed.length y := ⟨_, rfl⟩
  have hXe : itemsL [y] owed.length 4 = [x] := by rw [hx]; rfl
  rw [hXe] at hck0 hIB
  have hck2 := more_check b hck0
  have hIB2 := more_B b hIB
  have hIB3 := ItB_mono hIB (show 1 ≤ 3 by decide)
  have hoB3 := RB_mono hoB (show 1 ≤ 3 by decide)
  obtain ⟨cs, hcs⟩ : ∃ cs, cs = x.charges := ⟨_, rfl⟩
  have hcs2 : (more x b).charges = cs := hcs.symm
  have hok := chok_of hck0 List.mem_cons_self hIB3 hoB3
  rw [← hcs] at hok
  have hn8 := hok.n8
  obtain ⟨P1, hP1⟩ : ∃ P, P = procQ x := ⟨_, rfl⟩
  obtain ⟨P2, hP2⟩ : ∃ P, P = procQ (more x b) := ⟨_, rfl⟩
  have lP1 : L P1 ≤ 2 * 3 + 1 := by
    have h1 := L_proc x
    obtain ⟨q1, q2, _⟩ := hIB3 x List.mem_cons_self
    rw [hP1]; omega
  have lP2 : L P2 ≤ 2 * 3 + 1 := by
    have h1 := L_proc (more x b)
    obtain ⟨q1, q2, _⟩ := hIB2 (more x b) List.mem_cons_self
    rw [hP2]; omega
  have hPle : P1 ≤ P2 := by rw [hP1, hP2]; exact more_proc x b
  obtain ⟨kp, hkp⟩ : ∃ f, f = kapQ cs (owF owed) := ⟨_, rfl⟩
  have hsL1 := fun i => sh_L hok lP1 i
  have hsL2 := fun i => sh_L hok lP2 i
  have hsm := fun i => sh_mono (cs := cs) (kp := kp) (fun j => by rw [hkp]; exact (kap_bound hok j).1) hPle i
  rw [← hkp] at hsL1 hsL2
  have hsh1 := fun vc vo w h1 h2 => Share_own x vc vo owed 3 w h1 h2 hIB3 hoB3 (by rw [hM]; decide) hck0
  have hsh2 := fun vc vo w h1 h2 => Share_own (more x b) vc vo owed 3 w h1 h2 hIB2 hoB3 (by rw [hM]; decide) hck2
  rw [← hcs, ← hP1, ← hkp] at hsh1
  rw [hcs2, ← hP2, ← hkp] at hsh2
  refine enter Tryd.func3 rfl Tryd.ntmps3 rfl ?_
  repeat (with_reducible first | refine c_seq ?_ | refine c_block ?_ | refine c_skip ?_ | refine x_then ?_ | refine x_block ?_)
  refine c_reg ?_
  refine l_heavy rfl (s_box  rfl rfl hS ?_)
  intro b3 wz1 hS hBz1
  refine l_pure rfl (s_asg  rfl ?_)
  refine l_nil ?_
  repeat (with_reducible first | refine c_seq ?_ | refine c_block ?_ | refine c_skip ?_ | refine x_then ?_ | refine x_block ?_)
  replace hS : St w _ [(b3, 23, enc6 y)] := hS
  repeat (with_reducible first | refine c_seq ?_ | refine c_block ?_ | refine c_skip ?_ | refine x_then ?_ | refine x_block ?_)
  refine c_reg ?_
  refine l_pure rfl (s_move  rfl ?_)
  refine l_heavy rfl (s_call Tryd.call4 rfl (Amounts_ok va a 6 _ (ha.below hS.below) hab (by decide)) ?_)
  rintro vo w1 ⟨ho, hB1⟩
  rw [← how] at ho
  have hA3 : At w1 ⟨b3, 0, none⟩ (enc6 y) := by
    have h1 := (hS.grow hB1).at (k := 0) rfl 0 6
    rwa [List.drop_zero, List.take_of_length_le (by rw [enc6_len]; exact Nat.le_refl _)] at h1
  have hW1 := (hS.grow hB1).below
  clear hS
  have hS := St.init w1
  refine l_pure rfl (s_asg  rfl ?_)
  refine l_nil ?_
  repeat (with_reducible first | refine c_seq ?_ | refine c_block ?_ | refine c_skip ?_ | refine x_then ?_ | refine x_block ?_)
  refine c_forget (fun ρ' => ρ' 2 = .int .u16 b ∧ ρ' 3 = .pointer (some ⟨b3, 0, none⟩) ∧ ρ' 7 = vo ∧ True) ⟨rfl, rfl, rfl, trivial⟩ ?_
  rintro ρk2 ⟨hk2_2, hk2_3, hk2_7, -⟩
  repeat (with_reducible first | refine c_seq ?_ | refine c_block ?_ | refine c_skip ?_ | refine x_then ?_ | refine x_block ?_)
  refine c_reg ?_
  refine l_read rfl (s_ld (cs := enc6 y)  hk2_3 vi_23 (hA3.below hS.below) rfl rfl (.inl rfl) ?_)
  refine l_heavy rfl (s_bsl (vs := [.agg (enc6 y).toArray])  rfl si_34 rfl (by decide) (by decide) (by decide) (fun v hv => by rw [List.mem_singleton.1 hv]; rfl) rfl hS ?_)
  intro b20 wz3 hS hBz3
  refine l_pure rfl (s_move  hk2_7 ?_)
  refine l_pure rfl (s_lenr  rfl ho ⟨_, Tryd.underlying25⟩ ?_)
  replace hS : St w1 _ [(b20, 23, [y].flatMap enc6)] := hS
  have hrow := fun (w' : World) (h : St w1 w' [(b20, 23, [y].flatMap enc6)]) => (show Sl enc6 6 w' (.slice (some ⟨b20, 0, none⟩) 1 1) [y] from h.sle (k := 0) (L := [y]) (n := 1) (cap := 1) rfl enc6_len (Nat.le_refl _) (Nat.le_refl _) (by decide))
  refine l_heavy rfl (s_call Tryd.call5 rfl (Items_ok _ [y] owed.length _ (hrow _ hS) (fun z hz => by rw [List.mem_singleton.1 hz]; exact hy) (by omega)) ?_)
  rintro vit w2 ⟨⟨cvs, hI⟩, hB2⟩
  rw [hXe] at hI
  replace ho := ho.below (hS.grow hB2).below
  have hW := bt hW1 (hS.grow hB2).below
  clear hS hrow
  have hS := St.init w2
  obtain ⟨vc, hvc⟩ : ∃ v, v = cvs.getD 0 undef := ⟨_, rfl⟩
  have hch := hI.ch 0 Nat.zero_lt_one
  have hzg := hI.zget (show 0 < [x].length from Nat.zero_lt_one)
  rw [← hvc] at hch hzg
  replace hch : Sl encCh 6 w2 vc cs := by rw [hcs]; exact hch
  obtain ⟨ca, ccap, hvc2, _⟩ := hch.form
  subst hvc2
  have hzl : (List.zip [x] cvs).length = 1 := hI.zlen
  refine l_pure rfl (s_ixr (i := 0)  rfl rfl hI.sl (by omega) (by first | omega | (simp; done) | (simp; omega)) si_32 ?_)
  refine l_read rfl (s_lde (v := aggIt x (.slice ca cs.length ccap)) (i := 0) (zIt, undef)  rfl vi_31 hI.sl (by rw [hzl]; exact Nat.zero_lt_one) rfl (by rw [hzg]; rfl) (.inl rfl) ?_)
  refine l_heavy rfl (s_alloc  vi_31 hS ?_)
  intro b8 wz4 hS hBz4
  refine l_heavy rfl (s_sta (k := 0)  rfl rfl vi_31 hS rfl rfl rfl (Nat.le_of_ble_eq_true rfl) rfl ?_)
  intro wz5 hS
  refine l_nil ?_
  repeat (with_reducible first | refine c_seq ?_ | refine c_block ?_ | refine c_skip ?_ | refine x_then ?_ | refine x_block ?_)
  replace hS : St w2 _ [(b8, 31, encIt (x, .slice ca cs.length ccap))] := hS
  repeat (with_reducible first | refine c_seq ?_ | refine c_block ?_ | refine c_skip ?_ | refine x_then ?_ | refine x_block ?_)
  refine c_forget (fun ρ' => ρ' 2 = .int .u16 b ∧ ρ' 7 = vo ∧ ρ' 8 = .pointer (some ⟨b8, 0, none⟩) ∧ True) ⟨hk2_2, hk2_7, rfl, trivial⟩ ?_
  rintro ρk6 ⟨hk6_2, hk6_7, hk6_8, -⟩
  repeat (with_reducible first | refine c_seq ?_ | refine c_block ?_ | refine c_skip ?_ | refine x_then ?_ | refine x_block ?_)
  refine c_reg ?_
  refine l_read rfl (s_ldo (k := 0)  hk6_8 vi_31 hS rfl rfl rfl (.inl rfl) ?_)
  refine l_heavy rfl (s_alloc  vi_31 hS ?_)
  intro b9 wz7 hS hBz7
  refine l_heavy rfl (s_sta (k := 0)  rfl rfl vi_31 hS rfl rfl rfl (Nat.le_of_ble_eq_true rfl) rfl ?_)
  intro wz8 hS
  refine l_nil ?_
  repeat (with_reducible first | refine c_seq ?_ | refine c_block ?_ | refine c_skip ?_ | refine x_then ?_ | refine x_block ?_)
  replace hS : St w2 _ [(b9, 31, encIt (x, .slice ca cs.length ccap)), (b8, 31, encIt (x, .slice ca cs.length ccap))] := hS
  repeat (with_reducible first | refine c_seq ?_ | refine c_block ?_ | refine c_skip ?_ | refine x_then ?_ | refine x_block ?_)
  refine c_draw [(0, .pure), (1, .read), (2, .pure), (3, .grow), (4, .grow), (5, .pure), (6, .free)] (by kernel_rfl) (by kernel_rfl) hS ?_
  intro wz9 hS hBz9
  refine w_pure rfl rfl (s_fld  hk6_8 fo_31_0 ?_)
  refine w_read rfl rfl (s_ldo (k := 1)  rfl vi_28 hS rfl rfl rfl (.inl rfl) ?_)
  refine w_pure rfl rfl (s_move  hk6_2 ?_)
  refine w_grow rfl rfl (s_call Tryd.call7 rfl (Amount_ok b _ hb) ?_)
  rintro r w3 ⟨rfl, hB3⟩
  refine ⟨hB3, ?_⟩
  replace hS := hS.grow hB3
  refine w_grow rfl rfl (s_call Tryd.call6 rfl (QAdd_ok x.price (ofQ (amtQ b)) _ (by have := (hIB x List.mem_cons_self).1; have := L_amtQ b; rw [Lr_ofQ]; omega)) ?_)
  rintro r w4 ⟨rfl, hB4⟩
  refine ⟨hB4, ?_⟩
  rw [toQ_ofQ]
  replace hS := hS.grow hB4
  refine w_pure rfl rfl (s_fld  rfl fo_31_0 ?_)
  refine w_free rfl rfl (s_sta (k := 0)  rfl rfl vi_28 hS rfl rfl rfl (Nat.le_of_ble_eq_true rfl) rfl ?_)
  intro wz10 hS
  refine w_end ?_
  repeat (with_reducible first | refine c_seq ?_ | refine c_block ?_ | refine c_skip ?_ | refine x_then ?_ | refine x_block ?_)
  replace hS : St w2 _ [(b9, 31, encIt (more x b, .slice ca cs.length ccap)), (b8, 31, encIt (x, .slice ca cs.length ccap))] := hS
  repeat (with_reducible first | refine c_seq ?_ | refine c_block ?_ | refine c_skip ?_ | refine x_then ?_ | refine x_block ?_)
  refine c_forget (fun ρ' => ρ' 7 = vo ∧ ρ' 8 = .pointer (some ⟨b8, 0, none⟩) ∧ ρ' 9 = .pointer (some ⟨b9, 0, none⟩) ∧ True) ⟨hk6_7, hk6_8, rfl, trivial⟩ ?_
  rintro ρk11 ⟨hk11_7, hk11_8, hk11_9, -⟩
  repeat (with_reducible first | refine c_seq ?_ | refine c_block ?_ | refine c_skip ?_ | refine x_then ?_ | refine x_block ?_)
  refine c_reg ?_
  refine l_read rfl (s_ldo (k := 1)  hk11_8 vi_31 hS rfl rfl rfl (.inl rfl) ?_)
  refine l_pure rfl (s_move  hk11_7 ?_)
  refine l_heavy rfl (s_call Tryd.call8 rfl (hsh1 (.slice ca cs.length ccap) vo _ (hch.below hS.below) (ho.below hS.below)) ?_)
  rintro r w5 ⟨b10, rfl, hS5⟩
  replace hS := hS.join hS5
  refine l_pure rfl (s_move  rfl ?_)
  refine l_pure rfl (s_ext  rfl rfl ?_)
  refine l_pure rfl (s_ext  rfl rfl ?_)
  refine l_pure rfl (s_ext  rfl rfl ?_)
  refine l_heavy rfl (s_alloc  vi_28 hS ?_)
  intro b11 wz12 hS hBz12
  refine l_pure rfl (s_asg  rfl ?_)
  refine l_heavy rfl (s_sta (k := 0)  rfl rfl vi_28 hS rfl rfl rfl (Nat.le_of_ble_eq_true rfl) rfl ?_)
  intro wz13 hS
  refine l_pure rfl (s_asg  rfl ?_)
  refine l_nil ?_
  repeat (with_reducible first | refine c_seq ?_ | refine c_block ?_ | refine c_skip ?_ | refine x_then ?_ | refine x_block ?_)
  refine c_forget (fun ρ' => ρ' 7 = vo ∧ ρ' 8 = .pointer (some ⟨b8, 0, none⟩) ∧ ρ' 9 = .pointer (some ⟨b9, 0, none⟩) ∧ ρ' 10 = .slice (some ⟨b10, 0, none⟩) cs.length cs.length ∧ ρ' 12 = .int .i64 0 ∧ True) ⟨hk11_7, hk11_8, hk11_9, rfl, rfl, trivial⟩ ?_
  rintro ρk14 ⟨hk14_7, hk14_8, hk14_9, hk14_10, hk14_12, -⟩
  repeat (with_reducible first | refine c_seq ?_ | refine c_block ?_ | refine c_skip ?_ | refine x_then ?_ | refine x_block ?_)
  refine c_reg ?_
  refine l_read rfl (s_ldo (k := 2)  hk14_9 vi_31 hS rfl rfl rfl (.inl rfl) ?_)
  refine l_pure rfl (s_move  hk14_7 ?_)
  refine l_heavy rfl (s_call Tryd.call8 rfl (hsh2 (.slice ca cs.length ccap) vo _ (hch.below hS.below) (ho.below hS.below)) ?_)
  rintro r w6 ⟨b13, rfl, hS6⟩
  replace hS := hS.join hS6
  refine l_pure rfl (s_move  rfl ?_)
  refine l_pure rfl (s_ext  rfl rfl ?_)
  refine l_pure rfl (s_ext  rfl rfl ?_)
  refine l_pure rfl (s_ext  rfl rfl ?_)
  refine l_heavy rfl (s_alloc  vi_28 hS ?_)
  intro b14 wz15 hS hBz15
  refine l_pure rfl (s_asg  rfl ?_)
  refine l_heavy rfl (s_sta (k := 0)  rfl rfl vi_28 hS rfl rfl rfl (Nat.le_of_ble_eq_true rfl) rfl ?_)
  intro wz16 hS
  refine l_pure rfl (s_asg  rfl ?_)
  refine l_nil ?_
  repeat (with_reducible first | refine c_seq ?_ | refine c_block ?_ | refine c_skip ?_ | refine x_then ?_ | refine x_block ?_)
  refine c_forget (fun ρ' => ρ' 8 = .pointer (some ⟨b8, 0, none⟩) ∧ ρ' 10 = .slice (some ⟨b10, 0, none⟩) cs.length cs.length ∧ ρ' 12 = .int .i64 0 ∧ ρ' 13 = .slice (some ⟨b13, 0, none⟩) cs.length cs.length ∧ ρ' 15 = .int .i64 0 ∧ True) ⟨hk14_8, hk14_10, hk14_12, rfl, rfl, trivial⟩ ?_
  rintro ρk17 ⟨hk17_8, hk17_10, hk17_12, hk17_13, hk17_15, -⟩
  replace hS : St w2 _ [(b14, 28, _), (b13, 28, (tab cs.length fun i => ofQ (shQ cs kp P2 i)).flatMap encR), (b11, 28, _), (b10, 28, (tab cs.length fun i => ofQ (shQ cs kp P1 i)).flatMap encR), (b9, 31, encIt (more x b, .slice ca cs.length ccap)), (b8, 31, encIt (x, .slice ca cs.length ccap))] := hS
  repeat (with_reducible first | refine c_seq ?_ | refine c_block ?_ | refine c_skip ?_ | refine x_then ?_ | refine x_block ?_)
  refine c_reg ?_
  refine l_pure rfl (s_move  hk17_12 ?_)
  refine l_pure rfl (s_neq  rfl rfl ?_)
  refine l_pure rfl (s_move  rfl ?_)
  refine l_pure (gd_yes 49 (by kernel_rfl) rfl (decide_eq_false (fun h => h rfl))) (s_move  hk17_15 ?_)
  refine l_pure (gd_yes 49 (by kernel_rfl) rfl (decide_eq_false (fun h => h rfl))) (s_neq  rfl rfl ?_)
  refine l_pure rfl (s_pick (vb rfl (decide_eq_false (fun h => h rfl))) rfl ?_)
  refine l_pure rfl (s_move  rfl ?_)
  refine l_pure (gd_yes 53 (by kernel_rfl) rfl (decide_eq_false (fun h => h rfl))) (s_move  hk17_10 ?_)
  refine l_pure (gd_yes 53 (by kernel_rfl) rfl (decide_eq_false (fun h => h rfl))) (s_leno  rfl ⟨_, Tryd.underlying25⟩ ?_)
  refine l_pure (gd_yes 53 (by kernel_rfl) rfl (decide_eq_false (fun h => h rfl))) (s_move  hk17_13 ?_)
  refine l_pure (gd_yes 53 (by kernel_rfl) rfl (decide_eq_false (fun h => h rfl))) (s_leno  rfl ⟨_, Tryd.underlying25⟩ ?_)
  refine l_pure (gd_yes 53 (by kernel_rfl) rfl (decide_eq_false (fun h => h rfl))) (s_neq  rfl rfl ?_)
  refine l_pure rfl (s_pick (vb rfl (decide_eq_false (fun h => h rfl))) rfl ?_)
  refine l_pure rfl (s_move  rfl ?_)
  refine l_pure (gd_yes 60 (by kernel_rfl) rfl (decide_eq_false (fun h => h rfl))) (s_move  hk17_10 ?_)
  refine l_pure (gd_yes 60 (by kernel_rfl) rfl (decide_eq_false (fun h => h rfl))) (s_leno  rfl ⟨_, Tryd.underlying25⟩ ?_)
  refine l_pure (gd_yes 60 (by kernel_rfl) rfl (decide_eq_false (fun h => h rfl))) (s_fld  hk17_8 fo_31_2 ?_)
  refine l_read (gd_yes 60 (by kernel_rfl) rfl (decide_eq_false (fun h => h rfl))) (s_ldo (k := 5)  rfl vi_29 hS rfl rfl rfl (.inr rfl) ?_)
  refine l_pure (gd_yes 60 (by kernel_rfl) rfl (decide_eq_false (fun h => h rfl))) (s_lenr  rfl (hch.below hS.below) ⟨_, Tryd.underlying29⟩ ?_)
  refine l_pure (gd_yes 60 (by kernel_rfl) rfl (decide_eq_false (fun h => h rfl))) (s_neq  rfl rfl ?_)
  refine l_pure rfl (s_pick (vb rfl (decide_eq_false (fun h => h rfl))) rfl ?_)
  refine l_nil ?_
  repeat (with_reducible first | refine c_seq ?_ | refine c_block ?_ | refine c_skip ?_ | refine x_then ?_ | refine x_block ?_)
  refine c_no rfl (decide_eq_false (fun h => h rfl)) ?_
  repeat (with_reducible first | refine c_seq ?_ | refine c_block ?_ | refine c_skip ?_ | refine x_then ?_ | refine x_block ?_)
  refine c_reg ?_
  refine l_pure rfl (s_move  hk17_10 ?_)
  refine l_pure rfl (s_leno  rfl ⟨_, Tryd.underlying25⟩ ?_)
  refine l_pure rfl (s_move  rfl ?_)
  refine l_nil ?_
  repeat (with_reducible first | refine c_seq ?_ | refine c_block ?_ | refine c_skip ?_ | refine x_then ?_ | refine x_block ?_)
  replace hS := pick2 hS (i := 3) (j := 1) rfl rfl (by decide)
  refine c_loop (σ := Nat) (fun i ρ w' => i ≤ cs.length ∧ ρ 10 = .slice (some ⟨b10, 0, none⟩) cs.length cs.length ∧ ρ 13 = .slice (some ⟨b13, 0, none⟩) cs.length cs.length ∧ ρ 69 = .int .i64 cs.length ∧ ρ 70 = .int .i64 i ∧
      St w2 w' [(b10, 28, (tab cs.length fun i => ofQ (shQ cs kp P1 i)).flatMap encR), (b13, 28, (tab cs.length fun i => ofQ (shQ cs kp P2 i)).flatMap encR)]) (fun i => cs.length - i) 0
    ⟨Nat.zero_le _, by assumption, by assumption, rfl, rfl, hS⟩ ?_
  clear hS
  rintro i ρ w7 ⟨hi, h10, h13, h69, h70, hS⟩
  have htl1 : (tab cs.length fun i => ofQ (shQ cs kp P1 i)).length = cs.length := tab_len _ _
  have htl2 : (tab cs.length fun i => ofQ (shQ cs kp P2 i)).length = cs.length := tab_len _ _
  repeat (with_reducible first | refine c_seq ?_ | refine c_block ?_ | refine c_skip ?_ | refine x_then ?_ | refine x_block ?_)
  refine c_reg ?_
  refine l_pure rfl (s_lss  h70 h69 ?_)
  refine l_nil ?_
  repeat (with_reducible first | refine c_seq ?_ | refine c_block ?_ | refine c_skip ?_ | refine x_then ?_ | refine x_block ?_)
  by_cases hlt : i < cs.length
  · refine c_yes rfl (decide_eq_true (by omega)) ?_
    repeat (with_reducible first | refine c_seq ?_ | refine c_block ?_ | refine c_skip ?_ | refine x_then ?_ | refine x_block ?_)
    have e1 : (tab cs.length fun i => ofQ (shQ cs kp P1 i)).getD i zRR = ofQ (shQ cs kp P1 i) := tab_get _ _ hlt
    have e2 : (tab cs.length fun i => ofQ (shQ cs kp P2 i)).getD i zRR = ofQ (shQ cs kp P2 i) := tab_get _ _ hlt
    have l1 := hsL1 i
    have l2 := hsL2 i
    have l3 := hsm i
    repeat (with_reducible first | refine c_seq ?_ | refine c_block ?_ | refine c_skip ?_ | refine x_then ?_ | refine x_block ?_)
    refine c_reg ?_
    refine l_pure rfl (s_move  h70 ?_)
    refine l_pure rfl (s_asg  rfl ?_)
    refine l_nil ?_
    repeat (with_reducible first | refine c_seq ?_ | refine c_block ?_ | refine c_skip ?_ | refine x_then ?_ | refine x_block ?_)
    refine c_draw [(0, .pure), (1, .pure), (2, .pure), (3, .read), (4, .pure), (5, .pure), (6, .pure), (7, .read), (8, .grow), (9, .pure)] (by kernel_rfl) (by kernel_rfl) hS ?_
    intro wz18 hS hBz18
    refine w_pure rfl rfl (s_move  h10 ?_)
    refine w_pure rfl rfl (s_move  rfl ?_)
    refine w_pure rfl rfl (s_ixo (i := i)  rfl rfl (by omega) (by first | omega | (simp; done) | (simp; omega)) si_25 ?_)
    refine w_read rfl rfl (s_ldE (k := 0) (i := i) (enc := encR) zRR (fun _ => rfl)  rfl vi_28 hS rfl (by first | omega | simp) (by first | omega | (simp; done) | (simp; omega)) rfl (.inl rfl) ?_)
    refine w_pure rfl rfl (s_move  h13 ?_)
    refine w_pure rfl rfl (s_move  rfl ?_)
    refine w_pure rfl rfl (s_ixo (i := i)  rfl rfl (by omega) (by first | omega | (simp; done) | (simp; omega)) si_25 ?_)
    refine w_read rfl rfl (s_ldE (k := 1) (i := i) (enc := encR) zRR (fun _ => rfl)  rfl vi_28 hS rfl (by first | omega | simp) (by first | omega | (simp; done) | (simp; omega)) rfl (.inl rfl) ?_)
    rw [e1, e2]
    refine w_grow rfl rfl (s_call Tryd.call9 rfl (QCompare_ok (ofQ (shQ cs kp P1 i)) (ofQ (shQ cs kp P2 i)) _ (by rw [Lr_ofQ, Lr_ofQ]; omega)) ?_)
    rintro r w8 ⟨rfl, hB8⟩
    refine ⟨hB8, ?_⟩
    rw [toQ_ofQ, toQ_ofQ]
    replace hS := hS.grow hB8
    refine w_pure rfl rfl (s_gtr  rfl rfl ?_)
    refine w_end ?_
    repeat (with_reducible first | refine c_seq ?_ | refine c_block ?_ | refine c_skip ?_ | refine x_then ?_ | refine x_block ?_)
    refine c_no rfl (decide_eq_false (by unfold cmpQ; split <;> (try split) <;> first | decide | (exfalso; grind))) ?_
    repeat (with_reducible first | refine c_seq ?_ | refine c_block ?_ | refine c_skip ?_ | refine x_then ?_ | refine x_block ?_)
    refine c_reg ?_
    refine l_pure rfl (s_add  h70 rfl (IntWalk.i64_in _ (by omega)) ?_)
    refine l_pure rfl (s_move  rfl ?_)
    refine l_nil ?_
    repeat (with_reducible first | refine c_seq ?_ | refine c_block ?_ | refine c_skip ?_ | refine x_then ?_ | refine x_block ?_)
    exact ⟨i + 1, _, rfl, ⟨hlt, by assumption, by assumption, by assumption, vi rfl (by omega), hS⟩, by omega⟩
  · refine c_no rfl (decide_eq_false (by omega)) ?_
    repeat (with_reducible first | refine c_seq ?_ | refine c_block ?_ | refine c_skip ?_ | refine x_then ?_ | refine x_block ?_)
    refine c_exit ?_
    repeat (with_reducible first | refine x_then_exit ?_ | refine x_block_exit ?_ | refine x_block_pass rfl ?_)
    repeat (with_reducible first | refine c_seq ?_ | refine c_block ?_ | refine c_skip ?_ | refine x_then ?_ | refine x_block ?_)
    refine c_reg ?_
    refine l_heavy rfl (s_call Tryd.call10 rfl (Cawake_ok _) ?_)
    rintro _ wc19 ⟨rfl, hBc19⟩
    replace hS := hS.grow hBc19
    refine l_pure rfl (s_asg  rfl ?_)
    refine l_nil ?_
    repeat (with_reducible first | refine c_seq ?_ | refine c_block ?_ | refine c_skip ?_ | refine x_then ?_ | refine x_block ?_)
    refine c_ret ?_
    repeat (with_reducible first | refine x_then_ret ?_ | refine x_block_ret ?_)
    refine r_one rfl rfl ?_
    exact ⟨rfl, bt hW hS.below⟩
end Go.Proofs.YtdafaibhiobpaabDoor
