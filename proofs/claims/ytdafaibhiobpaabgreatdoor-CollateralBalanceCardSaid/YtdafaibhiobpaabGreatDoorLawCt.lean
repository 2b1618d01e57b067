/-
  The law of what charges receive in all: its walk.
-/
import Derived.Test.YtdafaibhiobpaabGreatDoorLawCs
namespace Go.Proofs.YtdafaibhiobpaabGreatDoor
open Go Go.RowKit Go.Sx

/-- What claim c has received from the first k charges. -/
def gotQ (cs : List Ch) (f : Nat → Rat) (k c : Nat) : Rat := totS f ((List.range k).filter fun i => decide (clm cs i = c))
theorem gotQ_succ (cs : List Ch) (f : Nat → Rat) (k c : Nat) : gotQ cs f (k + 1) c = if clm cs k = c then gotQ cs f k c + f k else gotQ cs f k c := by
  unfold gotQ
  rw [List.range_succ, List.filter_append]
  by_cases e : clm cs k = c
  · rw [if_pos e, List.filter_cons_of_pos (by simp [e]), List.filter_nil, totS_snoc]
  · rw [if_neg e, List.filter_cons_of_neg (by simp [e]), List.filter_nil, List.append_nil]
theorem gotQ_L {cs : List Ch} {f : Nat → Rat} {B : Nat} (h : ∀ i, L (f i) ≤ B) {k : Nat} (hk : k ≤ 8) (c : Nat) : L (gotQ cs f k c) ≤ 8 * (B + 1) + 1 := by
  have h1 := L_totS (q := f) (J := (List.range k).filter fun i => decide (clm cs i = c)) (K := B) fun i _ => h i
  have h2 := List.length_filter_le (fun i => decide (clm cs i = c)) (List.range k)
  rw [List.length_range] at h2
  have h3 : ((List.range k).filter fun i => decide (clm cs i = c)).length * (B + 1) ≤ 8 * (B + 1) := Nat.mul_le_mul_right _ (by omega)
  unfold gotQ
  omega
set_option maxHeartbeats 4000000 in
theorem CollateralBalance_ok (vl va : Value) (l : List (Nat → Nat)) (a : List Nat) (w : World) (hl : Sl enc6 6 w vl l) (hlb : ∀ x ∈ l, ∀ i, i < 6 → x i < 65536) (ha : Sl (uk .u16) 1 w va a) (hab : ∀ x ∈ a, x < 65536) :
    Ret Tryz.prog 3 #[vl, va] w fun v w' => v = .bool true ∧ Below w.heap.size w w' := by
  have hM : MX = 1099511627776 := rfl
  have hS := St.init w
  have hm6 : (amts a 6).length ≤ 6 := by rw [amts_len]; omega
  obtain ⟨owed, how⟩ : ∃ o, o = amts a 6 := ⟨_, rfl⟩
  obtain ⟨X, hXe⟩ : ∃ X, X = itemsL l owed.length 4 := ⟨_, rfl⟩
  have hck := items_check l a 4 6 (by decide) (by decide)
  have hIB := items_B l (amts a 6).length 4
  have hoB := amts_RB a 6
  rw [← how] at hck hIB hoB hm6
  rw [← hXe] at hck hIB
  have hX4 : X.length ≤ 4 := by rw [hXe, itemsL_len]; omega
  refine enter Tryz.func3 rfl Tryz.ntmps3 rfl ?_
  repeat (with_reducible first | refine c_seq ?_ | refine c_block ?_ | refine c_skip ?_ | refine x_then ?_ | refine x_block ?_)
  refine c_reg ?_
  refine l_pure rfl (s_asg  rfl ?_)
  refine l_nil ?_
  repeat (with_reducible first | refine c_seq ?_ | refine c_block ?_ | refine c_skip ?_ | refine x_then ?_ | refine x_block ?_)
  refine c_reg ?_
  refine l_pure rfl (s_move  rfl ?_)
  refine l_heavy rfl (s_call Tryz.call7 rfl (Amounts_ok va a 6 _ (ha.below hS.below) hab (by decide)) ?_)
  rintro vo w1 ⟨ho, hB1⟩
  rw [← how] at ho
  replace hS := hS.grow hB1
  refine l_pure rfl (s_asg  rfl ?_)
  refine l_nil ?_
  repeat (with_reducible first | refine c_seq ?_ | refine c_block ?_ | refine c_skip ?_ | refine x_then ?_ | refine x_block ?_)
  refine c_forget (fun ρ' => ρ' 0 = vl ∧ ρ' 5 = vo ∧ True) ⟨rfl, rfl, trivial⟩ ?_
  rintro ρk1 ⟨hk1_0, hk1_5, -⟩
  repeat (with_reducible first | refine c_seq ?_ | refine c_block ?_ | refine c_skip ?_ | refine x_then ?_ | refine x_block ?_)
  refine c_reg ?_
  refine l_pure rfl (s_move  hk1_0 ?_)
  refine l_pure rfl (s_move  hk1_5 ?_)
  refine l_pure rfl (s_lenr  rfl ho ⟨_, Tryz.underlying24⟩ ?_)
  refine l_heavy rfl (s_call Tryz.call8 rfl (Items_ok vl l owed.length _ (hl.below hS.below) hlb (by omega)) ?_)
  rintro vit w2 ⟨⟨cvs, hI⟩, hB2⟩
  rw [← hXe] at hI
  replace ho := ho.below hB2
  have hW := (hS.grow hB2).below
  clear hS
  have hS := St.init w2
  refine l_pure rfl (s_asg  rfl ?_)
  refine l_nil ?_
  repeat (with_reducible first | refine c_seq ?_ | refine c_block ?_ | refine c_skip ?_ | refine x_then ?_ | refine x_block ?_)
  refine c_forget (fun ρ' => ρ' 5 = vo ∧ ρ' 6 = vit ∧ True) ⟨hk1_5, rfl, trivial⟩ ?_
  rintro ρk2 ⟨hk2_5, hk2_6, -⟩
  have hzl := hI.zlen
  repeat (with_reducible first | refine c_seq ?_ | refine c_block ?_ | refine c_skip ?_ | refine x_then ?_ | refine x_block ?_)
  refine c_reg ?_
  refine l_pure rfl (s_move  hk2_6 ?_)
  refine l_pure rfl (s_lenr  rfl hI.sl ⟨_, Tryz.underlying26⟩ ?_)
  refine l_pure rfl (s_move  rfl ?_)
  refine l_nil ?_
  repeat (with_reducible first | refine c_seq ?_ | refine c_block ?_ | refine c_skip ?_ | refine x_then ?_ | refine x_block ?_)
  refine c_loop (σ := Nat) (fun i ρ w' => i ≤ X.length ∧ ρ 5 = vo ∧ ρ 22 = vit ∧ ρ 23 = .int .i64 X.length ∧ ρ 24 = .int .i64 i ∧ St w2 w' []) (fun i => X.length - i) 0
    ⟨Nat.zero_le _, by assumption, rfl, vi rfl (by rw [hzl]), rfl, hS⟩ ?_
  clear hS
  rintro i ρ w3 ⟨hi, h5, h22, h23, h24, hS⟩
  repeat (with_reducible first | refine c_seq ?_ | refine c_block ?_ | refine c_skip ?_ | refine x_then ?_ | refine x_block ?_)
  refine c_reg ?_
  refine l_pure rfl (s_lss  h24 h23 ?_)
  refine l_nil ?_
  repeat (with_reducible first | refine c_seq ?_ | refine c_block ?_ | refine c_skip ?_ | refine x_then ?_ | refine x_block ?_)
  by_cases hlt : i < X.length
  · refine c_yes rfl (decide_eq_true (by omega)) ?_
    repeat (with_reducible first | refine c_seq ?_ | refine c_block ?_ | refine c_skip ?_ | refine x_then ?_ | refine x_block ?_)
    obtain ⟨x, hx⟩ : ∃ x, x = X.getD i zIt := ⟨_, rfl⟩
    obtain ⟨vc, hvc⟩ : ∃ v, v = cvs.getD i undef := ⟨_, rfl⟩
    have hxX : x ∈ X := by rw [hx]; exact getD_mem X i zIt hlt
    have hch := hI.ch i hlt
    have hzg := hI.zget hlt
    rw [← hx, ← hvc] at hch hzg
    obtain ⟨cs, hcs⟩ : ∃ cs, cs = x.charges := ⟨_, rfl⟩
    rw [← hcs] at hch
    have hc1 := check_one hck hxX
    have hB1 := B_one hIB hxX
    have hok := chok_of hc1 List.mem_cons_self hB1 hoB
    rw [← hcs] at hok
    have hn8 := hok.n8
    obtain ⟨P, hP⟩ : ∃ P, P = procQ x := ⟨_, rfl⟩
    obtain ⟨q1, q2, q3⟩ := hIB x hxX
    have lP : L P ≤ 2 * 1 + 1 := by have h1 := L_proc x; rw [hP]; omega
    have hP0 : 0 ≤ P := by rw [hP]; unfold procQ maxQ; split <;> grind
    have hkb := fun j => kap_bound hok j
    have hkl := fun j h1 h2 => kap_lim cs (owF owed) (i := j) h1 h2
    have hlL := fun j (hj : j < cs.length) => hok.lB j hj
    have hsL := fun j => sh_L hok lP j
    have hlfL := lef_L hok lP
    have hcl := fun c hc => sh_claim hok P (c := c) hc
    have hsm := share_sum (cs := cs) (kp := kapQ cs (owF owed)) (fun j => (hkb j).1) hP0
    have hsh1 := fun v1 v2 w h1 h2 => Share_own x v1 v2 owed 1 w h1 h2 hB1 hoB (by rw [hM]; decide) hc1
    have hpr := fun a' n' c' w => Proceeds_ok x a' n' c' w (by omega)
    rw [← hP] at hpr
    rw [← hcs, ← hP] at hsh1
    obtain ⟨kp, hkp⟩ : ∃ f, f = kapQ cs (owF owed) := ⟨_, rfl⟩
    rw [← hkp] at hsm hsL hlfL hsh1 hkb
    have hs0 := fun j => sh_nonneg (cs := cs) (kp := kp) (fun j => (hkb j).1) P j
    have hsk := fun j => sh_le (cs := cs) (kp := kp) (fun j => (hkb j).1) P j
    obtain ⟨sh, hsh⟩ : ∃ f, f = shQ cs kp P := ⟨_, rfl⟩
    obtain ⟨lf, hlf⟩ : ∃ q, q = lefQ cs kp P := ⟨_, rfl⟩
    have hlf0 : 0 ≤ lf := by rw [hlf]; unfold lefQ maxQ; split <;> grind
    rw [← hsh, ← hlf] at hsm
    rw [← hlf] at hlfL
    have hgot : ∀ c, c < owed.length → gotQ cs sh cs.length c ≤ owF owed c := fun c hc => by
      have := hcl c hc
      rw [hsh, hkp]; exact this
    obtain ⟨ca, ccap, hvc2, _⟩ := hch.form
    subst hvc2
    repeat (with_reducible first | refine c_seq ?_ | refine c_block ?_ | refine c_skip ?_ | refine x_then ?_ | refine x_block ?_)
    refine c_reg ?_
    refine l_pure rfl (s_ixr (i := i)  h22 h24 (hI.sl.below hS.below) (by omega) (by first | omega | (simp; done) | (simp; omega)) si_26 ?_)
    refine l_read rfl (s_lde (v := aggIt x (.slice ca cs.length ccap)) (i := i) (zIt, undef)  rfl vi_32 (hI.sl.below hS.below) (by omega) rfl (by rw [hzg]; rfl) (.inl rfl) ?_)
    refine l_heavy rfl (s_alloc  vi_32 hS ?_)
    intro b8 wz3 hS hBz3
    refine l_heavy rfl (s_sta (k := 0)  rfl rfl vi_32 hS rfl rfl rfl (Nat.le_of_ble_eq_true rfl) rfl ?_)
    intro wz4 hS
    refine l_nil ?_
    repeat (with_reducible first | refine c_seq ?_ | refine c_block ?_ | refine c_skip ?_ | refine x_then ?_ | refine x_block ?_)
    replace hS : St w2 _ [(b8, 32, encIt (x, .slice ca cs.length ccap))] := hS
    repeat (with_reducible first | refine c_seq ?_ | refine c_block ?_ | refine c_skip ?_ | refine x_then ?_ | refine x_block ?_)
    refine c_forget (fun ρ' => ρ' 5 = vo ∧ ρ' 22 = vit ∧ ρ' 23 = .int .i64 X.length ∧ ρ' 24 = .int .i64 i ∧ ρ' 8 = .pointer (some ⟨b8, 0, none⟩) ∧ True) ⟨h5, h22, h23, h24, rfl, trivial⟩ ?_
    rintro ρk5 ⟨hk5_5, hk5_22, hk5_23, hk5_24, hk5_8, -⟩
    repeat (with_reducible first | refine c_seq ?_ | refine c_block ?_ | refine c_skip ?_ | refine x_then ?_ | refine x_block ?_)
    refine c_reg ?_
    refine l_read rfl (s_ldo (k := 0)  hk5_8 vi_32 hS rfl rfl rfl (.inl rfl) ?_)
    refine l_pure rfl (s_move  hk5_5 ?_)
    refine l_heavy rfl (s_call Tryz.call9 rfl (hsh1 (.slice ca cs.length ccap) vo _ (hch.below hS.below) (ho.below hS.below)) ?_)
    rintro r w5 ⟨b9, rfl, hS5⟩
    rw [← hlf]
    replace hS := hS.join hS5
    refine l_pure rfl (s_move  rfl ?_)
    refine l_pure rfl (s_ext  rfl rfl ?_)
    refine l_pure rfl (s_ext  rfl rfl ?_)
    refine l_pure rfl (s_ext  rfl rfl ?_)
    refine l_heavy rfl (s_alloc  vi_29 hS ?_)
    intro b10 wz6 hS hBz6
    refine l_pure rfl (s_asg  rfl ?_)
    refine l_heavy rfl (s_sta (k := 0)  rfl rfl vi_29 hS rfl rfl rfl (Nat.le_of_ble_eq_true rfl) rfl ?_)
    intro wz7 hS
    refine l_pure rfl (s_asg  rfl ?_)
    refine l_nil ?_
    repeat (with_reducible first | refine c_seq ?_ | refine c_block ?_ | refine c_skip ?_ | refine x_then ?_ | refine x_block ?_)
    refine c_forget (fun ρ' => ρ' 5 = vo ∧ ρ' 22 = vit ∧ ρ' 23 = .int .i64 X.length ∧ ρ' 24 = .int .i64 i ∧ ρ' 8 = .pointer (some ⟨b8, 0, none⟩) ∧ ρ' 9 = .slice (some ⟨b9, 0, none⟩) cs.length cs.length ∧ ρ' 10 = .pointer (some ⟨b10, 0, none⟩) ∧ ρ' 11 = .int .i64 0 ∧ True) ⟨hk5_5, hk5_22, hk5_23, hk5_24, hk5_8, rfl, rfl, rfl, trivial⟩ ?_
    rintro ρk8 ⟨hk8_5, hk8_22, hk8_23, hk8_24, hk8_8, hk8_9, hk8_10, hk8_11, -⟩
    rw [← hsh] at hS
    replace hS : St w2 _ [(b10, 29, encR (ofQ lf)), (b9, 29, (tab cs.length fun i => ofQ (sh i)).flatMap encR), (b8, 32, encIt (x, .slice ca cs.length ccap))] := hS
    rw [← hsh] at hsL hs0 hsk
    repeat (with_reducible first | refine c_seq ?_ | refine c_block ?_ | refine c_skip ?_ | refine x_then ?_ | refine x_block ?_)
    refine c_reg ?_
    refine l_pure rfl (s_move  hk8_11 ?_)
    refine l_pure rfl (s_neq  rfl rfl ?_)
    refine l_pure rfl (s_move  rfl ?_)
    refine l_pure (gd_yes 37 (by kernel_rfl) rfl (decide_eq_false (fun h => h rfl))) (s_move  hk8_9 ?_)
    refine l_pure (gd_yes 37 (by kernel_rfl) rfl (decide_eq_false (fun h => h rfl))) (s_leno  rfl ⟨_, Tryz.underlying24⟩ ?_)
    refine l_pure (gd_yes 37 (by kernel_rfl) rfl (decide_eq_false (fun h => h rfl))) (s_fld  hk8_8 fo_32_2 ?_)
    refine l_read (gd_yes 37 (by kernel_rfl) rfl (decide_eq_false (fun h => h rfl))) (s_ldo (k := 2)  rfl vi_30 hS rfl rfl rfl (.inr rfl) ?_)
    refine l_pure (gd_yes 37 (by kernel_rfl) rfl (decide_eq_false (fun h => h rfl))) (s_lenr  rfl (hch.below hS.below) ⟨_, Tryz.underlying30⟩ ?_)
    refine l_pure (gd_yes 37 (by kernel_rfl) rfl (decide_eq_false (fun h => h rfl))) (s_neq  rfl rfl ?_)
    refine l_pure rfl (s_pick (vb rfl (decide_eq_false (fun h => h rfl))) rfl ?_)
    refine l_pure rfl (s_move  rfl ?_)
    refine l_read (gd_yes 45 (by kernel_rfl) rfl (decide_eq_false (fun h => h rfl))) (s_ldo (k := 0)  hk8_10 vi_29 hS rfl rfl rfl (.inl rfl) ?_)
    refine l_heavy (gd_yes 45 (by kernel_rfl) rfl (decide_eq_false (fun h => h rfl))) (s_call Tryz.call10 rfl (Sign_ok (ofQ lf) _ (by rw [Lr_ofQ]; omega)) ?_)
    rintro r w6 ⟨rfl, hB6⟩
    rw [toQ_ofQ]
    replace hS := hS.grow hB6
    refine l_pure (gd_yes 45 (by kernel_rfl) rfl (decide_eq_false (fun h => h rfl))) (s_lss  rfl rfl ?_)
    refine l_pure rfl (s_pick (vb rfl (decide_eq_false (fun h => h rfl))) rfl ?_)
    refine l_nil ?_
    repeat (with_reducible first | refine c_seq ?_ | refine c_block ?_ | refine c_skip ?_ | refine x_then ?_ | refine x_block ?_)
    refine c_no rfl (decide_eq_false (fun h => absurd (sgnQ_neg.1 h) (Rat.not_lt.2 hlf0))) ?_
    repeat (with_reducible first | refine c_seq ?_ | refine c_block ?_ | refine c_skip ?_ | refine x_then ?_ | refine x_block ?_)
    refine c_forget (fun ρ' => ρ' 5 = vo ∧ ρ' 22 = vit ∧ ρ' 23 = .int .i64 X.length ∧ ρ' 24 = .int .i64 i ∧ ρ' 8 = .pointer (some ⟨b8, 0, none⟩) ∧ ρ' 9 = .slice (some ⟨b9, 0, none⟩) cs.length cs.length ∧ ρ' 10 = .pointer (some ⟨b10, 0, none⟩) ∧ True) ⟨hk8_5, hk8_22, hk8_23, hk8_24, hk8_8, hk8_9, hk8_10, trivial⟩ ?_
    rintro ρk9 ⟨hk9_5, hk9_22, hk9_23, hk9_24, hk9_8, hk9_9, hk9_10, -⟩
    repeat (with_reducible first | refine c_seq ?_ | refine c_block ?_ | refine c_skip ?_ | refine x_then ?_ | refine x_block ?_)
    refine c_reg ?_
    refine l_pure rfl (s_move  hk9_5 ?_)
    refine l_pure rfl (s_lenr  rfl (ho.below hS.below) ⟨_, Tryz.underlying24⟩ ?_)
    refine l_heavy rfl (s_makeE (enc := encR) (n := owed.length) zRR  rfl rfl si_24 rfl (by omega) (by omega) (by omega) (by omega) hS ?_)
    intro b12 wz10 hS hBz10
    refine l_pure rfl (s_asg  rfl ?_)
    refine l_nil ?_
    repeat (with_reducible first | refine c_seq ?_ | refine c_block ?_ | refine c_skip ?_ | refine x_then ?_ | refine x_block ?_)
    rw [tab_rep, tab_congr (g := fun c => ofQ (gotQ cs sh 0 c)) (fun c _ => (show zRR = ofQ (gotQ cs sh 0 c) from ofQ_zero.symm))] at hS
    repeat (with_reducible first | refine c_seq ?_ | refine c_block ?_ | refine c_skip ?_ | refine x_then ?_ | refine x_block ?_)
    refine c_reg ?_
    refine l_pure rfl (s_fld  hk9_8 fo_32_2 ?_)
    refine l_read rfl (s_ldo (k := 3)  rfl vi_30 hS rfl rfl rfl (.inr rfl) ?_)
    refine l_pure rfl (s_lenr  rfl (hch.below hS.below) ⟨_, Tryz.underlying30⟩ ?_)
    refine l_pure rfl (s_move  rfl ?_)
    refine l_nil ?_
    repeat (with_reducible first | refine c_seq ?_ | refine c_skip ?_ | refine x_then ?_ | refine x_block ?_)
    refine c_cut1 (fun ρ w' => ρ 5 = vo ∧ ρ 22 = vit ∧ ρ 23 = .int .i64 X.length ∧ ρ 24 = .int .i64 i ∧ ρ 8 = .pointer (some ⟨b8, 0, none⟩) ∧ ρ 9 = .slice (some ⟨b9, 0, none⟩) cs.length cs.length ∧ ρ 10 = .pointer (some ⟨b10, 0, none⟩) ∧ ρ 12 = .slice (some ⟨b12, 0, none⟩) owed.length owed.length ∧
        St w2 w' [(b12, 29, (tab owed.length fun c => ofQ (gotQ cs sh cs.length c)).flatMap encR), (b10, 29, encR (ofQ lf)), (b9, 29, (tab cs.length fun i => ofQ (sh i)).flatMap encR), (b8, 32, encIt (x, .slice ca cs.length ccap))]) ?_ ?_
    · repeat (with_reducible first | refine c_seq ?_ | refine c_block ?_ | refine c_skip ?_ | refine x_then ?_ | refine x_block ?_)
      refine c_loop (σ := Nat) (fun k ρ w' => k ≤ cs.length ∧ ρ 5 = vo ∧ ρ 22 = vit ∧ ρ 23 = .int .i64 X.length ∧ ρ 24 = .int .i64 i ∧ ρ 8 = .pointer (some ⟨b8, 0, none⟩) ∧ ρ 9 = .slice (some ⟨b9, 0, none⟩) cs.length cs.length ∧ ρ 10 = .pointer (some ⟨b10, 0, none⟩) ∧ ρ 12 = .slice (some ⟨b12, 0, none⟩) owed.length owed.length ∧ ρ 54 = .slice ca cs.length ccap ∧ ρ 55 = .int .i64 cs.length ∧ ρ 56 = .int .i64 k ∧
          St w2 w' [(b12, 29, (tab owed.length fun c => ofQ (gotQ cs sh k c)).flatMap encR), (b10, 29, encR (ofQ lf)), (b9, 29, (tab cs.length fun i => ofQ (sh i)).flatMap encR), (b8, 32, encIt (x, .slice ca cs.length ccap))]) (fun k => cs.length - k) 0
        ⟨Nat.zero_le _, by assumption, by assumption, by assumption, by assumption, by assumption, by assumption, by assumption, rfl, rfl, rfl, rfl, hS⟩ ?_
      clear hS
      rintro k ρ w7 ⟨hk, h5, h22, h23, h24, h8, h9, h10, h12, h54, h55, h56, hS⟩
      repeat (with_reducible first | refine c_seq ?_ | refine c_block ?_ | refine c_skip ?_ | refine x_then ?_ | refine x_block ?_)
      refine c_reg ?_
      refine l_pure rfl (s_lss  h56 h55 ?_)
      refine l_nil ?_
      repeat (with_reducible first | refine c_seq ?_ | refine c_block ?_ | refine c_skip ?_ | refine x_then ?_ | refine x_block ?_)
      by_cases hkl' : k < cs.length
      · refine c_yes rfl (decide_eq_true (by omega)) ?_
        repeat (with_reducible first | refine c_seq ?_ | refine c_block ?_ | refine c_skip ?_ | refine x_then ?_ | refine x_block ?_)
        obtain ⟨c, hc0⟩ : ∃ c, c = cs.getD k zCh := ⟨_, rfl⟩
        obtain ⟨kc, hkc⟩ : ∃ n, n = clm cs k := ⟨_, rfl⟩
        obtain ⟨hkm, hck'⟩ := hok.cl hkl'
        rw [← hkc] at hkm hck'
        replace hck' : c.claim = (kc : Int) := by rw [hc0]; exact hck'
        have hlim := hlL k hkl'
        replace hlim : Lr c.limit ≤ 1 := by rw [hc0]; exact hlim
        have hkl2 := hkl k hkl'
        replace hkl2 : c.lim = true → kapQ cs (owF owed) k ≤ toQ c.limit := by rw [hc0]; exact hkl2
        rw [← hkp] at hkl2
        have e1 : (tab cs.length fun i => ofQ (sh i)).getD k zRR = ofQ (sh k) := tab_get _ _ hkl'
        have htl1 : (tab cs.length fun i => ofQ (sh i)).length = cs.length := tab_len _ _
        have htl2 : (tab owed.length fun c => ofQ (gotQ cs sh k c)).length = owed.length := tab_len _ _
        have l1 := hsL k
        have l2 := gotQ_L (cs := cs) (f := sh) (B := 160 * 1 + 180) hsL (k := k) (by omega) kc
        repeat (with_reducible first | refine c_seq ?_ | refine c_block ?_ | refine c_skip ?_ | refine x_then ?_ | refine x_block ?_)
        refine c_reg ?_
        refine l_pure rfl (s_move  h56 ?_)
        refine l_pure rfl (s_ixr (i := k)  h54 h56 (hch.below hS.below) (by omega) (by first | omega | (simp; done) | (simp; omega)) si_30 ?_)
        refine l_read rfl (s_lde (i := k) zCh  rfl vi_38 (hch.below hS.below) (by first | omega | (simp; done) | (simp; omega)) rfl rfl (.inl rfl) ?_)
        refine l_heavy rfl (s_alloc  vi_38 hS ?_)
        intro b14 wz11 hS hBz11
        refine l_pure rfl (s_asg  rfl ?_)
        refine l_heavy rfl (s_sta (k := 0)  rfl rfl vi_38 hS rfl rfl rfl (Nat.le_of_ble_eq_true rfl) rfl ?_)
        intro wz12 hS
        refine l_nil ?_
        repeat (with_reducible first | refine c_seq ?_ | refine c_block ?_ | refine c_skip ?_ | refine x_then ?_ | refine x_block ?_)
        replace hS : St w2 _ [(b14, 38, encCh (cs.getD k zCh)), (b12, 29, (tab owed.length fun c => ofQ (gotQ cs sh k c)).flatMap encR), (b10, 29, encR (ofQ lf)), (b9, 29, (tab cs.length fun i => ofQ (sh i)).flatMap encR), (b8, 32, encIt (x, .slice ca cs.length ccap))] := hS
        rw [← hc0] at hS
        repeat (with_reducible first | refine c_seq ?_ | refine c_block ?_ | refine c_skip ?_ | refine x_then ?_ | refine x_block ?_)
        refine c_forget (fun ρ' => ρ' 5 = vo ∧ ρ' 22 = vit ∧ ρ' 23 = .int .i64 X.length ∧ ρ' 24 = .int .i64 i ∧ ρ' 8 = .pointer (some ⟨b8, 0, none⟩) ∧ ρ' 9 = .slice (some ⟨b9, 0, none⟩) cs.length cs.length ∧ ρ' 10 = .pointer (some ⟨b10, 0, none⟩) ∧ ρ' 12 = .slice (some ⟨b12, 0, none⟩) owed.length owed.length ∧ ρ' 54 = .slice ca cs.length ccap ∧ ρ' 55 = .int .i64 cs.length ∧ ρ' 56 = .int .i64 k ∧ ρ' 13 = .int .i64 k ∧ ρ' 14 = .pointer (some ⟨b14, 0, none⟩) ∧ True) ⟨h5, h22, h23, h24, h8, h9, h10, h12, h54, h55, h56, rfl, rfl, trivial⟩ ?_
        rintro ρk13 ⟨hk13_5, hk13_22, hk13_23, hk13_24, hk13_8, hk13_9, hk13_10, hk13_12, hk13_54, hk13_55, hk13_56, hk13_13, hk13_14, -⟩
        refine c_cut1 (fun ρ w' => ρ 5 = vo ∧ ρ 22 = vit ∧ ρ 23 = .int .i64 X.length ∧ ρ 24 = .int .i64 i ∧ ρ 8 = .pointer (some ⟨b8, 0, none⟩) ∧ ρ 9 = .slice (some ⟨b9, 0, none⟩) cs.length cs.length ∧ ρ 10 = .pointer (some ⟨b10, 0, none⟩) ∧ ρ 12 = .slice (some ⟨b12, 0, none⟩) owed.length owed.length ∧ ρ 54 = .slice ca cs.length ccap ∧ ρ 55 = .int .i64 cs.length ∧ ρ 56 = .int .i64 k ∧ ρ 13 = .int .i64 k ∧ ρ 14 = .pointer (some ⟨b14, 0, none⟩) ∧ ρ 80 = .bool false ∧
            St w2 w' [(b14, 38, encCh c), (b12, 29, (tab owed.length fun c => ofQ (gotQ cs sh k c)).flatMap encR), (b10, 29, encR (ofQ lf)), (b9, 29, (tab cs.length fun i => ofQ (sh i)).flatMap encR), (b8, 32, encIt (x, .slice ca cs.length ccap))]) ?_ ?_
        · have hsg : decide (sgnQ (sh k) < 0) = false := decide_eq_false (fun h => absurd (sgnQ_neg.1 h) (Rat.not_lt.2 (hs0 k)))
          cases hlm : c.lim with
          | true =>
            have hle := hkl2 hlm
            have hsk' := hsk k
            repeat (with_reducible first | refine c_seq ?_ | refine c_block ?_ | refine c_skip ?_ | refine x_then ?_ | refine x_block ?_)
            refine c_draw [(0, .pure), (1, .pure), (2, .pure), (3, .read), (4, .grow), (5, .pure), (6, .pure), (7, .pure), (8, .read), (9, .pure), (10, .pure), (11, .pure), (12, .pure), (13, .read), (14, .pure), (15, .read), (16, .grow), (17, .pure), (18, .pure), (19, .pure)] (by kernel_rfl) (by kernel_rfl) hS ?_
            intro wz14 hS hBz14
            refine w_pure rfl rfl (s_move  hk13_9 ?_)
            refine w_pure rfl rfl (s_move  hk13_13 ?_)
            refine w_pure rfl rfl (s_ixo (i := k)  rfl rfl (by omega) (by first | omega | (simp; done) | (simp; omega)) si_24 ?_)
            refine w_read rfl rfl (s_ldE (k := 3) (i := k) (enc := encR) zRR (fun _ => rfl)  rfl vi_29 hS rfl (by first | omega | simp) (by first | omega | (simp; done) | (simp; omega)) rfl (.inl rfl) ?_)
            rw [e1]
            refine w_grow rfl rfl (s_call Tryz.call10 rfl (Sign_ok (ofQ (sh k)) _ (by rw [Lr_ofQ]; omega)) ?_)
            rintro r w8 ⟨rfl, hB8⟩
            refine ⟨hB8, ?_⟩
            rw [toQ_ofQ]
            replace hS := hS.grow hB8
            refine w_pure rfl rfl (s_lss  rfl rfl ?_)
            refine w_pure rfl rfl (s_move  rfl ?_)
            refine w_pure rfl (gd_yes 67 (by kernel_rfl) rfl hsg) (s_fld  hk13_14 fo_38_2 ?_)
            refine w_read rfl (gd_yes 67 (by kernel_rfl) rfl hsg) (s_ldo (k := 0)  rfl vi_4 hS rfl rfl rfl (.inr rfl) ?_)
            refine w_pure rfl (gd_yes 67 (by kernel_rfl) rfl hsg) (s_move  rfl ?_)
            refine w_pure rfl (gd_yes 70 (by kernel_rfl) rfl hlm) (s_move  hk13_9 ?_)
            refine w_pure rfl (gd_yes 70 (by kernel_rfl) rfl hlm) (s_move  hk13_13 ?_)
            refine w_pure rfl (gd_yes 70 (by kernel_rfl) rfl hlm) (s_ixo (i := k)  rfl rfl (by omega) (by first | omega | (simp; done) | (simp; omega)) si_24 ?_)
            refine w_read rfl (gd_yes 70 (by kernel_rfl) rfl hlm) (s_ldE (k := 3) (i := k) (enc := encR) zRR (fun _ => rfl)  rfl vi_29 hS rfl (by first | omega | simp) (by first | omega | (simp; done) | (simp; omega)) rfl (.inl rfl) ?_)
            refine w_pure rfl (gd_yes 70 (by kernel_rfl) rfl hlm) (s_fld  hk13_14 fo_38_3 ?_)
            refine w_read rfl (gd_yes 70 (by kernel_rfl) rfl hlm) (s_ldo (k := 0)  rfl vi_29 hS rfl rfl rfl (.inl rfl) ?_)
            rw [e1]
            refine w_grow rfl (gd_yes 70 (by kernel_rfl) rfl hlm) (s_call Tryz.call11 rfl (QCompare_ok (ofQ (sh k)) c.limit _ (by rw [Lr_ofQ]; omega)) ?_)
            rintro r w9 ⟨rfl, hB9⟩
            refine ⟨hB9, ?_⟩
            rw [toQ_ofQ]
            replace hS := hS.grow hB9
            refine w_pure rfl (gd_yes 70 (by kernel_rfl) rfl hlm) (s_gtr  rfl rfl ?_)
            refine w_pure rfl (gd_yes 67 (by kernel_rfl) rfl hsg) (s_pick (vb rfl hlm) rfl ?_)
            refine w_pure rfl rfl (s_pick (vb rfl hsg) rfl ?_)
            refine w_end ?_
            repeat (with_reducible first | refine c_seq ?_ | refine c_block ?_ | refine c_skip ?_ | refine x_then ?_ | refine x_block ?_)
            exact ⟨_, rfl, by assumption, by assumption, by assumption, by assumption, by assumption, by assumption, by assumption, by assumption, by assumption, by assumption, by assumption, by assumption, by assumption, vb rfl (decide_eq_false (by unfold cmpQ; split <;> (try split) <;> first | decide | (exfalso; grind))), hS⟩
          | false =>
            repeat (with_reducible first | refine c_seq ?_ | refine c_block ?_ | refine c_skip ?_ | refine x_then ?_ | refine x_block ?_)
            refine c_draw [(0, .pure), (1, .pure), (2, .pure), (3, .read), (4, .grow), (5, .pure), (6, .pure), (7, .pure), (8, .read), (9, .pure), (10, .pure), (11, .pure), (12, .pure), (13, .read), (14, .pure), (15, .read), (16, .grow), (17, .pure), (18, .pure), (19, .pure)] (by kernel_rfl) (by kernel_rfl) hS ?_
            intro wz15 hS hBz15
            refine w_pure rfl rfl (s_move  hk13_9 ?_)
            refine w_pure rfl rfl (s_move  hk13_13 ?_)
            refine w_pure rfl rfl (s_ixo (i := k)  rfl rfl (by omega) (by first | omega | (simp; done) | (simp; omega)) si_24 ?_)
            refine w_read rfl rfl (s_ldE (k := 3) (i := k) (enc := encR) zRR (fun _ => rfl)  rfl vi_29 hS rfl (by first | omega | simp) (by first | omega | (simp; done) | (simp; omega)) rfl (.inl rfl) ?_)
            rw [e1]
            refine w_grow rfl rfl (s_call Tryz.call10 rfl (Sign_ok (ofQ (sh k)) _ (by rw [Lr_ofQ]; omega)) ?_)
            rintro r w8 ⟨rfl, hB8⟩
            refine ⟨hB8, ?_⟩
            rw [toQ_ofQ]
            replace hS := hS.grow hB8
            refine w_pure rfl rfl (s_lss  rfl rfl ?_)
            refine w_pure rfl rfl (s_move  rfl ?_)
            refine w_pure rfl (gd_yes 67 (by kernel_rfl) rfl hsg) (s_fld  hk13_14 fo_38_2 ?_)
            refine w_read rfl (gd_yes 67 (by kernel_rfl) rfl hsg) (s_ldo (k := 0)  rfl vi_4 hS rfl rfl rfl (.inr rfl) ?_)
            refine w_pure rfl (gd_yes 67 (by kernel_rfl) rfl hsg) (s_move  rfl ?_)
            refine w_no rfl (gno_yes 70 (by kernel_rfl) rfl hlm) ?_
            refine w_no rfl (gno_yes 70 (by kernel_rfl) rfl hlm) ?_
            refine w_no rfl (gno_yes 70 (by kernel_rfl) rfl hlm) ?_
            refine w_no rfl (gno_yes 70 (by kernel_rfl) rfl hlm) ?_
            refine w_no rfl (gno_yes 70 (by kernel_rfl) rfl hlm) ?_
            refine w_no rfl (gno_yes 70 (by kernel_rfl) rfl hlm) ?_
            refine w_no rfl (gno_yes 70 (by kernel_rfl) rfl hlm) ?_
            refine w_no rfl (gno_yes 70 (by kernel_rfl) rfl hlm) ?_
            refine w_pure rfl (gd_yes 67 (by kernel_rfl) rfl hsg) (s_pick (vb rfl hlm) rfl ?_)
            refine w_pure rfl rfl (s_pick (vb rfl hsg) rfl ?_)
            refine w_end ?_
            repeat (with_reducible first | refine c_seq ?_ | refine c_block ?_ | refine c_skip ?_ | refine x_then ?_ | refine x_block ?_)
            exact ⟨_, rfl, by assumption, by assumption, by assumption, by assumption, by assumption, by assumption, by assumption, by assumption, by assumption, by assumption, by assumption, by assumption, by assumption, vb rfl rfl, hS⟩
        clear hS h5 h22 h23 h24 h8 h9 h10 h12 h54 h55 h56
        rintro ρ w8 ⟨h5, h22, h23, h24, h8, h9, h10, h12, h54, h55, h56, h13, h14, h80, hS⟩
        refine c_no h80 rfl ?_
        have e2 : (tab owed.length fun c => ofQ (gotQ cs sh k c)).getD kc zRR = ofQ (gotQ cs sh k kc) := tab_get _ _ hkm
        repeat (with_reducible first | refine c_seq ?_ | refine c_block ?_ | refine c_skip ?_ | refine x_then ?_ | refine x_block ?_)
        refine c_draw [(0, .pure), (1, .pure), (2, .read), (3, .pure), (4, .pure), (5, .read), (6, .pure), (7, .read), (8, .pure), (9, .pure), (10, .pure), (11, .read), (12, .grow), (13, .pure), (14, .free)] (by kernel_rfl) (by kernel_rfl) hS ?_
        intro wz16 hS hBz16
        refine w_pure rfl rfl (s_move  h12 ?_)
        refine w_pure rfl rfl (s_fld  h14 fo_38_0 ?_)
        refine w_read rfl rfl (s_ldo (k := 0)  rfl vi_3 hS rfl rfl rfl (.inr rfl) ?_)
        refine w_pure rfl rfl (s_move  h12 ?_)
        refine w_pure rfl rfl (s_fld  h14 fo_38_0 ?_)
        refine w_read rfl rfl (s_ldo (k := 0)  rfl vi_3 hS rfl rfl rfl (.inr rfl) ?_)
        refine w_pure rfl rfl (s_ixo (i := kc)  rfl rfl (by omega) (by first | omega | (simp; done) | (simp; omega)) si_24 ?_)
        refine w_read rfl rfl (s_ldE (k := 1) (i := kc) (enc := encR) zRR (fun _ => rfl)  rfl vi_29 hS rfl (by first | omega | simp) (by first | omega | (simp; done) | (simp; omega)) rfl (.inl rfl) ?_)
        refine w_pure rfl rfl (s_move  h9 ?_)
        refine w_pure rfl rfl (s_move  h13 ?_)
        refine w_pure rfl rfl (s_ixo (i := k)  rfl rfl (by omega) (by first | omega | (simp; done) | (simp; omega)) si_24 ?_)
        refine w_read rfl rfl (s_ldE (k := 3) (i := k) (enc := encR) zRR (fun _ => rfl)  rfl vi_29 hS rfl (by first | omega | simp) (by first | omega | (simp; done) | (simp; omega)) rfl (.inl rfl) ?_)
        rw [e1, e2]
        refine w_grow rfl rfl (s_call Tryz.call12 rfl (QAdd_ok (ofQ (gotQ cs sh k kc)) (ofQ (sh k)) _ (by rw [Lr_ofQ, Lr_ofQ]; omega)) ?_)
        rintro r w9 ⟨rfl, hB9⟩
        refine ⟨hB9, ?_⟩
        rw [toQ_ofQ, toQ_ofQ]
        replace hS := hS.grow hB9
        refine w_pure rfl rfl (s_ixo (i := kc)  rfl rfl (by omega) (by first | omega | (simp; done) | (simp; omega)) si_24 ?_)
        refine w_free rfl rfl (s_stE (k := 1) (i := kc) (enc := encR) (ofQ (gotQ cs sh k kc + sh k)) (fun _ => rfl)  rfl rfl vi_29 hS rfl (by first | omega | simp) (by first | omega | (simp; done) | (simp; omega)) rfl rfl ?_)
        intro wz17 hS
        refine w_end ?_
        repeat (with_reducible first | refine c_seq ?_ | refine c_block ?_ | refine c_skip ?_ | refine x_then ?_ | refine x_block ?_)
        replace hS : St w2 _ [(b14, 38, encCh c), (b12, 29, ((tab owed.length fun c => ofQ (gotQ cs sh k c)).set kc (ofQ (gotQ cs sh k kc + sh k))).flatMap encR), (b10, 29, encR (ofQ lf)), (b9, 29, (tab cs.length fun i => ofQ (sh i)).flatMap encR), (b8, 32, encIt (x, .slice ca cs.length ccap))] := hS
        rw [tab_setQ, tab_congr (g := fun c => ofQ (gotQ cs sh (k + 1) c)) (fun c' _ => by
          rw [gotQ_succ, ← hkc]
          by_cases e : c' = kc
          · rw [if_pos e, if_pos e.symm, e]
          · rw [if_neg e, if_neg (fun g => e g.symm)])] at hS
        repeat (with_reducible first | refine c_seq ?_ | refine c_block ?_ | refine c_skip ?_ | refine x_then ?_ | refine x_block ?_)
        refine c_reg ?_
        refine l_pure rfl (s_add  h56 rfl (IntWalk.i64_in _ (by omega)) ?_)
        refine l_pure rfl (s_move  rfl ?_)
        refine l_nil ?_
        repeat (with_reducible first | refine c_seq ?_ | refine c_block ?_ | refine c_skip ?_ | refine x_then ?_ | refine x_block ?_)
        exact ⟨k + 1, _, rfl, ⟨hkl', by assumption, by assumption, by assumption, by assumption, by assumption, by assumption, by assumption, by assumption, by assumption, by assumption, vi rfl (by omega), hS.drop (List.sublist_cons_self _ _)⟩, by omega⟩
      · refine c_no rfl (decide_eq_false (by omega)) ?_
        repeat (with_reducible first | refine c_seq ?_ | refine c_block ?_ | refine c_skip ?_ | refine x_then ?_ | refine x_block ?_)
        refine c_exit ?_
        repeat (with_reducible first | refine x_then_exit ?_ | refine x_block_exit ?_ | refine x_block_pass rfl ?_)
        repeat (with_reducible first | refine c_seq ?_ | refine c_block ?_ | refine c_skip ?_ | refine x_then ?_ | refine x_block ?_)
        obtain rfl : k = cs.length := by omega
        exact ⟨_, rfl, h5, h22, h23, h24, h8, h9, h10, h12, hS⟩
    clear hS h5 h22 h23 h24
    rintro ρ w7 ⟨h5, h22, h23, h24, h8, h9, h10, h12, hS⟩
    repeat (with_reducible first | refine c_seq ?_ | refine c_block ?_ | refine c_skip ?_ | refine x_then ?_ | refine x_block ?_)
    refine c_reg ?_
    refine l_pure rfl (s_move  h5 ?_)
    refine l_pure rfl (s_lenr  rfl (ho.below hS.below) ⟨_, Tryz.underlying24⟩ ?_)
    refine l_pure rfl (s_move  rfl ?_)
    refine l_nil ?_
    repeat (with_reducible first | refine c_seq ?_ | refine c_skip ?_ | refine x_then ?_ | refine x_block ?_)
    refine c_cut1 (fun ρ w' => ρ 5 = vo ∧ ρ 22 = vit ∧ ρ 23 = .int .i64 X.length ∧ ρ 24 = .int .i64 i ∧ ρ 8 = .pointer (some ⟨b8, 0, none⟩) ∧ ρ 9 = .slice (some ⟨b9, 0, none⟩) cs.length cs.length ∧ ρ 10 = .pointer (some ⟨b10, 0, none⟩) ∧
        St w2 w' [(b12, 29, (tab owed.length fun c => ofQ (gotQ cs sh cs.length c)).flatMap encR), (b10, 29, encR (ofQ lf)), (b9, 29, (tab cs.length fun i => ofQ (sh i)).flatMap encR), (b8, 32, encIt (x, .slice ca cs.length ccap))]) ?_ ?_
    · repeat (with_reducible first | refine c_seq ?_ | refine c_block ?_ | refine c_skip ?_ | refine x_then ?_ | refine x_block ?_)
      refine c_loop (σ := Nat) (fun c ρ w' => c ≤ owed.length ∧ ρ 5 = vo ∧ ρ 22 = vit ∧ ρ 23 = .int .i64 X.length ∧ ρ 24 = .int .i64 i ∧ ρ 8 = .pointer (some ⟨b8, 0, none⟩) ∧ ρ 9 = .slice (some ⟨b9, 0, none⟩) cs.length cs.length ∧ ρ 10 = .pointer (some ⟨b10, 0, none⟩) ∧ ρ 12 = .slice (some ⟨b12, 0, none⟩) owed.length owed.length ∧ ρ 97 = .int .i64 owed.length ∧ ρ 98 = .int .i64 c ∧
          St w2 w' [(b12, 29, (tab owed.length fun c => ofQ (gotQ cs sh cs.length c)).flatMap encR), (b10, 29, encR (ofQ lf)), (b9, 29, (tab cs.length fun i => ofQ (sh i)).flatMap encR), (b8, 32, encIt (x, .slice ca cs.length ccap))]) (fun c => owed.length - c) 0
        ⟨Nat.zero_le _, by assumption, by assumption, by assumption, by assumption, by assumption, by assumption, by assumption, by assumption, rfl, rfl, hS⟩ ?_
      clear hS h5 h22 h23 h24 h8 h9 h10 h12
      rintro c ρ w8 ⟨hc, h5, h22, h23, h24, h8, h9, h10, h12, h97, h98, hS⟩
      have htl2 : (tab owed.length fun c => ofQ (gotQ cs sh cs.length c)).length = owed.length := tab_len _ _
      repeat (with_reducible first | refine c_seq ?_ | refine c_block ?_ | refine c_skip ?_ | refine x_then ?_ | refine x_block ?_)
      refine c_reg ?_
      refine l_pure rfl (s_lss  h98 h97 ?_)
      refine l_nil ?_
      repeat (with_reducible first | refine c_seq ?_ | refine c_block ?_ | refine c_skip ?_ | refine x_then ?_ | refine x_block ?_)
      by_cases hcl' : c < owed.length
      · refine c_yes rfl (decide_eq_true (by omega)) ?_
        repeat (with_reducible first | refine c_seq ?_ | refine c_block ?_ | refine c_skip ?_ | refine x_then ?_ | refine x_block ?_)
        have e1 : (tab owed.length fun c => ofQ (gotQ cs sh cs.length c)).getD c zRR = ofQ (gotQ cs sh cs.length c) := tab_get _ _ hcl'
        have l2 := gotQ_L (cs := cs) (f := sh) (B := 160 * 1 + 180) hsL (k := cs.length) (by omega) c
        have l3 := hoB _ (getD_mem owed c zRR hcl')
        have hgc := hgot c hcl'
        have hof : owF owed c = toQ (owed.getD c zRR) := rfl
        rw [hof] at hgc
        repeat (with_reducible first | refine c_seq ?_ | refine c_block ?_ | refine c_skip ?_ | refine x_then ?_ | refine x_block ?_)
        refine c_reg ?_
        refine l_pure rfl (s_move  h98 ?_)
        refine l_pure rfl (s_asg  rfl ?_)
        refine l_nil ?_
        repeat (with_reducible first | refine c_seq ?_ | refine c_block ?_ | refine c_skip ?_ | refine x_then ?_ | refine x_block ?_)
        refine c_draw [(0, .pure), (1, .pure), (2, .pure), (3, .read), (4, .pure), (5, .pure), (6, .pure), (7, .read), (8, .grow), (9, .pure)] (by kernel_rfl) (by kernel_rfl) hS ?_
        intro wz18 hS hBz18
        refine w_pure rfl rfl (s_move  h12 ?_)
        refine w_pure rfl rfl (s_move  rfl ?_)
        refine w_pure rfl rfl (s_ixo (i := c)  rfl rfl (by omega) (by first | omega | (simp; done) | (simp; omega)) si_24 ?_)
        refine w_read rfl rfl (s_ldE (k := 0) (i := c) (enc := encR) zRR (fun _ => rfl)  rfl vi_29 hS rfl (by first | omega | simp) (by first | omega | (simp; done) | (simp; omega)) rfl (.inl rfl) ?_)
        refine w_pure rfl rfl (s_move  h5 ?_)
        refine w_pure rfl rfl (s_move  rfl ?_)
        refine w_pure rfl rfl (s_ixr (i := c)  rfl rfl (ho.below hS.below) (by omega) (by first | omega | (simp; done) | (simp; omega)) si_24 ?_)
        refine w_read rfl rfl (s_lde (i := c) zRR  rfl vi_29 (ho.below hS.below) (by first | omega | (simp; done) | (simp; omega)) rfl rfl (.inl rfl) ?_)
        rw [e1]
        refine w_grow rfl rfl (s_call Tryz.call11 rfl (QCompare_ok (ofQ (gotQ cs sh cs.length c)) (owed.getD c zRR) _ (by rw [Lr_ofQ]; omega)) ?_)
        rintro r w9 ⟨rfl, hB9⟩
        refine ⟨hB9, ?_⟩
        rw [toQ_ofQ]
        replace hS := hS.grow hB9
        refine w_pure rfl rfl (s_gtr  rfl rfl ?_)
        refine w_end ?_
        repeat (with_reducible first | refine c_seq ?_ | refine c_block ?_ | refine c_skip ?_ | refine x_then ?_ | refine x_block ?_)
        refine c_no rfl (decide_eq_false (by unfold cmpQ; split <;> (try split) <;> first | decide | (exfalso; grind))) ?_
        repeat (with_reducible first | refine c_seq ?_ | refine c_block ?_ | refine c_skip ?_ | refine x_then ?_ | refine x_block ?_)
        refine c_reg ?_
        refine l_pure rfl (s_add  h98 rfl (IntWalk.i64_in _ (by omega)) ?_)
        refine l_pure rfl (s_move  rfl ?_)
        refine l_nil ?_
        repeat (with_reducible first | refine c_seq ?_ | refine c_block ?_ | refine c_skip ?_ | refine x_then ?_ | refine x_block ?_)
        exact ⟨c + 1, _, rfl, ⟨hcl', by assumption, by assumption, by assumption, by assumption, by assumption, by assumption, by assumption, by assumption, by assumption, vi rfl (by omega), hS⟩, by omega⟩
      · refine c_no rfl (decide_eq_false (by omega)) ?_
        repeat (with_reducible first | refine c_seq ?_ | refine c_block ?_ | refine c_skip ?_ | refine x_then ?_ | refine x_block ?_)
        refine c_exit ?_
        repeat (with_reducible first | refine x_then_exit ?_ | refine x_block_exit ?_ | refine x_block_pass rfl ?_)
        repeat (with_reducible first | refine c_seq ?_ | refine c_block ?_ | refine c_skip ?_ | refine x_then ?_ | refine x_block ?_)
        exact ⟨_, rfl, h5, h22, h23, h24, h8, h9, h10, hS⟩
    clear hS h5 h22 h23 h24 h8 h9 h10 h12
    rintro ρ w8 ⟨h5, h22, h23, h24, h8, h9, h10, hS⟩
    have hLs : sumL (tab cs.length fun i => ofQ (sh i)) ≤ 8 * (160 * 1 + 180 + 1) := by
      have h1 := sumL_le (l := tab cs.length fun i => ofQ (sh i)) (B := 160 * 1 + 180) (fun r hr => by
        obtain ⟨j, _, rfl⟩ := tab_mem hr
        rw [Lr_ofQ]; exact hsL j)
      rw [tab_len] at h1
      have h2 : cs.length * (160 * 1 + 180 + 1) ≤ 8 * (160 * 1 + 180 + 1) := Nat.mul_le_mul_right _ hn8
      exact Nat.le_trans h1 h2
    have hSe : sumQ ((tab cs.length fun i => ofQ (sh i)).map toQ) = totS sh (ordC cs) := by rw [sum_tab]; exact (totS_perm (ordC_perm cs)).symm
    have hLt : L (totS sh (ordC cs)) ≤ 8 * (160 * 1 + 180 + 1) + 1 := by
      have h1 := L_totS (q := sh) (J := ordC cs) (K := 160 * 1 + 180) fun j _ => hsL j
      have h2 : (ordC cs).length * (160 * 1 + 180 + 1) ≤ 8 * (160 * 1 + 180 + 1) := Nat.mul_le_mul_right _ (by rw [ordC_len]; exact hn8)
      exact Nat.le_trans h1 (Nat.add_le_add_right h2 1)
    repeat (with_reducible first | refine c_seq ?_ | refine c_block ?_ | refine c_skip ?_ | refine x_then ?_ | refine x_block ?_)
    refine c_draw [(0, .pure), (2, .read), (4, .read), (1, .grow), (3, .grow), (5, .grow), (6, .pure)] (by kernel_rfl) (by kernel_rfl) hS ?_
    intro wz19 hS hBz19
    refine w_pure rfl rfl (s_move  h9 ?_)
    refine w_read rfl rfl (s_ldo (k := 1)  h10 vi_29 hS rfl rfl rfl (.inl rfl) ?_)
    refine w_read rfl rfl (s_ldo (k := 3)  h8 vi_32 hS rfl rfl rfl (.inl rfl) ?_)
    refine w_grow rfl rfl (s_call Tryz.call13 rfl (QSum_ok _ _ _ (sl_tab (n := cs.length) (q := sh) (by omega) ((hS.drop (List.sublist_cons_self _ _)).drop (List.sublist_cons_self _ _))) (by omega)) ?_)
    rintro r w9 ⟨rfl, hB9⟩
    refine ⟨hB9, ?_⟩
    rw [hSe]
    replace hS := hS.grow hB9
    refine w_grow rfl rfl (s_call Tryz.call12 rfl (QAdd_ok (ofQ (totS sh (ordC cs))) (ofQ lf) _ (by rw [Lr_ofQ, Lr_ofQ]; omega)) ?_)
    rintro r w10 ⟨rfl, hB10⟩
    refine ⟨hB10, ?_⟩
    rw [toQ_ofQ, toQ_ofQ, hsm]
    replace hS := hS.grow hB10
    refine w_grow rfl rfl (s_call Tryz.call14 rfl (hpr ca cs.length ccap _) ?_)
    rintro r w11 ⟨rfl, hB11⟩
    refine ⟨hB11, ?_⟩
    replace hS := hS.grow hB11
    refine w_pure rfl rfl (s_neR  rfl rfl ?_)
    refine w_end ?_
    repeat (with_reducible first | refine c_seq ?_ | refine c_block ?_ | refine c_skip ?_ | refine x_then ?_ | refine x_block ?_)
    refine c_no rfl (decide_eq_false (fun h => h rfl)) ?_
    repeat (with_reducible first | refine c_seq ?_ | refine c_block ?_ | refine c_skip ?_ | refine x_then ?_ | refine x_block ?_)
    refine c_reg ?_
    refine l_pure rfl (s_add  h24 rfl (IntWalk.i64_in _ (by omega)) ?_)
    refine l_pure rfl (s_move  rfl ?_)
    refine l_nil ?_
    repeat (with_reducible first | refine c_seq ?_ | refine c_block ?_ | refine c_skip ?_ | refine x_then ?_ | refine x_block ?_)
    exact ⟨i + 1, _, rfl, ⟨hlt, by assumption, by assumption, by assumption, vi rfl (by omega), hS.drop (List.nil_sublist _)⟩, by omega⟩
  · refine c_no rfl (decide_eq_false (by omega)) ?_
    repeat (with_reducible first | refine c_seq ?_ | refine c_block ?_ | refine c_skip ?_ | refine x_then ?_ | refine x_block ?_)
    refine c_exit ?_
    repeat (with_reducible first | refine x_then_exit ?_ | refine x_block_exit ?_ | refine x_block_pass rfl ?_)
    repeat (with_reducible first | refine c_seq ?_ | refine c_block ?_ | refine c_skip ?_ | refine x_then ?_ | refine x_block ?_)
    refine c_reg ?_
    refine l_heavy rfl (s_call Tryz.call15 rfl (Cawake_ok _) ?_)
    rintro _ wc20 ⟨rfl, hBc20⟩
    replace hS := hS.grow hBc20
    refine l_pure rfl (s_asg  rfl ?_)
    refine l_nil ?_
    repeat (with_reducible first | refine c_seq ?_ | refine c_block ?_ | refine c_skip ?_ | refine x_then ?_ | refine x_block ?_)
    refine c_ret ?_
    repeat (with_reducible first | refine x_then_ret ?_ | refine x_block_ret ?_)
    refine r_one rfl rfl ?_
    exact ⟨rfl, bt hW hS.below⟩
end Go.Proofs.YtdafaibhiobpaabGreatDoor
