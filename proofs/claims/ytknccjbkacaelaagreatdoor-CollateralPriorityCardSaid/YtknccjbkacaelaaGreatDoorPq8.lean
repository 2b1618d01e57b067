/-
  Part 8 of the texts that the law's proof is made of: the framework and the walks.
-/
import Derived.Test.YtknccjbkacaelaaGreatDoorPq7
namespace Go.Proofs.YtknccjbkacaelaaGreatDoor
open Go Go.RowKit Go.Sx
theorem filt_le {f : Nat → Rat} (hf : ∀ i, 0 ≤ f i) {a b c : Nat → Bool} (hab : ∀ i, a i = true → b i = false) (hac : ∀ i, a i = true → c i = true) (hbc : ∀ i, b i = true → c i = true) (J : List Nat) :
    totS f (J.filter a) + totS f (J.filter b) ≤ totS f (J.filter c) := by
  induction J with
  | nil => rw [List.filter_nil, List.filter_nil, List.filter_nil, totS_nil, Rat.add_zero]; exact Rat.le_refl
  | cons i J ih =>
    have h0 := hf i
    rw [List.filter_cons, List.filter_cons, List.filter_cons]
    cases ha : a i with
    | true =>
      rw [hab i ha, hac i ha, if_pos rfl, if_neg (by decide), if_pos rfl, totS_cons, totS_cons]
      grind
    | false =>
      cases hb : b i with
      | true =>
        rw [hbc i hb, if_neg (by decide), if_pos rfl, if_pos rfl, totS_cons, totS_cons]
        grind
      | false =>
        rw [if_neg (by decide), if_neg (by decide)]
        cases hc : c i with
        | true => rw [if_pos rfl, totS_cons]; grind
        | false => rw [if_neg (by decide)]; exact ih
section
variable {cs : List Ch} {kp : Nat → Rat}
theorem quo_full {P : Rat} {p : Int} (h : befQ cs kp p + samQ cs kp p ≤ P) : quoQ (monQ cs kp P p) (samQ cs kp p) = 1 := by
  have h1 : P - befQ cs kp p ≤ monQ cs kp P p := by
    unfold monQ maxQ
    split
    · exact Rat.le_refl
    · grind
  unfold quoQ
  exact if_neg (Rat.not_lt.2 (by grind))
theorem sh_full {P : Rat} {i : Nat} (h : befQ cs kp (pr cs i) + samQ cs kp (pr cs i) ≤ P) : shQ cs kp P i = kp i := by
  unfold shQ
  rw [quo_full h, Rat.mul_one]
/-- If something is left, each one has what it may have. -/
theorem sh_left (hk : ∀ i, 0 ≤ kp i) {P : Rat} (h : 0 < lefQ cs kp P) (i : Nat) : shQ cs kp P i = kp i := by
  refine sh_full ?_
  have h1 := filt_le hk (a := fun j => decide (pr cs j < pr cs i)) (b := fun j => decide (pr cs j = pr cs i)) (c := fun _ => true) (fun j g => by
    have := of_decide_eq_true g
    exact decide_eq_false (by omega)) (fun _ _ => rfl) (fun _ _ => rfl) (ordC cs)
  rw [List.filter_eq_self.2 (fun _ _ => rfl)] at h1
  unfold lefQ maxQ at h
  unfold befQ samQ
  split at h <;> grind
/-- If one behind receives something, so does each one ahead of it in full. -/
theorem sh_ahead (hk : ∀ i, 0 ≤ kp i) {P : Rat} {i k : Nat} (hik : pr cs i < pr cs k) (hk' : k < cs.length) (h : 0 < shQ cs kp P k) : shQ cs kp P i = kp i := by
  refine sh_full ?_
  have h1 := filt_le hk (a := fun j => decide (pr cs j < pr cs i)) (b := fun j => decide (pr cs j = pr cs i)) (c := fun j => decide (pr cs j < pr cs k)) (fun j g => by
    have := of_decide_eq_true g
    exact decide_eq_false (by omega)) (fun j g => by
    have := of_decide_eq_true g
    exact decide_eq_true (by omega)) (fun j g => by
    have := of_decide_eq_true g
    exact decide_eq_true (by omega)) (ordC cs)
  have h2 : befQ cs kp (pr cs k) < P := by
    refine Rat.not_le.1 fun g => ?_
    have hm : monQ cs kp P (pr cs k) = 0 := by
      unfold monQ maxQ
      split
      · next q => grind
      · rfl
    unfold shQ at h
    rw [hm] at h
    unfold quoQ at h
    split at h
    · next q => rw [Rat.div_def, Rat.zero_mul, Rat.mul_zero] at h; exact absurd h (Rat.lt_irrefl)
    · next q =>
      have h3 : kp k ≤ samQ cs kp (pr cs k) := by
        unfold samQ
        have h4 := filt_le hk (a := fun j => decide (j = k)) (b := fun _ => false) (c := fun j => decide (pr cs j = pr cs k)) (fun _ _ => rfl) (fun j g => by
          have := of_decide_eq_true g
          subst this
          exact decide_eq_true rfl) (fun _ g => by cases g) (ordC cs)
        have h5 : (ordC cs).filter (fun j => decide (j = k)) = [k] := by
          have hmem : k ∈ ordC cs := ordC_mem.2 hk'
          have hnd := ordC_nodup cs
          have key : ∀ J : List Nat, J.Nodup → k ∈ J → J.filter (fun j => decide (j = k)) = [k] := by
            intro J
            induction J with
            | nil => intro _ g; cases g
            | cons y J ih =>
              intro hn hy
              rw [List.nodup_cons] at hn
              rw [List.filter_cons]
              by_cases e : y = k
              · subst e
                rw [if_pos (decide_eq_true rfl), List.filter_eq_nil_iff.2 (fun z hz g => hn.1 (by rw [← of_decide_eq_true g]; exact hz))]
              · rw [if_neg (by rw [decide_eq_true_eq]; exact e)]
                exact ih hn.2 (by rcases List.mem_cons.1 hy with g | g; exact absurd g.symm e; exact g)
          exact key _ hnd hmem
        rw [h5, List.filter_eq_nil_iff.2 (fun _ _ g => by cases g), totS_nil, totS_cons, totS_nil] at h4
        grind
      grind
  unfold befQ at h2
  unfold befQ samQ
  grind
theorem sh_same {P : Rat} {i k : Nat} (h : pr cs i = pr cs k) : shQ cs kp P i * kp k = shQ cs kp P k * kp i := by
  unfold shQ
  rw [h]
  generalize quoQ _ _ = q
  rw [Rat.mul_assoc, Rat.mul_assoc, Rat.mul_comm (kp i), Rat.mul_assoc, Rat.mul_comm q (kp k * kp i), Rat.mul_assoc, Rat.mul_comm (kp i) q, ← Rat.mul_assoc]
end
theorem check_oneP {X : List It} {owed : List RR} {x : It} (h : checkE X owed = 0) (hx : x ∈ X) : checkE [x] owed = 0 := by
  obtain ⟨h1, h2, h3, h4, h5⟩ := checkE_zero h
  unfold checkE
  rw [if_neg (by simp; omega), if_neg (by rw [h3]; decide)]
  exact firstE_none fun y hy => by rw [List.mem_singleton.1 hy]; exact h4 x hx
set_option maxHeartbeats 8000000 in
theorem CollateralPriority_ok (vl va : Value) (l : List (Nat → Nat)) (a : List Nat) (w : World) (hl : Sl enc6 6 w vl l) (hlb : ∀ x ∈ l, ∀ i, i < 6 → x i < 65536) (ha : Sl (uk .u16) 1 w va a) (hab : ∀ x ∈ a, x < 65536) :
    Ret Tryz.prog 3 #[vl, va] w fun v w' => v = .bool true ∧ Below w.heap.size w w' := by
  have hM : MX = 1099511627776 := rfl
  have hS := St.init w
  have hm6 : (amts a 6).length ≤ 6 := by rw [amts_len]; omega
  obtain ⟨owed, how⟩ : ∃ o, o = amts a 6 := ⟨_, rfl⟩
  obtain ⟨X, hXe⟩ : ∃ X, X = itemsL l owed.length 4 := ⟨_, rfl⟩
  have hck := items_check l a 4 6 (by decide) (by decide)
  have hIB := items_B l (amts a 6).length 4
  have hoB := amts_RB a 6
  rw [← how] at hck hIB hoB hm6
  rw [← hXe] at hck hIB
  have hX4 : X.length ≤ 4 := by rw [hXe, itemsL_len]; omega
  refine enter Tryz.func3 rfl Tryz.ntmps3 rfl ?_
  repeat (with_reducible first | refine c_seq ?_ | refine c_block ?_ | refine c_skip ?_ | refine x_then ?_ | refine x_block ?_)
  refine c_reg ?_
  refine l_pure rfl (s_asg  rfl ?_)
  refine l_nil ?_
  repeat (with_reducible first | refine c_seq ?_ | refine c_block ?_ | refine c_skip ?_ | refine x_then ?_ | refine x_block ?_)
  refine c_reg ?_
  refine l_pure rfl (s_move  rfl ?_)
  refine l_heavy rfl (s_call Tryz.call7 rfl (Amounts_ok va a 6 _ (ha.below hS.below) hab (by decide)) ?_)
  rintro vo w1 ⟨ho, hB1⟩
  rw [← how] at ho
  replace hS := hS.grow hB1
  refine l_pure rfl (s_asg  rfl ?_)
  refine l_nil ?_
  repeat (with_reducible first | refine c_seq ?_ | refine c_block ?_ | refine c_skip ?_ | refine x_then ?_ | refine x_block ?_)
  refine c_forget (fun ρ' => ρ' 0 = vl ∧ ρ' 5 = vo ∧ True) ⟨rfl, rfl, trivial⟩ ?_
  rintro ρk1 ⟨hk1_0, hk1_5, -⟩
  repeat (with_reducible first | refine c_seq ?_ | refine c_block ?_ | refine c_skip ?_ | refine x_then ?_ | refine x_block ?_)
  refine c_reg ?_
  refine l_pure rfl (s_move  hk1_0 ?_)
  refine l_pure rfl (s_move  hk1_5 ?_)
  refine l_pure rfl (s_lenr  rfl ho ⟨_, Tryz.underlying24⟩ ?_)
  refine l_heavy rfl (s_call Tryz.call8 rfl (Items_ok vl l owed.length _ (hl.below hS.below) hlb (by omega)) ?_)
  rintro vit w2 ⟨⟨cvs, hI⟩, hB2⟩
  rw [← hXe] at hI
  replace ho := ho.below hB2
  have hW := (hS.grow hB2).below
  clear hS
  have hS := St.init w2
  refine l_pure rfl (s_asg  rfl ?_)
  refine l_nil ?_
  repeat (with_reducible first | refine c_seq ?_ | refine c_block ?_ | refine c_skip ?_ | refine x_then ?_ | refine x_block ?_)
  refine c_forget (fun ρ' => ρ' 5 = vo ∧ ρ' 6 = vit ∧ True) ⟨hk1_5, rfl, trivial⟩ ?_
  rintro ρk2 ⟨hk2_5, hk2_6, -⟩
  have hzl := hI.zlen
  repeat (with_reducible first | refine c_seq ?_ | refine c_block ?_ | refine c_skip ?_ | refine x_then ?_ | refine x_block ?_)
  refine c_reg ?_
  refine l_pure rfl (s_move  hk2_6 ?_)
  refine l_pure rfl (s_lenr  rfl hI.sl ⟨_, Tryz.underlying26⟩ ?_)
  refine l_pure rfl (s_move  rfl ?_)
  refine l_nil ?_
  repeat (with_reducible first | refine c_seq ?_ | refine c_block ?_ | refine c_skip ?_ | refine x_then ?_ | refine x_block ?_)
  refine c_loop (σ := Nat) (fun i ρ w' => i ≤ X.length ∧ ρ 5 = vo ∧ ρ 23 = vit ∧ ρ 24 = .int .i64 X.length ∧ ρ 25 = .int .i64 i ∧ St w2 w' []) (fun i => X.length - i) 0
    ⟨Nat.zero_le _, by assumption, rfl, vi rfl (by rw [hzl]), rfl, hS⟩ ?_
  clear hS
  rintro i ρ w3 ⟨hi, h5, h23, h24, h25, hS⟩
  repeat (with_reducible first | refine c_seq ?_ | refine c_block ?_ | refine c_skip ?_ | refine x_then ?_ | refine x_block ?_)
  refine c_reg ?_
  refine l_pure rfl (s_lss  h25 h24 ?_)
  refine l_nil ?_
  repeat (with_reducible first | refine c_seq ?_ | refine c_block ?_ | refine c_skip ?_ | refine x_then ?_ | refine x_block ?_)
  by_cases hlt : i < X.length
  · refine c_yes rfl (decide_eq_true (by omega)) ?_
    repeat (with_reducible first | refine c_seq ?_ | refine c_block ?_ | refine c_skip ?_ | refine x_then ?_ | refine x_block ?_)
    obtain ⟨x, hx⟩ : ∃ x, x = X.getD i zIt := ⟨_, rfl⟩
    obtain ⟨vc, hvc⟩ : ∃ v, v = cvs.getD i undef := ⟨_, rfl⟩
    have hxX : x ∈ X := by rw [hx]; exact getD_mem X i zIt hlt
    have hch := hI.ch i hlt
    have hzg := hI.zget hlt
    rw [← hx, ← hvc] at hch hzg
    obtain ⟨cs, hcs⟩ : ∃ cs, cs = x.charges := ⟨_, rfl⟩
    have hc1 : checkE [x] owed = 0 := check_oneP hck hxX
    have hB1 : ItB 1 [x] := fun y hy => by rw [List.mem_singleton.1 hy]; exact hIB x hxX
    have hok := chok_of hc1 List.mem_cons_self hB1 hoB
    have hsh1 := fun v1 v2 w h1 h2 => Share_own x v1 v2 owed 1 w h1 h2 hB1 hoB (by rw [hM]; decide) hc1
    have hcp := fun v1 v2 w h1 h2 => rCapacities_ok x v1 v2 owed 1 w h1 h2 hok (by omega) hoB (by rw [hM]; decide)
    rw [← hcs] at hch hok hsh1 hcp
    have hn8 := hok.n8
    obtain ⟨P, hP⟩ : ∃ P, P = procQ x := ⟨_, rfl⟩
    obtain ⟨q1, q2, q3⟩ := hIB x hxX
    have lP : L P ≤ 2 * 1 + 1 := by have h1 := L_proc x; rw [hP]; omega
    have hkb := fun j => kap_bound hok j
    have hsL := fun j => sh_L hok lP j
    have hlfL := lef_L hok lP
    rw [← hP] at hsh1
    obtain ⟨kp, hkp⟩ : ∃ f, f = kapQ cs (owF owed) := ⟨_, rfl⟩
    rw [← hkp] at hsL hlfL hsh1 hkb hcp
    have hk0 := fun j => (hkb j).1
    have fa := fun h j => sh_left (cs := cs) (P := P) hk0 h j
    have fb := fun i k h1 h2 h3 => sh_ahead (cs := cs) (P := P) hk0 (i := i) (k := k) h1 h2 h3
    have fc := fun i k h => sh_same (cs := cs) (kp := kp) (P := P) (i := i) (k := k) h
    obtain ⟨sh, hsh⟩ : ∃ f, f = shQ cs kp P := ⟨_, rfl⟩
    obtain ⟨lf, hlf⟩ : ∃ q, q = lefQ cs kp P := ⟨_, rfl⟩
    rw [← hlf] at hlfL fa hsh1
    rw [← hsh] at hsL fa fb fc hsh1
    obtain ⟨ca, ccap, hvc2, _⟩ := hch.form
    subst hvc2
    have htl1 : (tab cs.length fun i => ofQ (sh i)).length = cs.length := tab_len _ _
    have htl2 : (tab cs.length fun i => ofQ (kp i)).length = cs.length := tab_len _ _
    have hgs : ∀ k, k < cs.length → (tab cs.length fun i => ofQ (sh i)).getD k zRR = ofQ (sh k) := fun k hk => tab_get _ _ hk
    have hgk : ∀ k, k < cs.length → (tab cs.length fun i => ofQ (kp i)).getD k zRR = ofQ (kp k) := fun k hk => tab_get _ _ hk
    repeat (with_reducible first | refine c_seq ?_ | refine c_block ?_ | refine c_skip ?_ | refine x_then ?_ | refine x_block ?_)
    refine c_reg ?_
    refine l_pure rfl (s_ixr (i := i)  h23 h25 (hI.sl.below hS.below) (by omega) (by first | omega | (simp; done) | (simp; omega)) si_26 ?_)
    refine l_read rfl (s_lde (v := aggIt x (.slice ca cs.length ccap)) (i := i) (zIt, undef)  rfl vi_32 (hI.sl.below hS.below) (by omega) rfl (by rw [hzg]; rfl) (.inl rfl) ?_)
    refine l_heavy rfl (s_alloc  vi_32 hS ?_)
    intro b8 wz3 hS hBz3
    refine l_heavy rfl (s_sta (k := 0)  rfl rfl vi_32 hS rfl rfl rfl (Nat.le_of_ble_eq_true rfl) rfl ?_)
    intro wz4 hS
    refine l_nil ?_
    repeat (with_reducible first | refine c_seq ?_ | refine c_block ?_ | refine c_skip ?_ | refine x_then ?_ | refine x_block ?_)
    replace hS : St w2 _ [(b8, 32, encIt (x, .slice ca cs.length ccap))] := hS
    repeat (with_reducible first | refine c_seq ?_ | refine c_block ?_ | refine c_skip ?_ | refine x_then ?_ | refine x_block ?_)
    refine c_forget (fun ρ' => ρ' 5 = vo ∧ ρ' 23 = vit ∧ ρ' 24 = .int .i64 X.length ∧ ρ' 25 = .int .i64 i ∧ ρ' 8 = .pointer (some ⟨b8, 0, none⟩) ∧ True) ⟨h5, h23, h24, h25, rfl, trivial⟩ ?_
    rintro ρk5 ⟨hk5_5, hk5_23, hk5_24, hk5_25, hk5_8, -⟩
    repeat (with_reducible first | refine c_seq ?_ | refine c_block ?_ | refine c_skip ?_ | refine x_then ?_ | refine x_block ?_)
    refine c_reg ?_
    refine l_read rfl (s_ldo (k := 0)  hk5_8 vi_32 hS rfl rfl rfl (.inl rfl) ?_)
    refine l_pure rfl (s_move  hk5_5 ?_)
    refine l_heavy rfl (s_call Tryz.call9 rfl (hsh1 (.slice ca cs.length ccap) vo _ (hch.below hS.below) (ho.below hS.below)) ?_)
    rintro r w5 ⟨b9, rfl, hS5⟩
    replace hS := hS.join hS5
    refine l_pure rfl (s_move  rfl ?_)
    refine l_pure rfl (s_ext  rfl rfl ?_)
    refine l_pure rfl (s_ext  rfl rfl ?_)
    refine l_pure rfl (s_ext  rfl rfl ?_)
    refine l_heavy rfl (s_alloc  vi_29 hS ?_)
    intro b10 wz6 hS hBz6
    refine l_pure rfl (s_asg  rfl ?_)
    refine l_heavy rfl (s_sta (k := 0)  rfl rfl vi_29 hS rfl rfl rfl (Nat.le_of_ble_eq_true rfl) rfl ?_)
    intro wz7 hS
    refine l_pure rfl (s_asg  rfl ?_)
    refine l_nil ?_
    repeat (with_reducible first | refine c_seq ?_ | refine c_block ?_ | refine c_skip ?_ | refine x_then ?_ | refine x_block ?_)
    refine c_forget (fun ρ' => ρ' 5 = vo ∧ ρ' 23 = vit ∧ ρ' 24 = .int .i64 X.length ∧ ρ' 25 = .int .i64 i ∧ ρ' 8 = .pointer (some ⟨b8, 0, none⟩) ∧ ρ' 9 = .slice (some ⟨b9, 0, none⟩) cs.length cs.length ∧ ρ' 10 = .pointer (some ⟨b10, 0, none⟩) ∧ ρ' 11 = .int .i64 0 ∧ True) ⟨hk5_5, hk5_23, hk5_24, hk5_25, hk5_8, rfl, rfl, rfl, trivial⟩ ?_
    rintro ρk8 ⟨hk8_5, hk8_23, hk8_24, hk8_25, hk8_8, hk8_9, hk8_10, hk8_11, -⟩
    replace hS : St w2 _ [(b10, 29, encR (ofQ lf)), (b9, 29, (tab cs.length fun i => ofQ (sh i)).flatMap encR), (b8, 32, encIt (x, .slice ca cs.length ccap))] := hS
    repeat (with_reducible first | refine c_seq ?_ | refine c_block ?_ | refine c_skip ?_ | refine x_then ?_ | refine x_block ?_)
    refine c_reg ?_
    refine l_pure rfl (s_move  hk8_11 ?_)
    refine l_pure rfl (s_neq  rfl rfl ?_)
    refine l_pure rfl (s_move  rfl ?_)
    refine l_pure (gd_yes 38 (by kernel_rfl) rfl (decide_eq_false (fun h => h rfl))) (s_move  hk8_9 ?_)
    refine l_pure (gd_yes 38 (by kernel_rfl) rfl (decide_eq_false (fun h => h rfl))) (s_leno  rfl ⟨_, Tryz.underlying24⟩ ?_)
    refine l_pure (gd_yes 38 (by kernel_rfl) rfl (decide_eq_false (fun h => h rfl))) (s_fld  hk8_8 fo_32_2 ?_)
    refine l_read (gd_yes 38 (by kernel_rfl) rfl (decide_eq_false (fun h => h rfl))) (s_ldo (k := 2)  rfl vi_30 hS rfl rfl rfl (.inr rfl) ?_)
    refine l_pure (gd_yes 38 (by kernel_rfl) rfl (decide_eq_false (fun h => h rfl))) (s_lenr  rfl (hch.below hS.below) ⟨_, Tryz.underlying30⟩ ?_)
    refine l_pure (gd_yes 38 (by kernel_rfl) rfl (decide_eq_false (fun h => h rfl))) (s_neq  rfl rfl ?_)
    refine l_pure rfl (s_pick (vb rfl (decide_eq_false (fun h => h rfl))) rfl ?_)
    refine l_nil ?_
    repeat (with_reducible first | refine c_seq ?_ | refine c_block ?_ | refine c_skip ?_ | refine x_then ?_ | refine x_block ?_)
    refine c_no rfl (decide_eq_false (fun h => h rfl)) ?_
    repeat (with_reducible first | refine c_seq ?_ | refine c_block ?_ | refine c_skip ?_ | refine x_then ?_ | refine x_block ?_)
    refine c_forget (fun ρ' => ρ' 5 = vo ∧ ρ' 23 = vit ∧ ρ' 24 = .int .i64 X.length ∧ ρ' 25 = .int .i64 i ∧ ρ' 8 = .pointer (some ⟨b8, 0, none⟩) ∧ ρ' 9 = .slice (some ⟨b9, 0, none⟩) cs.length cs.length ∧ ρ' 10 = .pointer (some ⟨b10, 0, none⟩) ∧ True) ⟨hk8_5, hk8_23, hk8_24, hk8_25, hk8_8, hk8_9, hk8_10, trivial⟩ ?_
    rintro ρk9 ⟨hk9_5, hk9_23, hk9_24, hk9_25, hk9_8, hk9_9, hk9_10, -⟩
    repeat (with_reducible first | refine c_seq ?_ | refine c_block ?_ | refine c_skip ?_ | refine x_then ?_ | refine x_block ?_)
    refine c_reg ?_
    refine l_read rfl (s_ldo (k := 2)  hk9_8 vi_32 hS rfl rfl rfl (.inl rfl) ?_)
    refine l_pure rfl (s_move  hk9_5 ?_)
    refine l_heavy rfl (s_call Tryz.call10 rfl (hcp (.slice ca cs.length ccap) vo _ (hch.below hS.below) (ho.below hS.below)) ?_)
    rintro r w6 ⟨b12, rfl, hS6⟩
    replace hS := hS.join hS6
    replace hS : St w2 _ [(b12, 29, (tab cs.length fun i => ofQ (kp i)).flatMap encR), (b10, 29, encR (ofQ lf)), (b9, 29, (tab cs.length fun i => ofQ (sh i)).flatMap encR), (b8, 32, encIt (x, .slice ca cs.length ccap))] := hS
    refine l_pure rfl (s_asg  rfl ?_)
    refine l_nil ?_
    repeat (with_reducible first | refine c_seq ?_ | refine c_block ?_ | refine c_skip ?_ | refine x_then ?_ | refine x_block ?_)
    refine c_forget (fun ρ' => ρ' 5 = vo ∧ ρ' 23 = vit ∧ ρ' 24 = .int .i64 X.length ∧ ρ' 25 = .int .i64 i ∧ ρ' 8 = .pointer (some ⟨b8, 0, none⟩) ∧ ρ' 9 = .slice (some ⟨b9, 0, none⟩) cs.length cs.length ∧ ρ' 10 = .pointer (some ⟨b10, 0, none⟩) ∧ ρ' 12 = .slice (some ⟨b12, 0, none⟩) cs.length cs.length ∧ True) ⟨hk9_5, hk9_23, hk9_24, hk9_25, hk9_8, hk9_9, hk9_10, rfl, trivial⟩ ?_
    rintro ρk10 ⟨hk10_5, hk10_23, hk10_24, hk10_25, hk10_8, hk10_9, hk10_10, hk10_12, -⟩
    repeat (with_reducible first | refine c_seq ?_ | refine c_block ?_ | refine c_skip ?_ | refine x_then ?_ | refine x_block ?_)
    refine c_reg ?_
    refine l_pure rfl (s_fld  hk10_8 fo_32_2 ?_)
    refine l_read rfl (s_ldo (k := 3)  rfl vi_30 hS rfl rfl rfl (.inr rfl) ?_)
    refine l_pure rfl (s_lenr  rfl (hch.below hS.below) ⟨_, Tryz.underlying30⟩ ?_)
    refine l_pure rfl (s_move  rfl ?_)
    refine l_nil ?_
    repeat (with_reducible first | refine c_seq ?_ | refine c_skip ?_ | refine x_then ?_ | refine x_block ?_)
    refine c_cut1 (fun ρ w' => ρ 5 = vo ∧ ρ 23 = vit ∧ ρ 24 = .int .i64 X.length ∧ ρ 25 = .int .i64 i ∧ St w2 w' []) ?_ ?_
    · repeat (with_reducible first | refine c_seq ?_ | refine c_block ?_ | refine c_skip ?_ | refine x_then ?_ | refine x_block ?_)
      refine c_loop (σ := Nat) (fun k ρ w' => k ≤ cs.length ∧ ρ 5 = vo ∧ ρ 23 = vit ∧ ρ 24 = .int .i64 X.length ∧ ρ 25 = .int .i64 i ∧ ρ 8 = .pointer (some ⟨b8, 0, none⟩) ∧ ρ 9 = .slice (some ⟨b9, 0, none⟩) cs.length cs.length ∧ ρ 10 = .pointer (some ⟨b10, 0, none⟩) ∧ ρ 12 = .slice (some ⟨b12, 0, none⟩) cs.length cs.length ∧ ρ 50 = .slice ca cs.length ccap ∧ ρ 51 = .int .i64 cs.length ∧ ρ 52 = .int .i64 k ∧ St w2 w' [(b12, 29, (tab cs.length fun i => ofQ (kp i)).flatMap encR), (b10, 29, encR (ofQ lf)), (b9, 29, (tab cs.length fun i => ofQ (sh i)).flatMap encR), (b8, 32, encIt (x, .slice ca cs.length ccap))]) (fun k => cs.length - k) 0
        ⟨Nat.zero_le _, by assumption, by assumption, by assumption, by assumption, by assumption, by assumption, by assumption, by assumption, rfl, rfl, rfl, hS⟩ ?_
      clear hS
      rintro k ρ w7 ⟨hk, h5, h23, h24, h25, h8, h9, h10, h12, h50, h51, h52, hS⟩
      repeat (with_reducible first | refine c_seq ?_ | refine c_block ?_ | refine c_skip ?_ | refine x_then ?_ | refine x_block ?_)
      refine c_reg ?_
      refine l_pure rfl (s_lss  h52 h51 ?_)
      refine l_nil ?_
      repeat (with_reducible first | refine c_seq ?_ | refine c_block ?_ | refine c_skip ?_ | refine x_then ?_ | refine x_block ?_)
      by_cases hkt : k < cs.length
      · refine c_yes rfl (decide_eq_true (by omega)) ?_
        repeat (with_reducible first | refine c_seq ?_ | refine c_block ?_ | refine c_skip ?_ | refine x_then ?_ | refine x_block ?_)
        obtain ⟨c, hc0⟩ : ∃ c, c = cs.getD k zCh := ⟨_, rfl⟩
        have hpk : pr cs k = c.prio := by rw [hc0]; rfl
        have e1 := hgs k hkt
        have e2 := hgk k hkt
        have l1 := hsL k
        have l2 := (hkb k).2
        repeat (with_reducible first | refine c_seq ?_ | refine c_block ?_ | refine c_skip ?_ | refine x_then ?_ | refine x_block ?_)
        refine c_reg ?_
        refine l_pure rfl (s_move  h52 ?_)
        refine l_pure rfl (s_ixr (i := k)  h50 h52 (hch.below hS.below) (by omega) (by first | omega | (simp; done) | (simp; omega)) si_30 ?_)
        refine l_read rfl (s_lde (i := k) zCh  rfl vi_38 (hch.below hS.below) (by first | omega | (simp; done) | (simp; omega)) rfl rfl (.inl rfl) ?_)
        refine l_heavy rfl (s_alloc  vi_38 hS ?_)
        intro b14 wz11 hS hBz11
        refine l_pure rfl (s_asg  rfl ?_)
        refine l_heavy rfl (s_sta (k := 0)  rfl rfl vi_38 hS rfl rfl rfl (Nat.le_of_ble_eq_true rfl) rfl ?_)
        intro wz12 hS
        refine l_nil ?_
        repeat (with_reducible first | refine c_seq ?_ | refine c_block ?_ | refine c_skip ?_ | refine x_then ?_ | refine x_block ?_)
        rw [← hc0] at hS
        replace hS : St w2 _ [(b14, 38, encCh c), (b12, 29, (tab cs.length fun i => ofQ (kp i)).flatMap encR), (b10, 29, encR (ofQ lf)), (b9, 29, (tab cs.length fun i => ofQ (sh i)).flatMap encR), (b8, 32, encIt (x, .slice ca cs.length ccap))] := hS
        repeat (with_reducible first | refine c_seq ?_ | refine c_block ?_ | refine c_skip ?_ | refine x_then ?_ | refine x_block ?_)
        refine c_forget (fun ρ' => ρ' 5 = vo ∧ ρ' 23 = vit ∧ ρ' 24 = .int .i64 X.length ∧ ρ' 25 = .int .i64 i ∧ ρ' 8 = .pointer (some ⟨b8, 0, none⟩) ∧ ρ' 9 = .slice (some ⟨b9, 0, none⟩) cs.length cs.length ∧ ρ' 10 = .pointer (some ⟨b10, 0, none⟩) ∧ ρ' 12 = .slice (some ⟨b12, 0, none⟩) cs.length cs.length ∧ ρ' 50 = .slice ca cs.length ccap ∧ ρ' 51 = .int .i64 cs.length ∧ ρ' 52 = .int .i64 k ∧ ρ' 13 = .int .i64 k ∧ ρ' 14 = .pointer (some ⟨b14, 0, none⟩) ∧ True) ⟨h5, h23, h24, h25, h8, h9, h10, h12, h50, h51, h52, rfl, rfl, trivial⟩ ?_
        rintro ρk13 ⟨hk13_5, hk13_23, hk13_24, hk13_25, hk13_8, hk13_9, hk13_10, hk13_12, hk13_50, hk13_51, hk13_52, hk13_13, hk13_14, -⟩
        refine c_cut1 (fun ρ w' => ρ 5 = vo ∧ ρ 23 = vit ∧ ρ 24 = .int .i64 X.length ∧ ρ 25 = .int .i64 i ∧ ρ 8 = .pointer (some ⟨b8, 0, none⟩) ∧ ρ 9 = .slice (some ⟨b9, 0, none⟩) cs.length cs.length ∧ ρ 10 = .pointer (some ⟨b10, 0, none⟩) ∧ ρ 12 = .slice (some ⟨b12, 0, none⟩) cs.length cs.length ∧ ρ 50 = .slice ca cs.length ccap ∧ ρ 51 = .int .i64 cs.length ∧ ρ 52 = .int .i64 k ∧ ρ 13 = .int .i64 k ∧ ρ 14 = .pointer (some ⟨b14, 0, none⟩) ∧ ρ 70 = .bool false ∧ St w2 w' [(b14, 38, encCh c), (b12, 29, (tab cs.length fun i => ofQ (kp i)).flatMap encR), (b10, 29, encR (ofQ lf)), (b9, 29, (tab cs.length fun i => ofQ (sh i)).flatMap encR), (b8, 32, encIt (x, .slice ca cs.length ccap))]) ?_ ?_
        · by_cases hlf0 : 0 < lf
          · have h1 := fa hlf0 k
            repeat (with_reducible first | refine c_seq ?_ | refine c_block ?_ | refine c_skip ?_ | refine x_then ?_ | refine x_block ?_)
            refine c_draw [(0, .read), (1, .grow), (2, .pure), (3, .pure), (4, .pure), (5, .pure), (6, .pure), (7, .read), (8, .pure), (9, .pure), (10, .pure), (11, .read), (12, .pure), (13, .pure)] (by kernel_rfl) (by kernel_rfl) hS ?_
            intro wz14 hS hBz14
            refine w_read rfl rfl (s_ldo (k := 2)  hk13_10 vi_29 hS rfl rfl rfl (.inl rfl) ?_)
            refine w_grow rfl rfl (s_call Tryz.call11 rfl (Sign_ok (ofQ lf) _ (by rw [Lr_ofQ]; omega)) ?_)
            rintro r w8 ⟨rfl, hB8⟩
            refine ⟨hB8, ?_⟩
            rw [toQ_ofQ]
            replace hS := hS.grow hB8
            refine w_pure rfl rfl (s_gtr  rfl rfl ?_)
            refine w_pure rfl rfl (s_move  rfl ?_)
            refine w_pure rfl (gd_yes 60 (by kernel_rfl) rfl (decide_eq_true (sgnQ_pos.2 hlf0))) (s_move  hk13_9 ?_)
            refine w_pure rfl (gd_yes 60 (by kernel_rfl) rfl (decide_eq_true (sgnQ_pos.2 hlf0))) (s_move  hk13_13 ?_)
            refine w_pure rfl (gd_yes 60 (by kernel_rfl) rfl (decide_eq_true (sgnQ_pos.2 hlf0))) (s_ixo (i := k)  rfl rfl (by omega) (by first | omega | (simp; done) | (simp; omega)) si_24 ?_)
            refine w_read rfl (gd_yes 60 (by kernel_rfl) rfl (decide_eq_true (sgnQ_pos.2 hlf0))) (s_ldE (k := 3) (i := k) (enc := encR) zRR (fun _ => rfl)  rfl vi_29 hS rfl (by first | omega | simp) (by first | omega | (simp; done) | (simp; omega)) rfl (.inl rfl) ?_)
            refine w_pure rfl (gd_yes 60 (by kernel_rfl) rfl (decide_eq_true (sgnQ_pos.2 hlf0))) (s_move  hk13_12 ?_)
            refine w_pure rfl (gd_yes 60 (by kernel_rfl) rfl (decide_eq_true (sgnQ_pos.2 hlf0))) (s_move  hk13_13 ?_)
            refine w_pure rfl (gd_yes 60 (by kernel_rfl) rfl (decide_eq_true (sgnQ_pos.2 hlf0))) (s_ixo (i := k)  rfl rfl (by omega) (by first | omega | (simp; done) | (simp; omega)) si_24 ?_)
            refine w_read rfl (gd_yes 60 (by kernel_rfl) rfl (decide_eq_true (sgnQ_pos.2 hlf0))) (s_ldE (k := 1) (i := k) (enc := encR) zRR (fun _ => rfl)  rfl vi_29 hS rfl (by first | omega | simp) (by first | omega | (simp; done) | (simp; omega)) rfl (.inl rfl) ?_)
            refine w_pure rfl (gd_yes 60 (by kernel_rfl) rfl (decide_eq_true (sgnQ_pos.2 hlf0))) (s_neR  rfl rfl ?_)
            refine w_pure rfl rfl (s_pick (vb rfl (decide_eq_true (sgnQ_pos.2 hlf0))) rfl ?_)
            refine w_end ?_
            repeat (with_reducible first | refine c_seq ?_ | refine c_block ?_ | refine c_skip ?_ | refine x_then ?_ | refine x_block ?_)
            exact ⟨_, rfl, by assumption, by assumption, by assumption, by assumption, by assumption, by assumption, by assumption, by assumption, by assumption, by assumption, by assumption, by assumption, by assumption, vb rfl (decide_eq_false (fun h => h (by rw [e1, e2, h1]))), hS⟩
          · repeat (with_reducible first | refine c_seq ?_ | refine c_block ?_ | refine c_skip ?_ | refine x_then ?_ | refine x_block ?_)
            refine c_draw [(0, .read), (1, .grow), (2, .pure), (3, .pure), (4, .pure), (5, .pure), (6, .pure), (7, .read), (8, .pure), (9, .pure), (10, .pure), (11, .read), (12, .pure), (13, .pure)] (by kernel_rfl) (by kernel_rfl) hS ?_
            intro wz15 hS hBz15
            refine w_read rfl rfl (s_ldo (k := 2)  hk13_10 vi_29 hS rfl rfl rfl (.inl rfl) ?_)
            refine w_grow rfl rfl (s_call Tryz.call11 rfl (Sign_ok (ofQ lf) _ (by rw [Lr_ofQ]; omega)) ?_)
            rintro r w8 ⟨rfl, hB8⟩
            refine ⟨hB8, ?_⟩
            rw [toQ_ofQ]
            replace hS := hS.grow hB8
            refine w_pure rfl rfl (s_gtr  rfl rfl ?_)
            refine w_pure rfl rfl (s_move  rfl ?_)
            refine w_no rfl (gno_yes 60 (by kernel_rfl) rfl (decide_eq_false (fun h => hlf0 (sgnQ_pos.1 h)))) ?_
            refine w_no rfl (gno_yes 60 (by kernel_rfl) rfl (decide_eq_false (fun h => hlf0 (sgnQ_pos.1 h)))) ?_
            refine w_no rfl (gno_yes 60 (by kernel_rfl) rfl (decide_eq_false (fun h => hlf0 (sgnQ_pos.1 h)))) ?_
            refine w_no rfl (gno_yes 60 (by kernel_rfl) rfl (decide_eq_false (fun h => hlf0 (sgnQ_pos.1 h)))) ?_
            refine w_no rfl (gno_yes 60 (by kernel_rfl) rfl (decide_eq_false (fun h => hlf0 (sgnQ_pos.1 h)))) ?_
            refine w_no rfl (gno_yes 60 (by kernel_rfl) rfl (decide_eq_false (fun h => hlf0 (sgnQ_pos.1 h)))) ?_
            refine w_no rfl (gno_yes 60 (by kernel_rfl) rfl (decide_eq_false (fun h => hlf0 (sgnQ_pos.1 h)))) ?_
            refine w_no rfl (gno_yes 60 (by kernel_rfl) rfl (decide_eq_false (fun h => hlf0 (sgnQ_pos.1 h)))) ?_
            refine w_no rfl (gno_yes 60 (by kernel_rfl) rfl (decide_eq_false (fun h => hlf0 (sgnQ_pos.1 h)))) ?_
            refine w_pure rfl rfl (s_pick (vb rfl (decide_eq_false (fun h => hlf0 (sgnQ_pos.1 h)))) rfl ?_)
            refine w_end ?_
            repeat (with_reducible first | refine c_seq ?_ | refine c_block ?_ | refine c_skip ?_ | refine x_then ?_ | refine x_block ?_)
            exact ⟨_, rfl, by assumption, by assumption, by assumption, by assumption, by assumption, by assumption, by assumption, by assumption, by assumption, by assumption, by assumption, by assumption, by assumption, rfl, hS⟩
        clear hS h5 h23 h24 h25 h8 h9 h10 h12 h50 h51 h52
        rintro ρ w8 ⟨h5, h23, h24, h25, h8, h9, h10, h12, h50, h51, h52, h13, h14, h70, hS⟩
        refine c_no h70 rfl ?_
        repeat (with_reducible first | refine c_seq ?_ | refine c_block ?_ | refine c_skip ?_ | refine x_then ?_ | refine x_block ?_)
        refine c_reg ?_
        refine l_pure rfl (s_fld  h8 fo_32_2 ?_)
        refine l_read rfl (s_ldo (k := 4)  rfl vi_30 hS rfl rfl rfl (.inr rfl) ?_)
        refine l_pure rfl (s_lenr  rfl (hch.below hS.below) ⟨_, Tryz.underlying30⟩ ?_)
        refine l_pure rfl (s_move  rfl ?_)
        refine l_nil ?_
        repeat (with_reducible first | refine c_seq ?_ | refine c_skip ?_ | refine x_then ?_ | refine x_block ?_)
        refine c_cut1 (fun ρ w' => ρ 5 = vo ∧ ρ 23 = vit ∧ ρ 24 = .int .i64 X.length ∧ ρ 25 = .int .i64 i ∧ ρ 8 = .pointer (some ⟨b8, 0, none⟩) ∧ ρ 9 = .slice (some ⟨b9, 0, none⟩) cs.length cs.length ∧ ρ 10 = .pointer (some ⟨b10, 0, none⟩) ∧ ρ 12 = .slice (some ⟨b12, 0, none⟩) cs.length cs.length ∧ ρ 50 = .slice ca cs.length ccap ∧ ρ 51 = .int .i64 cs.length ∧ ρ 52 = .int .i64 k ∧ St w2 w' [(b14, 38, encCh c), (b12, 29, (tab cs.length fun i => ofQ (kp i)).flatMap encR), (b10, 29, encR (ofQ lf)), (b9, 29, (tab cs.length fun i => ofQ (sh i)).flatMap encR), (b8, 32, encIt (x, .slice ca cs.length ccap))]) ?_ ?_
        · repeat (with_reducible first | refine c_seq ?_ | refine c_block ?_ | refine c_skip ?_ | refine x_then ?_ | refine x_block ?_)
          refine c_loop (σ := Nat) (fun j ρ w' => j ≤ cs.length ∧ ρ 5 = vo ∧ ρ 23 = vit ∧ ρ 24 = .int .i64 X.length ∧ ρ 25 = .int .i64 i ∧ ρ 8 = .pointer (some ⟨b8, 0, none⟩) ∧ ρ 9 = .slice (some ⟨b9, 0, none⟩) cs.length cs.length ∧ ρ 10 = .pointer (some ⟨b10, 0, none⟩) ∧ ρ 12 = .slice (some ⟨b12, 0, none⟩) cs.length cs.length ∧ ρ 50 = .slice ca cs.length ccap ∧ ρ 51 = .int .i64 cs.length ∧ ρ 52 = .int .i64 k ∧ ρ 13 = .int .i64 k ∧ ρ 14 = .pointer (some ⟨b14, 0, none⟩) ∧ ρ 72 = .slice ca cs.length ccap ∧ ρ 73 = .int .i64 cs.length ∧ ρ 74 = .int .i64 j ∧ St w2 w' [(b14, 38, encCh c), (b12, 29, (tab cs.length fun i => ofQ (kp i)).flatMap encR), (b10, 29, encR (ofQ lf)), (b9, 29, (tab cs.length fun i => ofQ (sh i)).flatMap encR), (b8, 32, encIt (x, .slice ca cs.length ccap))]) (fun j => cs.length - j) 0
            ⟨Nat.zero_le _, by assumption, by assumption, by assumption, by assumption, by assumption, by assumption, by assumption, by assumption, by assumption, by assumption, by assumption, by assumption, by assumption, rfl, rfl, rfl, hS⟩ ?_
          clear hS h5 h23 h24 h25 h8 h9 h10 h12 h50 h51 h52 h13 h14 h70
          rintro j ρ w9 ⟨hj, h5, h23, h24, h25, h8, h9, h10, h12, h50, h51, h52, h13, h14, h72, h73, h74, hS⟩
          repeat (with_reducible first | refine c_seq ?_ | refine c_block ?_ | refine c_skip ?_ | refine x_then ?_ | refine x_block ?_)
          refine c_reg ?_
          refine l_pure rfl (s_lss  h74 h73 ?_)
          refine l_nil ?_
          repeat (with_reducible first | refine c_seq ?_ | refine c_block ?_ | refine c_skip ?_ | refine x_then ?_ | refine x_block ?_)
          by_cases hjt : j < cs.length
          · refine c_yes rfl (decide_eq_true (by omega)) ?_
            repeat (with_reducible first | refine c_seq ?_ | refine c_block ?_ | refine c_skip ?_ | refine x_then ?_ | refine x_block ?_)
            obtain ⟨d, hd0⟩ : ∃ d, d = cs.getD j zCh := ⟨_, rfl⟩
            have hpj : pr cs j = d.prio := by rw [hd0]; rfl
            have e3 := hgs j hjt
            have e4 := hgk j hjt
            have l3 := hsL j
            have l4 := (hkb j).2
            repeat (with_reducible first | refine c_seq ?_ | refine c_block ?_ | refine c_skip ?_ | refine x_then ?_ | refine x_block ?_)
            refine c_reg ?_
            refine l_pure rfl (s_move  h74 ?_)
            refine l_pure rfl (s_ixr (i := j)  h72 h74 (hch.below hS.below) (by omega) (by first | omega | (simp; done) | (simp; omega)) si_30 ?_)
            refine l_read rfl (s_lde (i := j) zCh  rfl vi_38 (hch.below hS.below) (by first | omega | (simp; done) | (simp; omega)) rfl rfl (.inl rfl) ?_)
            refine l_heavy rfl (s_alloc  vi_38 hS ?_)
            intro b16 wz16 hS hBz16
            refine l_pure rfl (s_asg  rfl ?_)
            refine l_heavy rfl (s_sta (k := 0)  rfl rfl vi_38 hS rfl rfl rfl (Nat.le_of_ble_eq_true rfl) rfl ?_)
            intro wz17 hS
            refine l_nil ?_
            repeat (with_reducible first | refine c_seq ?_ | refine c_block ?_ | refine c_skip ?_ | refine x_then ?_ | refine x_block ?_)
            rw [← hd0] at hS
            replace hS : St w2 _ [(b16, 38, encCh d), (b14, 38, encCh c), (b12, 29, (tab cs.length fun i => ofQ (kp i)).flatMap encR), (b10, 29, encR (ofQ lf)), (b9, 29, (tab cs.length fun i => ofQ (sh i)).flatMap encR), (b8, 32, encIt (x, .slice ca cs.length ccap))] := hS
            repeat (with_reducible first | refine c_seq ?_ | refine c_block ?_ | refine c_skip ?_ | refine x_then ?_ | refine x_block ?_)
            refine c_forget (fun ρ' => ρ' 5 = vo ∧ ρ' 23 = vit ∧ ρ' 24 = .int .i64 X.length ∧ ρ' 25 = .int .i64 i ∧ ρ' 8 = .pointer (some ⟨b8, 0, none⟩) ∧ ρ' 9 = .slice (some ⟨b9, 0, none⟩) cs.length cs.length ∧ ρ' 10 = .pointer (some ⟨b10, 0, none⟩) ∧ ρ' 12 = .slice (some ⟨b12, 0, none⟩) cs.length cs.length ∧ ρ' 50 = .slice ca cs.length ccap ∧ ρ' 51 = .int .i64 cs.length ∧ ρ' 52 = .int .i64 k ∧ ρ' 13 = .int .i64 k ∧ ρ' 14 = .pointer (some ⟨b14, 0, none⟩) ∧ ρ' 72 = .slice ca cs.length ccap ∧ ρ' 73 = .int .i64 cs.length ∧ ρ' 74 = .int .i64 j ∧ ρ' 15 = .int .i64 j ∧ ρ' 16 = .pointer (some ⟨b16, 0, none⟩) ∧ True) ⟨h5, h23, h24, h25, h8, h9, h10, h12, h50, h51, h52, h13, h14, h72, h73, h74, rfl, rfl, trivial⟩ ?_
            rintro ρk18 ⟨hk18_5, hk18_23, hk18_24, hk18_25, hk18_8, hk18_9, hk18_10, hk18_12, hk18_50, hk18_51, hk18_52, hk18_13, hk18_14, hk18_72, hk18_73, hk18_74, hk18_15, hk18_16, -⟩
            refine c_cut1 (fun ρ w' => ρ 5 = vo ∧ ρ 23 = vit ∧ ρ 24 = .int .i64 X.length ∧ ρ 25 = .int .i64 i ∧ ρ 8 = .pointer (some ⟨b8, 0, none⟩) ∧ ρ 9 = .slice (some ⟨b9, 0, none⟩) cs.length cs.length ∧ ρ 10 = .pointer (some ⟨b10, 0, none⟩) ∧ ρ 12 = .slice (some ⟨b12, 0, none⟩) cs.length cs.length ∧ ρ 50 = .slice ca cs.length ccap ∧ ρ 51 = .int .i64 cs.length ∧ ρ 52 = .int .i64 k ∧ ρ 13 = .int .i64 k ∧ ρ 14 = .pointer (some ⟨b14, 0, none⟩) ∧ ρ 72 = .slice ca cs.length ccap ∧ ρ 73 = .int .i64 cs.length ∧ ρ 74 = .int .i64 j ∧ ρ 15 = .int .i64 j ∧ ρ 16 = .pointer (some ⟨b16, 0, none⟩) ∧ ρ 102 = .bool false ∧ St w2 w' [(b16, 38, encCh d), (b14, 38, encCh c), (b12, 29, (tab cs.length fun i => ofQ (kp i)).flatMap encR), (b10, 29, encR (ofQ lf)), (b9, 29, (tab cs.length fun i => ofQ (sh i)).flatMap encR), (b8, 32, encIt (x, .slice ca cs.length ccap))]) ?_ ?_
            · by_cases hp : c.prio < d.prio
              · have hdp : decide (c.prio < d.prio) = true := decide_eq_true hp
                by_cases hs0 : 0 < sh j
                · have h1 := fb k j (by rw [hpk, hpj]; exact hp) hjt hs0
                  repeat (with_reducible first | refine c_seq ?_ | refine c_block ?_ | refine c_skip ?_ | refine x_then ?_ | refine x_block ?_)
                  refine c_draw [(0, .pure), (1, .read), (2, .pure), (3, .read), (4, .pure), (5, .pure), (6, .pure), (7, .pure), (8, .pure), (9, .read), (10, .grow), (11, .pure), (12, .pure), (13, .pure), (14, .pure), (15, .pure), (16, .pure), (17, .read), (18, .pure), (19, .pure), (20, .pure), (21, .read), (22, .pure), (23, .pure)] (by kernel_rfl) (by kernel_rfl) hS ?_
                  intro wz19 hS hBz19
                  refine w_pure rfl rfl (s_fld  hk18_14 fo_38_1 ?_)
                  refine w_read rfl rfl (s_ldo (k := 1)  rfl vi_3 hS rfl rfl rfl (.inr rfl) ?_)
                  refine w_pure rfl rfl (s_fld  hk18_16 fo_38_1 ?_)
                  refine w_read rfl rfl (s_ldo (k := 0)  rfl vi_3 hS rfl rfl rfl (.inr rfl) ?_)
                  refine w_pure rfl rfl (s_lss  rfl rfl ?_)
                  refine w_pure rfl rfl (s_move  rfl ?_)
                  refine w_pure rfl (gd_yes 84 (by kernel_rfl) rfl hdp) (s_move  hk18_9 ?_)
                  refine w_pure rfl (gd_yes 84 (by kernel_rfl) rfl hdp) (s_move  hk18_15 ?_)
                  refine w_pure rfl (gd_yes 84 (by kernel_rfl) rfl hdp) (s_ixo (i := j)  rfl rfl (by omega) (by first | omega | (simp; done) | (simp; omega)) si_24 ?_)
                  refine w_read rfl (gd_yes 84 (by kernel_rfl) rfl hdp) (s_ldE (k := 4) (i := j) (enc := encR) zRR (fun _ => rfl)  rfl vi_29 hS rfl (by first | omega | simp) (by first | omega | (simp; done) | (simp; omega)) rfl (.inl rfl) ?_)
                  rw [e3]
                  refine w_grow rfl (gd_yes 84 (by kernel_rfl) rfl hdp) (s_call Tryz.call11 rfl (Sign_ok (ofQ (sh j)) _ (by rw [Lr_ofQ]; omega)) ?_)
                  rintro r w10 ⟨rfl, hB10⟩
                  refine ⟨hB10, ?_⟩
                  rw [toQ_ofQ]
                  replace hS := hS.grow hB10
                  refine w_pure rfl (gd_yes 84 (by kernel_rfl) rfl hdp) (s_gtr  rfl rfl ?_)
                  refine w_pure rfl rfl (s_pick (vb rfl hdp) rfl ?_)
                  refine w_pure rfl rfl (s_move  rfl ?_)
                  refine w_pure rfl (gd_yes 92 (by kernel_rfl) rfl (decide_eq_true (sgnQ_pos.2 hs0))) (s_move  hk18_9 ?_)
                  refine w_pure rfl (gd_yes 92 (by kernel_rfl) rfl (decide_eq_true (sgnQ_pos.2 hs0))) (s_move  hk18_13 ?_)
                  refine w_pure rfl (gd_yes 92 (by kernel_rfl) rfl (decide_eq_true (sgnQ_pos.2 hs0))) (s_ixo (i := k)  rfl rfl (by omega) (by first | omega | (simp; done) | (simp; omega)) si_24 ?_)
                  refine w_read rfl (gd_yes 92 (by kernel_rfl) rfl (decide_eq_true (sgnQ_pos.2 hs0))) (s_ldE (k := 4) (i := k) (enc := encR) zRR (fun _ => rfl)  rfl vi_29 hS rfl (by first | omega | simp) (by first | omega | (simp; done) | (simp; omega)) rfl (.inl rfl) ?_)
                  refine w_pure rfl (gd_yes 92 (by kernel_rfl) rfl (decide_eq_true (sgnQ_pos.2 hs0))) (s_move  hk18_12 ?_)
                  refine w_pure rfl (gd_yes 92 (by kernel_rfl) rfl (decide_eq_true (sgnQ_pos.2 hs0))) (s_move  hk18_13 ?_)
                  refine w_pure rfl (gd_yes 92 (by kernel_rfl) rfl (decide_eq_true (sgnQ_pos.2 hs0))) (s_ixo (i := k)  rfl rfl (by omega) (by first | omega | (simp; done) | (simp; omega)) si_24 ?_)
                  refine w_read rfl (gd_yes 92 (by kernel_rfl) rfl (decide_eq_true (sgnQ_pos.2 hs0))) (s_ldE (k := 2) (i := k) (enc := encR) zRR (fun _ => rfl)  rfl vi_29 hS rfl (by first | omega | simp) (by first | omega | (simp; done) | (simp; omega)) rfl (.inl rfl) ?_)
                  refine w_pure rfl (gd_yes 92 (by kernel_rfl) rfl (decide_eq_true (sgnQ_pos.2 hs0))) (s_neR  rfl rfl ?_)
                  refine w_pure rfl rfl (s_pick (vb rfl (decide_eq_true (sgnQ_pos.2 hs0))) rfl ?_)
                  refine w_end ?_
                  repeat (with_reducible first | refine c_seq ?_ | refine c_block ?_ | refine c_skip ?_ | refine x_then ?_ | refine x_block ?_)
                  exact ⟨_, rfl, by assumption, by assumption, by assumption, by assumption, by assumption, by assumption, by assumption, by assumption, by assumption, by assumption, by assumption, by assumption, by assumption, by assumption, by assumption, by assumption, by assumption, by assumption, vb rfl (decide_eq_false (fun h => h (by rw [e1, e2, h1]))), hS⟩
                · repeat (with_reducible first | refine c_seq ?_ | refine c_block ?_ | refine c_skip ?_ | refine x_then ?_ | refine x_block ?_)
                  refine c_draw [(0, .pure), (1, .read), (2, .pure), (3, .read), (4, .pure), (5, .pure), (6, .pure), (7, .pure), (8, .pure), (9, .read), (10, .grow), (11, .pure), (12, .pure), (13, .pure), (14, .pure), (15, .pure), (16, .pure), (17, .read), (18, .pure), (19, .pure), (20, .pure), (21, .read), (22, .pure), (23, .pure)] (by kernel_rfl) (by kernel_rfl) hS ?_
                  intro wz20 hS hBz20
                  refine w_pure rfl rfl (s_fld  hk18_14 fo_38_1 ?_)
                  refine w_read rfl rfl (s_ldo (k := 1)  rfl vi_3 hS rfl rfl rfl (.inr rfl) ?_)
                  refine w_pure rfl rfl (s_fld  hk18_16 fo_38_1 ?_)
                  refine w_read rfl rfl (s_ldo (k := 0)  rfl vi_3 hS rfl rfl rfl (.inr rfl) ?_)
                  refine w_pure rfl rfl (s_lss  rfl rfl ?_)
                  refine w_pure rfl rfl (s_move  rfl ?_)
                  refine w_pure rfl (gd_yes 84 (by kernel_rfl) rfl hdp) (s_move  hk18_9 ?_)
                  refine w_pure rfl (gd_yes 84 (by kernel_rfl) rfl hdp) (s_move  hk18_15 ?_)
                  refine w_pure rfl (gd_yes 84 (by kernel_rfl) rfl hdp) (s_ixo (i := j)  rfl rfl (by omega) (by first | omega | (simp; done) | (simp; omega)) si_24 ?_)
                  refine w_read rfl (gd_yes 84 (by kernel_rfl) rfl hdp) (s_ldE (k := 4) (i := j) (enc := encR) zRR (fun _ => rfl)  rfl vi_29 hS rfl (by first | omega | simp) (by first | omega | (simp; done) | (simp; omega)) rfl (.inl rfl) ?_)
                  rw [e3]
                  refine w_grow rfl (gd_yes 84 (by kernel_rfl) rfl hdp) (s_call Tryz.call11 rfl (Sign_ok (ofQ (sh j)) _ (by rw [Lr_ofQ]; omega)) ?_)
                  rintro r w10 ⟨rfl, hB10⟩
                  refine ⟨hB10, ?_⟩
                  rw [toQ_ofQ]
                  replace hS := hS.grow hB10
                  refine w_pure rfl (gd_yes 84 (by kernel_rfl) rfl hdp) (s_gtr  rfl rfl ?_)
                  refine w_pure rfl rfl (s_pick (vb rfl hdp) rfl ?_)
                  refine w_pure rfl rfl (s_move  rfl ?_)
                  refine w_no rfl (gno_yes 92 (by kernel_rfl) rfl (decide_eq_false (fun h => hs0 (sgnQ_pos.1 h)))) ?_
                  refine w_no rfl (gno_yes 92 (by kernel_rfl) rfl (decide_eq_false (fun h => hs0 (sgnQ_pos.1 h)))) ?_
                  refine w_no rfl (gno_yes 92 (by kernel_rfl) rfl (decide_eq_false (fun h => hs0 (sgnQ_pos.1 h)))) ?_
                  refine w_no rfl (gno_yes 92 (by kernel_rfl) rfl (decide_eq_false (fun h => hs0 (sgnQ_pos.1 h)))) ?_
                  refine w_no rfl (gno_yes 92 (by kernel_rfl) rfl (decide_eq_false (fun h => hs0 (sgnQ_pos.1 h)))) ?_
                  refine w_no rfl (gno_yes 92 (by kernel_rfl) rfl (decide_eq_false (fun h => hs0 (sgnQ_pos.1 h)))) ?_
                  refine w_no rfl (gno_yes 92 (by kernel_rfl) rfl (decide_eq_false (fun h => hs0 (sgnQ_pos.1 h)))) ?_
                  refine w_no rfl (gno_yes 92 (by kernel_rfl) rfl (decide_eq_false (fun h => hs0 (sgnQ_pos.1 h)))) ?_
                  refine w_no rfl (gno_yes 92 (by kernel_rfl) rfl (decide_eq_false (fun h => hs0 (sgnQ_pos.1 h)))) ?_
                  refine w_pure rfl rfl (s_pick (vb rfl (decide_eq_false (fun h => hs0 (sgnQ_pos.1 h)))) rfl ?_)
                  refine w_end ?_
                  repeat (with_reducible first | refine c_seq ?_ | refine c_block ?_ | refine c_skip ?_ | refine x_then ?_ | refine x_block ?_)
                  exact ⟨_, rfl, by assumption, by assumption, by assumption, by assumption, by assumption, by assumption, by assumption, by assumption, by assumption, by assumption, by assumption, by assumption, by assumption, by assumption, by assumption, by assumption, by assumption, by assumption, rfl, hS⟩
              · have hdp : decide (c.prio < d.prio) = false := decide_eq_false hp
                repeat (with_reducible first | refine c_seq ?_ | refine c_block ?_ | refine c_skip ?_ | refine x_then ?_ | refine x_block ?_)
                refine c_draw [(0, .pure), (1, .read), (2, .pure), (3, .read), (4, .pure), (5, .pure), (6, .pure), (7, .pure), (8, .pure), (9, .read), (10, .grow), (11, .pure), (12, .pure), (13, .pure), (14, .pure), (15, .pure), (16, .pure), (17, .read), (18, .pure), (19, .pure), (20, .pure), (21, .read), (22, .pure), (23, .pure)] (by kernel_rfl) (by kernel_rfl) hS ?_
                intro wz21 hS hBz21
                refine w_pure rfl rfl (s_fld  hk18_14 fo_38_1 ?_)
                refine w_read rfl rfl (s_ldo (k := 1)  rfl vi_3 hS rfl rfl rfl (.inr rfl) ?_)
                refine w_pure rfl rfl (s_fld  hk18_16 fo_38_1 ?_)
                refine w_read rfl rfl (s_ldo (k := 0)  rfl vi_3 hS rfl rfl rfl (.inr rfl) ?_)
                refine w_pure rfl rfl (s_lss  rfl rfl ?_)
                refine w_pure rfl rfl (s_move  rfl ?_)
                refine w_no rfl (gno_yes 84 (by kernel_rfl) rfl hdp) ?_
                refine w_no rfl (gno_yes 84 (by kernel_rfl) rfl hdp) ?_
                refine w_no rfl (gno_yes 84 (by kernel_rfl) rfl hdp) ?_
                refine w_no rfl (gno_yes 84 (by kernel_rfl) rfl hdp) ?_
                refine w_no rfl (gno_yes 84 (by kernel_rfl) rfl hdp) ?_
                refine w_no rfl (gno_yes 84 (by kernel_rfl) rfl hdp) ?_
                refine w_pure rfl rfl (s_pick (vb rfl hdp) rfl ?_)
                refine w_pure rfl rfl (s_move  rfl ?_)
                refine w_no rfl (gno_yes 92 (by kernel_rfl) rfl rfl) ?_
                refine w_no rfl (gno_yes 92 (by kernel_rfl) rfl rfl) ?_
                refine w_no rfl (gno_yes 92 (by kernel_rfl) rfl rfl) ?_
                refine w_no rfl (gno_yes 92 (by kernel_rfl) rfl rfl) ?_
                refine w_no rfl (gno_yes 92 (by kernel_rfl) rfl rfl) ?_
                refine w_no rfl (gno_yes 92 (by kernel_rfl) rfl rfl) ?_
                refine w_no rfl (gno_yes 92 (by kernel_rfl) rfl rfl) ?_
                refine w_no rfl (gno_yes 92 (by kernel_rfl) rfl rfl) ?_
                refine w_no rfl (gno_yes 92 (by kernel_rfl) rfl rfl) ?_
                refine w_pure rfl rfl (s_pick (vb rfl rfl) rfl ?_)
                refine w_end ?_
                repeat (with_reducible first | refine c_seq ?_ | refine c_block ?_ | refine c_skip ?_ | refine x_then ?_ | refine x_block ?_)
                exact ⟨_, rfl, by assumption, by assumption, by assumption, by assumption, by assumption, by assumption, by assumption, by assumption, by assumption, by assumption, by assumption, by assumption, by assumption, by assumption, by assumption, by assumption, by assumption, by assumption, rfl, hS⟩
            clear hS h5 h23 h24 h25 h8 h9 h10 h12 h50 h51 h52 h13 h14 h72 h73 h74
            rintro ρ w10 ⟨h5, h23, h24, h25, h8, h9, h10, h12, h50, h51, h52, h13, h14, h72, h73, h74, h15, h16, h102, hS⟩
            refine c_no h102 rfl ?_
            repeat (with_reducible first | refine c_seq ?_ | refine c_block ?_ | refine c_skip ?_ | refine x_then ?_ | refine x_block ?_)
            by_cases hp : c.prio = d.prio
            · have hdp : decide (c.prio = d.prio) = true := decide_eq_true hp
              have h1 := fc k j (by rw [hpk, hpj]; exact hp)
              have hm1 := fun w => QMultiply_ok (ofQ (sh k)) (ofQ (kp j)) w (by rw [Lr_ofQ, Lr_ofQ]; omega)
              have hm2 := fun w => QMultiply_ok (ofQ (sh j)) (ofQ (kp k)) w (by rw [Lr_ofQ, Lr_ofQ]; omega)
              rw [toQ_ofQ, toQ_ofQ] at hm1 hm2
              repeat (with_reducible first | refine c_seq ?_ | refine c_block ?_ | refine c_skip ?_ | refine x_then ?_ | refine x_block ?_)
              refine c_draw [(0, .pure), (1, .read), (2, .pure), (3, .read), (4, .pure), (5, .pure), (6, .pure), (7, .pure), (8, .pure), (9, .read), (10, .pure), (11, .pure), (12, .pure), (13, .read), (15, .pure), (16, .pure), (17, .pure), (18, .read), (19, .pure), (20, .pure), (21, .pure), (22, .read), (14, .grow), (23, .grow), (24, .pure), (25, .pure)] (by kernel_rfl) (by kernel_rfl) hS ?_
              intro wz22 hS hBz22
              refine w_pure rfl rfl (s_fld  h14 fo_38_1 ?_)
              refine w_read rfl rfl (s_ldo (k := 1)  rfl vi_3 hS rfl rfl rfl (.inr rfl) ?_)
              refine w_pure rfl rfl (s_fld  h16 fo_38_1 ?_)
              refine w_read rfl rfl (s_ldo (k := 0)  rfl vi_3 hS rfl rfl rfl (.inr rfl) ?_)
              refine w_pure rfl rfl (s_eql  rfl rfl ?_)
              refine w_pure rfl rfl (s_move  rfl ?_)
              refine w_pure rfl (gd_yes 108 (by kernel_rfl) rfl hdp) (s_move  h9 ?_)
              refine w_pure rfl (gd_yes 108 (by kernel_rfl) rfl hdp) (s_move  h13 ?_)
              refine w_pure rfl (gd_yes 108 (by kernel_rfl) rfl hdp) (s_ixo (i := k)  rfl rfl (by omega) (by first | omega | (simp; done) | (simp; omega)) si_24 ?_)
              refine w_read rfl (gd_yes 108 (by kernel_rfl) rfl hdp) (s_ldE (k := 4) (i := k) (enc := encR) zRR (fun _ => rfl)  rfl vi_29 hS rfl (by first | omega | simp) (by first | omega | (simp; done) | (simp; omega)) rfl (.inl rfl) ?_)
              refine w_pure rfl (gd_yes 108 (by kernel_rfl) rfl hdp) (s_move  h12 ?_)
              refine w_pure rfl (gd_yes 108 (by kernel_rfl) rfl hdp) (s_move  h15 ?_)
              refine w_pure rfl (gd_yes 108 (by kernel_rfl) rfl hdp) (s_ixo (i := j)  rfl rfl (by omega) (by first | omega | (simp; done) | (simp; omega)) si_24 ?_)
              refine w_read rfl (gd_yes 108 (by kernel_rfl) rfl hdp) (s_ldE (k := 2) (i := j) (enc := encR) zRR (fun _ => rfl)  rfl vi_29 hS rfl (by first | omega | simp) (by first | omega | (simp; done) | (simp; omega)) rfl (.inl rfl) ?_)
              refine w_pure rfl (gd_yes 108 (by kernel_rfl) rfl hdp) (s_move  h9 ?_)
              refine w_pure rfl (gd_yes 108 (by kernel_rfl) rfl hdp) (s_move  h15 ?_)
              refine w_pure rfl (gd_yes 108 (by kernel_rfl) rfl hdp) (s_ixo (i := j)  rfl rfl (by omega) (by first | omega | (simp; done) | (simp; omega)) si_24 ?_)
              refine w_read rfl (gd_yes 108 (by kernel_rfl) rfl hdp) (s_ldE (k := 4) (i := j) (enc := encR) zRR (fun _ => rfl)  rfl vi_29 hS rfl (by first | omega | simp) (by first | omega | (simp; done) | (simp; omega)) rfl (.inl rfl) ?_)
              refine w_pure rfl (gd_yes 108 (by kernel_rfl) rfl hdp) (s_move  h12 ?_)
              refine w_pure rfl (gd_yes 108 (by kernel_rfl) rfl hdp) (s_move  h13 ?_)
              refine w_pure rfl (gd_yes 108 (by kernel_rfl) rfl hdp) (s_ixo (i := k)  rfl rfl (by omega) (by first | omega | (simp; done) | (simp; omega)) si_24 ?_)
              refine w_read rfl (gd_yes 108 (by kernel_rfl) rfl hdp) (s_ldE (k := 2) (i := k) (enc := encR) zRR (fun _ => rfl)  rfl vi_29 hS rfl (by first | omega | simp) (by first | omega | (simp; done) | (simp; omega)) rfl (.inl rfl) ?_)
              rw [e1, e2, e3, e4]
              refine w_grow rfl (gd_yes 108 (by kernel_rfl) rfl hdp) (s_call Tryz.call12 rfl (hm1 _) ?_)
              rintro r w11 ⟨rfl, hB11⟩
              refine ⟨hB11, ?_⟩
              replace hS := hS.grow hB11
              refine w_grow rfl (gd_yes 108 (by kernel_rfl) rfl hdp) (s_call Tryz.call12 rfl (hm2 _) ?_)
              rintro r w12 ⟨rfl, hB12⟩
              refine ⟨hB12, ?_⟩
              replace hS := hS.grow hB12
              refine w_pure rfl (gd_yes 108 (by kernel_rfl) rfl hdp) (s_neR  rfl rfl ?_)
              refine w_pure rfl rfl (s_pick (vb rfl hdp) rfl ?_)
              refine w_end ?_
              repeat (with_reducible first | refine c_seq ?_ | refine c_block ?_ | refine c_skip ?_ | refine x_then ?_ | refine x_block ?_)
              refine c_no rfl (decide_eq_false (fun h => h (by rw [h1]))) ?_
              repeat (with_reducible first | refine c_seq ?_ | refine c_block ?_ | refine c_skip ?_ | refine x_then ?_ | refine x_block ?_)
              refine c_reg ?_
              refine l_pure rfl (s_add  h74 rfl (IntWalk.i64_in _ (by omega)) ?_)
              refine l_pure rfl (s_move  rfl ?_)
              refine l_nil ?_
              repeat (with_reducible first | refine c_seq ?_ | refine c_block ?_ | refine c_skip ?_ | refine x_then ?_ | refine x_block ?_)
              exact ⟨j + 1, _, rfl, ⟨hjt, by assumption, by assumption, by assumption, by assumption, by assumption, by assumption, by assumption, by assumption, by assumption, by assumption, by assumption, by assumption, by assumption, by assumption, by assumption, vi rfl (by omega), hS.drop (List.sublist_cons_self _ _)⟩, by omega⟩
            · have hdp : decide (c.prio = d.prio) = false := decide_eq_false hp
              repeat (with_reducible first | refine c_seq ?_ | refine c_block ?_ | refine c_skip ?_ | refine x_then ?_ | refine x_block ?_)
              refine c_draw [(0, .pure), (1, .read), (2, .pure), (3, .read), (4, .pure), (5, .pure), (6, .pure), (7, .pure), (8, .pure), (9, .read), (10, .pure), (11, .pure), (12, .pure), (13, .read), (15, .pure), (16, .pure), (17, .pure), (18, .read), (19, .pure), (20, .pure), (21, .pure), (22, .read), (14, .grow), (23, .grow), (24, .pure), (25, .pure)] (by kernel_rfl) (by kernel_rfl) hS ?_
              intro wz23 hS hBz23
              refine w_pure rfl rfl (s_fld  h14 fo_38_1 ?_)
              refine w_read rfl rfl (s_ldo (k := 1)  rfl vi_3 hS rfl rfl rfl (.inr rfl) ?_)
              refine w_pure rfl rfl (s_fld  h16 fo_38_1 ?_)
              refine w_read rfl rfl (s_ldo (k := 0)  rfl vi_3 hS rfl rfl rfl (.inr rfl) ?_)
              refine w_pure rfl rfl (s_eql  rfl rfl ?_)
              refine w_pure rfl rfl (s_move  rfl ?_)
              refine w_no rfl (gno_yes 108 (by kernel_rfl) rfl hdp) ?_
              refine w_no rfl (gno_yes 108 (by kernel_rfl) rfl hdp) ?_
              refine w_no rfl (gno_yes 108 (by kernel_rfl) rfl hdp) ?_
              refine w_no rfl (gno_yes 108 (by kernel_rfl) rfl hdp) ?_
              refine w_no rfl (gno_yes 108 (by kernel_rfl) rfl hdp) ?_
              refine w_no rfl (gno_yes 108 (by kernel_rfl) rfl hdp) ?_
              refine w_no rfl (gno_yes 108 (by kernel_rfl) rfl hdp) ?_
              refine w_no rfl (gno_yes 108 (by kernel_rfl) rfl hdp) ?_
              refine w_no rfl (gno_yes 108 (by kernel_rfl) rfl hdp) ?_
              refine w_no rfl (gno_yes 108 (by kernel_rfl) rfl hdp) ?_
              refine w_no rfl (gno_yes 108 (by kernel_rfl) rfl hdp) ?_
              refine w_no rfl (gno_yes 108 (by kernel_rfl) rfl hdp) ?_
              refine w_no rfl (gno_yes 108 (by kernel_rfl) rfl hdp) ?_
              refine w_no rfl (gno_yes 108 (by kernel_rfl) rfl hdp) ?_
              refine w_no rfl (gno_yes 108 (by kernel_rfl) rfl hdp) ?_
              refine w_no rfl (gno_yes 108 (by kernel_rfl) rfl hdp) ?_
              refine w_no rfl (gno_yes 108 (by kernel_rfl) rfl hdp) ?_
              refine w_no rfl (gno_yes 108 (by kernel_rfl) rfl hdp) ?_
              refine w_no rfl (gno_yes 108 (by kernel_rfl) rfl hdp) ?_
              refine w_pure rfl rfl (s_pick (vb rfl hdp) rfl ?_)
              refine w_end ?_
              repeat (with_reducible first | refine c_seq ?_ | refine c_block ?_ | refine c_skip ?_ | refine x_then ?_ | refine x_block ?_)
              refine c_no rfl (rfl) ?_
              repeat (with_reducible first | refine c_seq ?_ | refine c_block ?_ | refine c_skip ?_ | refine x_then ?_ | refine x_block ?_)
              refine c_reg ?_
              refine l_pure rfl (s_add  h74 rfl (IntWalk.i64_in _ (by omega)) ?_)
              refine l_pure rfl (s_move  rfl ?_)
              refine l_nil ?_
              repeat (with_reducible first | refine c_seq ?_ | refine c_block ?_ | refine c_skip ?_ | refine x_then ?_ | refine x_block ?_)
              exact ⟨j + 1, _, rfl, ⟨hjt, by assumption, by assumption, by assumption, by assumption, by assumption, by assumption, by assumption, by assumption, by assumption, by assumption, by assumption, by assumption, by assumption, by assumption, by assumption, vi rfl (by omega), hS.drop (List.sublist_cons_self _ _)⟩, by omega⟩
          · refine c_no rfl (decide_eq_false (by omega)) ?_
            repeat (with_reducible first | refine c_seq ?_ | refine c_block ?_ | refine c_skip ?_ | refine x_then ?_ | refine x_block ?_)
            refine c_exit ?_
            repeat (with_reducible first | refine x_then_exit ?_ | refine x_block_exit ?_ | refine x_block_pass rfl ?_)
            repeat (with_reducible first | refine c_seq ?_ | refine c_block ?_ | refine c_skip ?_ | refine x_then ?_ | refine x_block ?_)
            exact ⟨_, rfl, h5, h23, h24, h25, h8, h9, h10, h12, h50, h51, h52, hS⟩
        clear hS h5 h23 h24 h25 h8 h9 h10 h12 h50 h51 h52 h13 h14 h70
        rintro ρ w9 ⟨h5, h23, h24, h25, h8, h9, h10, h12, h50, h51, h52, hS⟩
        repeat (with_reducible first | refine c_seq ?_ | refine c_block ?_ | refine c_skip ?_ | refine x_then ?_ | refine x_block ?_)
        refine c_reg ?_
        refine l_pure rfl (s_add  h52 rfl (IntWalk.i64_in _ (by omega)) ?_)
        refine l_pure rfl (s_move  rfl ?_)
        refine l_nil ?_
        repeat (with_reducible first | refine c_seq ?_ | refine c_block ?_ | refine c_skip ?_ | refine x_then ?_ | refine x_block ?_)
        exact ⟨k + 1, _, rfl, ⟨hkt, by assumption, by assumption, by assumption, by assumption, by assumption, by assumption, by assumption, by assumption, by assumption, by assumption, vi rfl (by omega), hS.drop (List.sublist_cons_self _ _)⟩, by omega⟩
      · refine c_no rfl (decide_eq_false (by omega)) ?_
        repeat (with_reducible first | refine c_seq ?_ | refine c_block ?_ | refine c_skip ?_ | refine x_then ?_ | refine x_block ?_)
        refine c_exit ?_
        repeat (with_reducible first | refine x_then_exit ?_ | refine x_block_exit ?_ | refine x_block_pass rfl ?_)
        repeat (with_reducible first | refine c_seq ?_ | refine c_block ?_ | refine c_skip ?_ | refine x_then ?_ | refine x_block ?_)
        exact ⟨_, rfl, h5, h23, h24, h25, hS.drop (List.nil_sublist _)⟩
    clear hS h5 h23 h24 h25
    rintro ρ w7 ⟨h5, h23, h24, h25, hS⟩
    repeat (with_reducible first | refine c_seq ?_ | refine c_block ?_ | refine c_skip ?_ | refine x_then ?_ | refine x_block ?_)
    refine c_reg ?_
    refine l_pure rfl (s_add  h25 rfl (IntWalk.i64_in _ (by omega)) ?_)
    refine l_pure rfl (s_move  rfl ?_)
    refine l_nil ?_
    repeat (with_reducible first | refine c_seq ?_ | refine c_block ?_ | refine c_skip ?_ | refine x_then ?_ | refine x_block ?_)
    exact ⟨i + 1, _, rfl, ⟨hlt, by assumption, by assumption, by assumption, vi rfl (by omega), hS⟩, by omega⟩
  · refine c_no rfl (decide_eq_false (by omega)) ?_
    repeat (with_reducible first | refine c_seq ?_ | refine c_block ?_ | refine c_skip ?_ | refine x_then ?_ | refine x_block ?_)
    refine c_exit ?_
    repeat (with_reducible first | refine x_then_exit ?_ | refine x_block_exit ?_ | refine x_block_pass rfl ?_)
    repeat (with_reducible first | refine c_seq ?_ | refine c_block ?_ | refine c_skip ?_ | refine x_then ?_ | refine x_block ?_)
    refine c_reg ?_
    refine l_heavy rfl (s_call Tryz.call13 rfl (Cawake_ok _) ?_)
    rintro _ wc24 ⟨rfl, hBc24⟩
    replace hS := hS.grow hBc24
    refine l_pure rfl (s_asg  rfl ?_)
    refine l_nil ?_
    repeat (with_reducible first | refine c_seq ?_ | refine c_block ?_ | refine c_skip ?_ | refine x_then ?_ | refine x_block ?_)
    refine c_ret ?_
    repeat (with_reducible first | refine x_then_ret ?_ | refine x_block_ret ?_)
    refine r_one rfl rfl ?_
    exact ⟨rfl, bt hW hS.below⟩
end Go.Proofs.YtknccjbkacaelaaGreatDoor
