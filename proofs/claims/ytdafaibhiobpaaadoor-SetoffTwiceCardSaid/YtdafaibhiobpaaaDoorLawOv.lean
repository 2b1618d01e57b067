/-
  The law that set-off of what remains changes nothing: plain facts, and its walk.
-/
import Derived.Test.YtdafaibhiobpaaaDoorLawOt
namespace Go.Sx
open Go Go.RowKit
theorem splice_in (cs : List Value) (o off size : Nat) (new : List Value) (h1 : o + size ≤ cs.length) (h2 : off + new.length ≤ size) : splice cs (o + off) new = splice cs o (splice ((cs.drop o).take size) off new) := by
  have e1 : ((cs.drop o).take size).length = size := by rw [List.length_take, List.length_drop]; omega
  have e2 : (splice ((cs.drop o).take size) off new).length = size := by
    unfold splice
    rw [List.length_append, List.length_append, List.length_take, List.length_drop, e1]; omega
  have e3 : cs.drop (o + off + new.length) = ((cs.drop o).take size).drop (off + new.length) ++ cs.drop (o + size) := by
    rw [show cs.drop (o + size) = (cs.drop o).drop size by rw [List.drop_drop], show o + off + new.length = o + (off + new.length) by omega, ← List.drop_drop]
    conv => lhs; rw [← List.take_append_drop size (cs.drop o)]
    rw [List.drop_append_of_le_length (by rw [e1]; exact h2)]
  have e4 : cs.take (o + off) = cs.take o ++ ((cs.drop o).take size).take off := by
    rw [List.take_add, List.take_take, Nat.min_eq_left (by omega)]
  rw [splice, splice, e2, e3, e4]
  conv => rhs; rw [splice]
  simp only [List.append_assoc]
section
variable {P : Program} {N : Nat} {ρ : Nat → Value} {w w0 : World} {H : List Blk}
  {d : Option Tmp} {ty : TypeId} {pos : String} {aft : Array Edge} {g : Option (Nat × Bool)} {x y : Operand} {t e : TypeId} {v vs : Value} {K2 : Value → World → Prop}
/-- A part of a member of a slice that was grown by append is set. -/
theorem s_stGf {α : Type} {enc : α → List Value} {size : Nat} {X : List α} {L : List Blk} {i off m : Nat} {zz : List Value} {agg : Bool} (u dd : α) (new : List Value) (hu : ∀ x, (enc x).length = size) (hx : ev N ρ x = .pointer (some (((sbase vs).add (i * size)).add off))) (hy : ev N ρ y = v) (ht : vinfo P t = some (m, agg, zz)) (hG : Gl enc e size vs X L) (hS : St w0 w (H ++ L))
    (hi : i < X.length) (hv : v.cells.toList = new) (hm : new.length = m) (hfit : off + m ≤ size) (hspl : splice (enc (X.getD i dd)) off new = enc u) (h1 : new.all (·.oneCell') = true)
    (h : ∀ w', (∃ L', Gl enc e size vs (X.set i u) L' ∧ St w0 w' (H ++ L')) → K2 undef w') : Hup1 P N ρ w ⟨d, .store t x y, ty, pos, aft, g⟩ K2 := by
  obtain ⟨hX, ⟨rfl, h0, _⟩ | ⟨b, cap, spare, rfl, rfl, h2, h3, h4⟩⟩ := hG
  · omega
  have hx' : ev N ρ x = .pointer (some ⟨b, i * size + off, none⟩) := by
    rw [hx]
    show Value.pointer (some (((⟨b, 0, none⟩ : Addr).add (i * size)).add off)) = _
    rw [add_lit, add_lit, Nat.zero_add]
  have hk : (H ++ [(b, e, X.flatMap enc ++ spare)])[H.length]? = some (b, e, X.flatMap enc ++ spare) := by simp
  have hfl := flat_len hu X
  have hle : (i + 1) * size ≤ X.length * size := Nat.mul_le_mul_right _ hi
  rw [Nat.add_mul] at hle
  refine s_sta hx' hy ht hS hk hv hm (by rw [List.length_append]; omega) h1 (fun w' hS' => ?_)
  have hel : ((X.flatMap enc ++ spare).drop (i * size)).take size = enc (X.getD i dd) := by
    rw [List.drop_append_of_le_length (by omega), List.take_append_of_le_length (by rw [List.length_drop]; omega)]
    exact flat_elem hu X dd hi
  have hsp : splice (X.flatMap enc ++ spare) (i * size + off) new = (X.set i u).flatMap enc ++ spare := by
    rw [splice_in _ _ _ size _ (by rw [List.length_append]; omega) (by omega), hel, hspl, ← flat_set hu X u hi]
    unfold splice
    rw [List.take_append_of_le_length (by omega), List.drop_append_of_le_length (by rw [hu]; omega)]
    simp only [List.append_assoc]
  rw [hsp] at hS'
  have hsl : ((X.set i u).flatMap enc).length = X.length * size := by rw [flat_len hu, List.length_set]
  refine h w' ⟨[(b, e, (X.set i u).flatMap enc ++ spare)], ⟨?_, .inr ⟨b, cap, spare, by rw [List.length_set], rfl, by rw [List.length_set]; exact h2, h3, ?_⟩⟩, hS'.cast (by simp)⟩
  · rw [hsl, List.length_set]
  · rw [← h4, List.length_append, List.length_append, hsl, hfl]
end
end Go.Sx
namespace Go.Proofs.YtdafaibhiobpaaaDoor
open Go Go.RowKit Go.Sx

def setA (o : Ob) (r : RR) : Ob := ⟨o.deb, o.cre, r, o.inc, o.acq, o.cont⟩
/-- Obligations of which the first k have what remains of them. -/
def partO (l : List Ob) (c s : Int) (k : Nat) : List Ob := tab l.length fun j => if j < k then setA (gO l j) (ofQ (finQ l c s j)) else gO l j
theorem partO_len (l : List Ob) (c s : Int) (k : Nat) : (partO l c s k).length = l.length := tab_len _ _
theorem partO_get (l : List Ob) (c s : Int) (k : Nat) {i : Nat} (hi : i < l.length) : gO (partO l c s k) i = if i < k then setA (gO l i) (ofQ (finQ l c s i)) else gO l i := tab_get _ _ hi
theorem partO_zero (l : List Ob) (c s : Int) : partO l c s 0 = l := by
  unfold partO
  rw [tab_congr (g := fun j => l.getD j zOb) (fun j _ => by rw [if_neg (by omega)]; rfl)]
  exact (tab_of l zOb).symm
theorem partO_set (l : List Ob) (c s : Int) {k : Nat} (_ : k < l.length) : (partO l c s k).set k (setA (gO l k) (ofQ (finQ l c s k))) = partO l c s (k + 1) := by
  unfold partO
  rw [tab_set]
  refine tab_congr fun j _ => ?_
  by_cases e : j = k
  · subst e; rw [if_pos rfl, if_pos (by omega)]
  · rw [if_neg e]
    by_cases e2 : j < k
    · rw [if_pos e2, if_pos (by omega)]
    · rw [if_neg e2, if_neg (by omega)]
/-- All but the amounts is as it was. -/
theorem partO_keep (l : List Ob) (c s : Int) (i : Nat) : (gO (partO l c s l.length) i).deb = (gO l i).deb ∧ (gO (partO l c s l.length) i).cre = (gO l i).cre ∧ (gO (partO l c s l.length) i).inc = (gO l i).inc ∧ ∀ c' s', eligB (gO (partO l c s l.length) i) c' s' = eligB (gO l i) c' s' := by
  by_cases hi : i < l.length
  · rw [partO_get l c s _ hi, if_pos hi]
    exact ⟨rfl, rfl, rfl, fun _ _ => rfl⟩
  · have e1 : gO (partO l c s l.length) i = zOb := by unfold gO; rw [List.getD_eq_getElem?_getD, List.getElem?_eq_none (by rw [partO_len]; omega)]; rfl
    have e2 : gO l i = zOb := by unfold gO; rw [List.getD_eq_getElem?_getD, List.getElem?_eq_none (by omega)]; rfl
    rw [e1, e2]
    exact ⟨rfl, rfl, rfl, fun _ _ => rfl⟩
theorem partO_oQ (l : List Ob) (c s : Int) {i : Nat} (hi : i < l.length) : oQ (partO l c s l.length) i = finQ l c s i := by
  unfold oQ
  rw [partO_get l c s _ hi, if_pos hi]
  exact toQ_ofQ _
theorem partO_ord (l : List Ob) (c s c' s' a b : Int) : ordL (partO l c s l.length) c' s' a b = ordL l c' s' a b := by
  have e1 : older (partO l c s l.length) = older l := by
    funext i k
    unfold older
    rw [(partO_keep l c s i).2.2.1, (partO_keep l c s k).2.2.1]
  have e2 : goes (partO l c s l.length) c' s' a b = goes l c' s' a b := by
    funext i
    unfold goes
    rw [(partO_keep l c s i).1, (partO_keep l c s i).2.1, (partO_keep l c s i).2.2.2]
  unfold ordL selL
  rw [e1, e2, partO_len]
theorem redu_zero (B : List Nat) : ∀ (t : RS), t.amt = 0 → (∀ i ∈ B, 0 ≤ t.rest i) → ∀ i, (redu t B).rest i = t.rest i := by
  induction B with
  | nil => intro t _ _ i; rfl
  | cons b B ih =>
    intro t ht hb i
    rw [redu_cons]
    have hb0 := hb b (List.mem_cons_self ..)
    have hm : minQ (t.rest b) t.amt = 0 := by rw [ht]; unfold minQ; split <;> grind
    have hr : ∀ i, (rstp t b).rest i = t.rest i := fun i => by
      show (if i = b then t.rest b - minQ (t.rest b) t.amt else t.rest i) = t.rest i
      rw [hm]
      split
      · next g => rw [g]; grind
      · rfl
    rw [ih (rstp t b) (by show t.amt - minQ (t.rest b) t.amt = 0; rw [hm, ht]; grind) (fun j hj => by rw [hr]; exact hb j (List.mem_cons_of_mem _ hj)), hr]
theorem twice_fin {l : List Ob} (h : Nng l) (c s : Int) {i : Nat} (hi : i < l.length) : finQ (partO l c s l.length) c s i = finQ l c s i := by
  have hm : ∀ a b, mQ (partO l c s l.length) c s a b = 0 := by
    intro a b
    have e : ∀ a b, totS (oQ (partO l c s l.length)) (ordL l c s a b) = totS (finQ l c s) (ordL l c s a b) := fun a b => by
      unfold totS
      rw [List.map_congr_left fun j hj => partO_oQ l c s (ordL_mem.1 hj).1]
    have h1 := taken h c s a b
    have h2 := taken h c s b a
    rw [mQ_comm] at h2
    have h3 : mQ l c s a b = totS (oQ l) (ordL l c s a b) ∨ mQ l c s a b = totS (oQ l) (ordL l c s b a) := by unfold mQ minQ; split <;> simp
    have h4 := mQ_le (l := l) c s a b
    unfold mQ
    rw [partO_ord, partO_ord, e, e]
    unfold minQ
    split <;> grind
  unfold finQ
  rw [hm, redu_zero _ _ rfl (fun j hj => ?_)]
  · show oQ (partO l c s l.length) i = _
    rw [partO_oQ l c s hi]; rfl
  · rw [partO_ord] at hj
    show 0 ≤ oQ (partO l c s l.length) j
    rw [partO_oQ l c s (ordL_mem.1 hj).1]
    exact (finQ_bound h c s j).1
theorem partO_mem {l : List Ob} {c s : Int} {o : Ob} (h : o ∈ partO l c s l.length) : ∃ i, i < l.length ∧ o = setA (gO l i) (ofQ (finQ l c s i)) := by
  obtain ⟨i, hi, e⟩ := tab_mem h
  exact ⟨i, hi, by rw [← e, if_pos hi]⟩
set_option maxHeartbeats 2000000 in
theorem SetoffTwice_ok (vl : Value) (a : List (Nat → Nat)) (cc ss : Nat) (w : World) (hv : Sl enc5 5 w vl a) (hb : ∀ x ∈ a, ∀ i, i < 5 → x i < 65536) (hcc : cc < 256) :
    Ret Tryd.prog 6 #[vl, .int .u8 cc, .int .u8 ss] w fun v w' => v = .bool true ∧ Below w.heap.size w w' := by
  have hM : MX = 1099511627776 := rfl
  have hS := St.init w
  have hs40 : ss % 40 < 40 := Nat.mod_lt _ (by decide)
  obtain ⟨s, hs⟩ : ∃ s, s = ss % 40 := ⟨_, rfl⟩
  obtain ⟨l, hl⟩ : ∃ l, l = obsL a 16 := ⟨_, rfl⟩
  have hE := obsL_E a
  have hC := obsL_chk a hcc (show s < 256 by omega)
  have hB := obsL_B a 16
  have hF := obsL_fine a 16
  have hlen : (obsL a 16).length ≤ 16 := by rw [obsL_len]; omega
  rw [← hl] at hE hC hB hlen hF
  have hN := nng_of hE
  have hLf : ∀ i, i < l.length → L (finQ l cc s i) ≤ 84 := fun i hi => by
    have := L_finQ hB (by omega) cc s hi
    omega
  have hB2 : ObB 84 (partO l cc s l.length) := fun o ho => by
    obtain ⟨i, hi, rfl⟩ := partO_mem ho
    show Lr (ofQ (finQ l cc s i)) ≤ 84
    rw [Lr_ofQ]; exact hLf i hi
  have hC2 : chkE 4 (partO l cc s l.length) cc s = 0 := chk_of (obs_of (by omega) (by rw [partO_len]; omega) fun o ho => by
    obtain ⟨i, hi, rfl⟩ := partO_mem ho
    obtain ⟨f1, f2, f3, f4, f5⟩ := hF _ (goO hi)
    exact ⟨f1, by show 0 ≤ toQ (ofQ (finQ l cc s i)); rw [toQ_ofQ]; exact (finQ_bound hN cc s i).1, f3, f4, f5⟩) (chkE_zero hC).2.1 (chkE_zero hC).2.2
  have hpl := partO_len l cc s l.length
  have hR2 : appL 4 (partO l cc s l.length) cc s = tab l.length fun i => ofQ (finQ l cc s i) := by
    unfold appL
    rw [if_pos hC2, hpl]
    exact tab_congr fun i hi => by rw [twice_fin hN cc s hi]
  refine enter Tryd.func6 rfl Tryd.ntmps6 rfl ?_
  repeat (with_reducible first | refine c_seq ?_ | refine c_block ?_ | refine c_skip ?_ | refine x_then ?_ | refine x_block ?_)
  refine c_reg ?_
  refine l_pure rfl (s_asg  rfl ?_)
  refine l_nil ?_
  repeat (with_reducible first | refine c_seq ?_ | refine c_block ?_ | refine c_skip ?_ | refine x_then ?_ | refine x_block ?_)
  refine c_reg ?_
  refine l_pure rfl (s_move  rfl ?_)
  refine l_heavy rfl (s_call Tryd.call17 rfl (Obligations_ok vl a _ hv hb) ?_)
  rintro vo w1 ⟨LO, hG, hSO⟩
  rw [← hl] at hG
  have hS1 : St w w1 ([] ++ LO) := hS.join hSO |>.cast (by simp)
  clear hS hSO
  have hS := hS1
  refine l_pure rfl (s_asg  rfl ?_)
  refine l_nil ?_
  repeat (with_reducible first | refine c_seq ?_ | refine c_block ?_ | refine c_skip ?_ | refine x_then ?_ | refine x_block ?_)
  refine c_forget (fun ρ' => ρ' 1 = .int .u8 cc ∧ ρ' 2 = .int .u8 ss ∧ ρ' 7 = vo ∧ True) ⟨rfl, rfl, rfl, trivial⟩ ?_
  rintro ρk1 ⟨hk1_1, hk1_2, hk1_7, -⟩
  repeat (with_reducible first | refine c_seq ?_ | refine c_block ?_ | refine c_skip ?_ | refine x_then ?_ | refine x_block ?_)
  refine c_reg ?_
  refine l_pure rfl (s_move  hk1_7 ?_)
  refine l_pure rfl (s_move  hk1_1 ?_)
  refine l_pure rfl (s_conv  rfl Tryd.underlying3 ⟨_, Tryd.underlying5⟩ (IntWalk.i64_in _ (by omega)) ?_)
  refine l_pure rfl (s_move  hk1_2 ?_)
  refine l_pure rfl (s_rem  rfl rfl (by omega) (r := ((ss % 40 : Nat) : Int)) (by exact rem_nat ss 40) ?_)
  refine l_pure rfl (s_conv  rfl Tryd.underlying3 ⟨_, Tryd.underlying5⟩ (r := ((ss % 40 : Nat) : Int)) (by exact wr_i64 _ ⟨rfl, by omega, by omega⟩) ?_)
  rw [← hs]
  refine l_heavy rfl (s_call Tryd.call18 rfl (OApply_own 4 cc s _ l 1 _ (hG.sl hS encOb_len) hB (by rw [hM]; decide) (by omega) hC) ?_)
  rintro r w2 ⟨b8, rfl, hSR⟩
  replace hS : St w w2 ([(b8, 26, (tab l.length fun i => ofQ (finQ l cc s i)).flatMap encR)] ++ LO) := hS.join hSR |>.cast (by simp)
  have htl : (tab l.length fun i => ofQ (finQ l cc s i)).length = l.length := tab_len _ _
  refine l_pure rfl (s_move  rfl ?_)
  refine l_pure rfl (s_ext  rfl rfl ?_)
  refine l_pure rfl (s_ext  rfl rfl ?_)
  refine l_pure rfl (s_asg  rfl ?_)
  refine l_pure rfl (s_asg  rfl ?_)
  refine l_nil ?_
  repeat (with_reducible first | refine c_seq ?_ | refine c_block ?_ | refine c_skip ?_ | refine x_then ?_ | refine x_block ?_)
  refine c_forget (fun ρ' => ρ' 1 = .int .u8 cc ∧ ρ' 2 = .int .u8 ss ∧ ρ' 7 = vo ∧ ρ' 8 = .slice (some ⟨b8, 0, none⟩) l.length l.length ∧ ρ' 9 = .int .i64 0 ∧ True) ⟨hk1_1, hk1_2, hk1_7, rfl, rfl, trivial⟩ ?_
  rintro ρk2 ⟨hk2_1, hk2_2, hk2_7, hk2_8, hk2_9, -⟩
  repeat (with_reducible first | refine c_seq ?_ | refine c_block ?_ | refine c_skip ?_ | refine x_then ?_ | refine x_block ?_)
  refine c_reg ?_
  refine l_pure rfl (s_move  hk2_9 ?_)
  refine l_pure rfl (s_neq  rfl rfl ?_)
  refine l_pure rfl (s_move  rfl ?_)
  refine l_pure (gd_yes 27 (by kernel_rfl) rfl rfl) (s_move  hk2_8 ?_)
  refine l_pure (gd_yes 27 (by kernel_rfl) rfl rfl) (s_leno  rfl ⟨_, Tryd.underlying37⟩ ?_)
  refine l_pure (gd_yes 27 (by kernel_rfl) rfl rfl) (s_move  hk2_7 ?_)
  refine l_pure (gd_yes 27 (by kernel_rfl) rfl rfl) (s_lenr  rfl (hG.sl hS encOb_len) ⟨_, Tryd.underlying22⟩ ?_)
  refine l_pure (gd_yes 27 (by kernel_rfl) rfl rfl) (s_neq  rfl rfl ?_)
  refine l_pure rfl (s_pick (vb rfl rfl) rfl ?_)
  refine l_nil ?_
  repeat (with_reducible first | refine c_seq ?_ | refine c_block ?_ | refine c_skip ?_ | refine x_then ?_ | refine x_block ?_)
  refine c_no rfl (decide_eq_false (by omega)) ?_
  repeat (with_reducible first | refine c_seq ?_ | refine c_block ?_ | refine c_skip ?_ | refine x_then ?_ | refine x_block ?_)
  refine c_forget (fun ρ' => ρ' 1 = .int .u8 cc ∧ ρ' 2 = .int .u8 ss ∧ ρ' 7 = vo ∧ ρ' 8 = .slice (some ⟨b8, 0, none⟩) l.length l.length ∧ True) ⟨hk2_1, hk2_2, hk2_7, hk2_8, trivial⟩ ?_
  rintro ρk3 ⟨hk3_1, hk3_2, hk3_7, hk3_8, -⟩
  repeat (with_reducible first | refine c_seq ?_ | refine c_block ?_ | refine c_skip ?_ | refine x_then ?_ | refine x_block ?_)
  refine c_reg ?_
  refine l_pure rfl (s_move  hk3_7 ?_)
  refine l_pure rfl (s_lenr  rfl (hG.sl hS encOb_len) ⟨_, Tryd.underlying22⟩ ?_)
  refine l_pure rfl (s_move  rfl ?_)
  refine l_nil ?_
  repeat (with_reducible first | refine c_seq ?_ | refine c_skip ?_ | refine x_then ?_ | refine x_block ?_)
  rw [← partO_zero l cc s] at hG
  refine c_cut1 (fun ρ w' => ρ 1 = .int .u8 cc ∧ ρ 2 = .int .u8 ss ∧ ρ 7 = vo ∧ ρ 8 = .slice (some ⟨b8, 0, none⟩) l.length l.length ∧ ∃ LO, Gl encOb 28 8 vo (partO l cc s l.length) LO ∧ St w w' ([(b8, 26, (tab l.length fun i => ofQ (finQ l cc s i)).flatMap encR)] ++ LO)) ?_ ?_
  · repeat (with_reducible first | refine c_seq ?_ | refine c_block ?_ | refine c_skip ?_ | refine x_then ?_ | refine x_block ?_)
    refine c_loop (σ := Nat) (fun i ρ w' => i ≤ l.length ∧ ρ 1 = .int .u8 cc ∧ ρ 2 = .int .u8 ss ∧ ρ 7 = vo ∧ ρ 8 = .slice (some ⟨b8, 0, none⟩) l.length l.length ∧ ρ 35 = .int .i64 l.length ∧ ρ 36 = .int .i64 i ∧ ∃ LO, Gl encOb 28 8 vo (partO l cc s i) LO ∧ St w w' ([(b8, 26, (tab l.length fun i => ofQ (finQ l cc s i)).flatMap encR)] ++ LO)) (fun i => l.length - i) 0
      ⟨Nat.zero_le _, by assumption, by assumption, by assumption, by assumption, rfl, rfl, LO, hG, hS⟩ ?_
    clear hS hG
    rintro i ρ w3 ⟨hi, h1, h2, h7, h8, h35, h36, LO, hG, hS⟩
    have hpi := partO_len l cc s i
    repeat (with_reducible first | refine c_seq ?_ | refine c_block ?_ | refine c_skip ?_ | refine x_then ?_ | refine x_block ?_)
    refine c_reg ?_
    refine l_pure rfl (s_lss  h36 h35 ?_)
    refine l_nil ?_
    repeat (with_reducible first | refine c_seq ?_ | refine c_block ?_ | refine c_skip ?_ | refine x_then ?_ | refine x_block ?_)
    by_cases hlt : i < l.length
    · refine c_yes rfl (decide_eq_true (by omega)) ?_
      repeat (with_reducible first | refine c_seq ?_ | refine c_block ?_ | refine c_skip ?_ | refine x_then ?_ | refine x_block ?_)
      have hgi : (tab l.length fun i => ofQ (finQ l cc s i)).getD i zRR = ofQ (finQ l cc s i) := fin_get hlt
      have hgo : (partO l cc s i).getD i zOb = gO l i := by
        have := partO_get l cc s i hlt
        rw [if_neg (by omega)] at this
        exact this
      repeat (with_reducible first | refine c_seq ?_ | refine c_block ?_ | refine c_skip ?_ | refine x_then ?_ | refine x_block ?_)
      refine c_reg ?_
      refine l_pure rfl (s_move  h36 ?_)
      refine l_pure rfl (s_asg  rfl ?_)
      refine l_nil ?_
      repeat (with_reducible first | refine c_seq ?_ | refine c_block ?_ | refine c_skip ?_ | refine x_then ?_ | refine x_block ?_)
      refine c_forget (fun ρ' => ρ' 1 = .int .u8 cc ∧ ρ' 2 = .int .u8 ss ∧ ρ' 7 = vo ∧ ρ' 8 = .slice (some ⟨b8, 0, none⟩) l.length l.length ∧ ρ' 35 = .int .i64 l.length ∧ ρ' 36 = .int .i64 i ∧ ρ' 10 = .int .i64 i ∧ True) ⟨h1, h2, h7, h8, h35, h36, rfl, trivial⟩ ?_
      rintro ρk4 ⟨hk4_1, hk4_2, hk4_7, hk4_8, hk4_35, hk4_36, hk4_10, -⟩
      repeat (with_reducible first | refine c_seq ?_ | refine c_block ?_ | refine c_skip ?_ | refine x_then ?_ | refine x_block ?_)
      refine c_reg ?_
      refine l_pure rfl (s_move  hk4_7 ?_)
      refine l_pure rfl (s_move  hk4_10 ?_)
      refine l_pure rfl (s_move  hk4_8 ?_)
      refine l_pure rfl (s_move  hk4_10 ?_)
      refine l_pure rfl (s_ixo (i := i)  rfl rfl (by omega) (by first | omega | (simp; done) | (simp; omega)) si_37 ?_)
      refine l_read rfl (s_ldE (k := 0) (i := i) (enc := encR) (v := aggR (ofQ (finQ l cc s i))) zRR (fun _ => rfl)  rfl vi_26 hS rfl (by simp) (by omega) (by rw [hgi]; rfl) (.inl rfl) ?_)
      refine l_pure rfl (s_ixr (i := i)  rfl rfl (hG.sl hS encOb_len) (by omega) (by first | omega | (simp; done) | (simp; omega)) si_22 ?_)
      refine l_pure rfl (s_fldr  rfl (spot_el (hG.sl hS encOb_len) (fun _ => rfl) (by decide) (by first | omega | (simp; done) | (simp; omega))) fo_28_2 ?_)
      refine l_heavy rfl (s_stGf (i := i) (setA (gO l i) (ofQ (finQ l cc s i))) zOb (encR (ofQ (finQ l cc s i))) encOb_len  rfl rfl vi_26 hG hS (by omega) rfl rfl (by decide) (by rw [hgo]; rfl) rfl ?_)
      intro wz5 hS
      refine l_nil ?_
      repeat (with_reducible first | refine c_seq ?_ | refine c_block ?_ | refine c_skip ?_ | refine x_then ?_ | refine x_block ?_)
      obtain ⟨LO2, hG2, hS2⟩ := hS
      rw [partO_set l cc s hlt] at hG2
      repeat (with_reducible first | refine c_seq ?_ | refine c_block ?_ | refine c_skip ?_ | refine x_then ?_ | refine x_block ?_)
      refine c_reg ?_
      refine l_pure rfl (s_add  hk4_36 rfl (IntWalk.i64_in _ (by omega)) ?_)
      refine l_pure rfl (s_move  rfl ?_)
      refine l_nil ?_
      repeat (with_reducible first | refine c_seq ?_ | refine c_block ?_ | refine c_skip ?_ | refine x_then ?_ | refine x_block ?_)
      exact ⟨i + 1, _, rfl, ⟨hlt, by assumption, by assumption, by assumption, by assumption, by assumption, vi rfl (by omega), LO2, hG2, hS2⟩, by omega⟩
    · refine c_no rfl (decide_eq_false (by omega)) ?_
      repeat (with_reducible first | refine c_seq ?_ | refine c_block ?_ | refine c_skip ?_ | refine x_then ?_ | refine x_block ?_)
      refine c_exit ?_
      repeat (with_reducible first | refine x_then_exit ?_ | refine x_block_exit ?_ | refine x_block_pass rfl ?_)
      repeat (with_reducible first | refine c_seq ?_ | refine c_block ?_ | refine c_skip ?_ | refine x_then ?_ | refine x_block ?_)
      obtain rfl : i = l.length := by omega
      exact ⟨_, rfl, h1, h2, h7, h8, LO, hG, hS⟩
  clear hS hG
  rintro ρ w3 ⟨h1, h2, h7, h8, LO, hG, hS⟩
  repeat (with_reducible first | refine c_seq ?_ | refine c_block ?_ | refine c_skip ?_ | refine x_then ?_ | refine x_block ?_)
  refine c_reg ?_
  refine l_pure rfl (s_move  h7 ?_)
  refine l_pure rfl (s_move  h1 ?_)
  refine l_pure rfl (s_conv  rfl Tryd.underlying3 ⟨_, Tryd.underlying5⟩ (IntWalk.i64_in _ (by omega)) ?_)
  refine l_pure rfl (s_move  h2 ?_)
  refine l_pure rfl (s_rem  rfl rfl (by omega) (r := ((ss % 40 : Nat) : Int)) (by exact rem_nat ss 40) ?_)
  refine l_pure rfl (s_conv  rfl Tryd.underlying3 ⟨_, Tryd.underlying5⟩ (r := ((ss % 40 : Nat) : Int)) (by exact wr_i64 _ ⟨rfl, by omega, by omega⟩) ?_)
  rw [← hs]
  refine l_heavy rfl (s_call Tryd.call18 rfl (OApply_ok 4 cc s _ (partO l cc s l.length) 84 _ (hG.sl hS encOb_len) hB2 (by rw [hM]; decide) (by rw [hpl]; omega)) ?_)
  rintro r w4 ⟨⟨vr, rfl, hr⟩, hB4⟩
  rw [hC2]
  rw [hR2] at hr
  replace hS := hS.grow hB4
  refine l_pure rfl (s_move  rfl ?_)
  refine l_pure rfl (s_ext  rfl rfl ?_)
  refine l_pure rfl (s_ext  rfl rfl ?_)
  refine l_pure rfl (s_asg  rfl ?_)
  refine l_pure rfl (s_asg  rfl ?_)
  refine l_nil ?_
  repeat (with_reducible first | refine c_seq ?_ | refine c_block ?_ | refine c_skip ?_ | refine x_then ?_ | refine x_block ?_)
  refine c_forget (fun ρ' => ρ' 8 = .slice (some ⟨b8, 0, none⟩) l.length l.length ∧ ρ' 11 = vr ∧ ρ' 12 = .int .i64 0 ∧ True) ⟨h8, rfl, rfl, trivial⟩ ?_
  rintro ρk6 ⟨hk6_8, hk6_11, hk6_12, -⟩
  repeat (with_reducible first | refine c_seq ?_ | refine c_block ?_ | refine c_skip ?_ | refine x_then ?_ | refine x_block ?_)
  refine c_reg ?_
  refine l_heavy rfl (s_call Tryd.call12 rfl (Oawake_ok _) ?_)
  rintro r w5 ⟨rfl, hB5⟩
  replace hS := hS.grow hB5
  replace hr := hr.below hB5
  refine l_pure rfl (s_move  rfl ?_)
  refine l_pure (gd_yes 59 (by kernel_rfl) rfl rfl) (s_move  hk6_12 ?_)
  refine l_pure (gd_yes 59 (by kernel_rfl) rfl rfl) (s_eql  rfl rfl ?_)
  refine l_pure rfl (s_pick (vb rfl rfl) rfl ?_)
  refine l_pure rfl (s_move  rfl ?_)
  refine l_pure (gd_yes 63 (by kernel_rfl) rfl (decide_eq_true rfl)) (s_move  hk6_8 ?_)
  refine l_pure (gd_yes 63 (by kernel_rfl) rfl (decide_eq_true rfl)) (s_move  hk6_11 ?_)
  refine l_heavy (gd_yes 63 (by kernel_rfl) rfl (decide_eq_true rfl)) (s_call Tryd.call22 rfl (SameRats_ok _ _ _ _ _ (sl_tab (by omega) hS) hr) ?_)
  rintro r w6 ⟨rfl, hB6⟩
  replace hS := hS.grow hB6
  refine l_pure rfl (s_pick (vb rfl (decide_eq_true rfl)) rfl ?_)
  refine l_pure rfl (s_asg  rfl ?_)
  refine l_nil ?_
  repeat (with_reducible first | refine c_seq ?_ | refine c_block ?_ | refine c_skip ?_ | refine x_then ?_ | refine x_block ?_)
  refine c_ret ?_
  repeat (with_reducible first | refine x_then_ret ?_ | refine x_block_ret ?_)
  refine r_one rfl rfl ?_
  exact ⟨vb rfl (decide_eq_true rfl), hS.below⟩
end Go.Proofs.YtdafaibhiobpaaaDoor
