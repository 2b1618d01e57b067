/-
  Part 6 of the texts that the law's proof is made of: the framework and the walks.
-/
import Derived.Test.YtblfipdfklpmmaaDoorPo5
namespace Go.Proofs.YtblfipdfklpmmaaDoor
open Go Go.RowKit Go.Sx
def frL (P : List Nat) (n : Nat) : List Nat := (List.range n).filter fun f => !decide (f ∈ P)
theorem frL_succ (P : List Nat) (n : Nat) : frL P (n + 1) = if n ∈ P then frL P n else frL P n ++ [n] := by
  unfold frL
  rw [List.range_succ, List.filter_append]
  by_cases h : n ∈ P
  · rw [if_pos h, List.filter_cons_of_neg (by simp [h])]; simp
  · rw [if_neg h, List.filter_cons_of_pos (by simp [h])]; rfl
def krRow (M : Mx) (P : List Nat) (m f : Nat) : List RR := tab m fun j => ofQ (kv P M f j)
def krL (A : List (List RR)) : List (List RR) := if shpE A = 0 then (frL (rdA A).P (colsA A)).map (krRow (rdA A).M (rdA A).P (colsA A)) else []
/-- Rows of one's own, one after another. -/
def RwOk {α : Type} (R : List (Rw α)) : Prop := ∀ r ∈ R, r.X.length ≤ r.cap ∧ r.cap ≤ 9223372036854775807
theorem rows_mts {α : Type} {enc : α → List Value} {size : Nat} (hu : ∀ x, (enc x).length = size) {t tS : TypeId} {R : List (Rw α)} {vo : Value} {LO : List Blk} {w0 w : World} (hok : RwOk R) (hG : Gl enV tS 1 vo (R.map Rw.v) LO) (hS : St w0 w (R.map (Rw.blk enc t) ++ LO)) :
    Mts enc size w vo (R.map (·.X)) (R.map Rw.v) := by
  refine ⟨by rw [List.length_map, List.length_map], hG.sl hS (fun _ => rfl), fun i hi => ?_⟩
  rw [List.length_map] at hi
  have hr := hok _ (getD_mem R i zRw hi)
  have hk : (R.map (Rw.blk enc t) ++ LO)[i]? = some ((R.getD i zRw).b, t, (R.getD i zRw).X.flatMap enc ++ (R.getD i zRw).sp) := by
    rw [List.getElem?_append_left (by rw [List.length_map]; exact hi), List.getElem?_map, List.getElem?_eq_getElem hi, getD_ge R zRw hi]; rfl
  have h := hS.slg hk hu (n := (R.getD i zRw).X.length) (cap := (R.getD i zRw).cap) (Nat.le_refl _) hr.1 hr.2
  rw [List.take_of_length_le (Nat.le_refl _)] at h
  have e1 : (R.map Rw.v).getD i undef = (R.getD i zRw).v := by rw [List.getD_eq_getElem?_getD, mB_row hi]; rfl
  have e2 : (R.map (·.X)).getD i [] = (R.getD i zRw).X := by rw [getD_ge _ _ (by rw [List.length_map]; exact hi), List.getElem_map, getD_ge R zRw hi]
  rw [e1, e2]
  exact h
/-- A vector of the kernel while it is made. -/
def kvF (P : List Nat) (M : Mx) (f k j : Nat) : Rat := if j = f then 1 else if j ∈ P.take k then - M (P.idxOf j) f else 0
theorem kvF_all (P : List Nat) (M : Mx) (f j : Nat) : kvF P M f P.length j = kv P M f j := by unfold kvF kv; rw [List.take_length]
theorem kvF_set {P : List Nat} {M : Mx} {f k m : Nat} (hi : P.Pairwise (· < ·)) (hf : f ∉ P) (hk : k < P.length) : (tab m fun j => ofQ (kvF P M f k j)).set (P.getD k 0) (ofQ (- M k f)) = tab m fun j => ofQ (kvF P M f (k + 1) j) := by
  rw [tabQ_set]
  refine tab_congr fun j _ => ?_
  congr 1
  have ht := take_succ' P k 0 hk
  unfold kvF
  by_cases h : j = P.getD k 0
  · have hm : P.getD k 0 ∈ P := getD_mem P k 0 hk
    rw [if_pos h, h, if_neg (fun e => hf (by rw [← e]; exact hm)), ht, if_pos (by simp)]
    have : P.idxOf (P.getD k 0) = k := by
      rw [getD_ge P 0 hk]; exact (inc_nodup hi).idxOf_getElem k hk
    rw [this]
  · rw [if_neg h]
    by_cases h2 : j = f
    · rw [if_pos h2, if_pos h2]
    · rw [if_neg h2, if_neg h2, ht]
      by_cases h3 : j ∈ P.take k
      · rw [if_pos h3, if_pos (List.mem_append_left _ h3)]
      · rw [if_neg h3, if_neg (fun e => by
          rcases List.mem_append.1 e with g | g
          · exact h3 g
          · exact h (List.mem_singleton.1 g))]
theorem kvF_zero {m f : Nat} (P : List Nat) (M : Mx) : (List.replicate m zRR).set f (ofQ ((1 : Int) : Rat)) = tab m fun j => ofQ (kvF P M f 0 j) := by
  rw [tab_rep, tab_set]
  refine tab_congr fun j _ => ?_
  unfold kvF
  by_cases h : j = f
  · rw [if_pos h, if_pos h]; rfl
  · rw [if_neg h, if_neg h, List.take_zero, if_neg (by simp), ofQ_zero]; rfl
set_option maxHeartbeats 4000000 in
theorem lKernel_ok (v : Value) (A : List (List RR)) (vs : List Value) (K : Nat) (w : World) (hA : Mts encR 3 w v A vs) (hB : RBM K A) (hK : 8 * BB K 16 ≤ MX) :
    Ret Tryd.prog 18 #[v] w fun r w' => (∃ v' vs', r = .tuple #[v', .int .i64 (shpE A)] ∧ Mts encR 3 w' v' (krL A) vs') ∧ Below w.heap.size w w' := by
  have hM : MX = 1099511627776 := rfl
  have hS := St.init w
  refine enter Tryd.func18 rfl Tryd.ntmps18 rfl ?_
  repeat (with_reducible first | refine c_seq ?_ | refine c_block ?_ | refine c_skip ?_ | refine x_then ?_ | refine x_block ?_)
  refine c_reg ?_
  refine l_pure rfl (s_asg  rfl ?_)
  refine l_pure rfl (s_asg  rfl ?_)
  refine l_nil ?_
  repeat (with_reducible first | refine c_seq ?_ | refine c_block ?_ | refine c_skip ?_ | refine x_then ?_ | refine x_block ?_)
  refine c_reg ?_
  refine l_pure rfl (s_move  rfl ?_)
  refine l_heavy rfl (s_call Tryd.call11 rfl (lReduce_ok v A vs K _ (hA.below hS.below) hB hK) ?_)
  rintro r w2 ⟨⟨v', vs', vp, rfl, hm, hp⟩, hB2⟩
  replace hS := hS.grow hB2
  refine l_pure rfl (s_move  rfl ?_)
  refine l_pure rfl (s_ext  rfl rfl ?_)
  refine l_pure rfl (s_ext  rfl rfl ?_)
  refine l_pure rfl (s_ext  rfl rfl ?_)
  refine l_pure rfl (s_asg  rfl ?_)
  refine l_pure rfl (s_asg  rfl ?_)
  refine l_pure rfl (s_asg  rfl ?_)
  refine l_nil ?_
  repeat (with_reducible first | refine c_seq ?_ | refine c_block ?_ | refine c_skip ?_ | refine x_then ?_ | refine x_block ?_)
  refine c_reg ?_
  refine l_pure rfl (s_move  rfl ?_)
  refine l_pure rfl (s_neq  rfl rfl ?_)
  refine l_nil ?_
  repeat (with_reducible first | refine c_seq ?_ | refine c_block ?_ | refine c_skip ?_ | refine x_then ?_ | refine x_block ?_)
  by_cases he : shpE A ≠ 0
  · have e1 : krL A = [] := if_neg he
    rw [e1]
    refine c_yes rfl (decide_eq_true (by omega)) ?_
    repeat (with_reducible first | refine c_seq ?_ | refine c_block ?_ | refine c_skip ?_ | refine x_then ?_ | refine x_block ?_)
    refine c_reg ?_
    refine l_pure rfl (s_move  rfl ?_)
    refine l_pure rfl (s_asg  rfl ?_)
    refine l_pure rfl (s_asg  rfl ?_)
    refine l_nil ?_
    repeat (with_reducible first | refine c_seq ?_ | refine c_block ?_ | refine c_skip ?_ | refine x_then ?_ | refine x_block ?_)
    refine c_ret ?_
    repeat (with_reducible first | refine x_then_ret ?_ | refine x_block_ret ?_)
    refine r_two rfl rfl rfl ?_
    exact ⟨⟨_, [], rfl, Mts.nil _ _ _⟩, hS.below⟩
  replace he := Decidable.not_not.1 he
  obtain ⟨h1, h2, h3, h4, h5⟩ := shpE_zero he
  have e1 : krL A = (frL (rdA A).P (colsA A)).map (krRow (rdA A).M (rdA A).P (colsA A)) := if_pos he
  have e2 : rdL A = tabM A.length (colsA A) (qM (rdA A).M) := if_pos he
  have e3 : rdP A = (rdA A).P := if_pos he
  have hI : RInv A.length (colsA A) (rdA A) := rinv A.length (RM A) (colsA A)
  have hLs := (rdc_L (n := A.length) (M := RM A) (K := K) (fun i hi j hj => RM_L hB hi (by rw [h5 i hi]; exact hj)) (colsA A) (Nat.le_refl _)).1
  have hbk := BB_ok hK h2
  have hbm := BB_mono K hI.len
  change ∀ i, i < A.length → ∀ j, j < colsA A → L ((rdA A).M i j) + 1 ≤ BB K (rdA A).P.length at hLs
  rw [e1]
  rw [e2] at hm
  rw [e3] at hp
  obtain ⟨n, hn⟩ : ∃ n, n = A.length := ⟨_, rfl⟩
  obtain ⟨m, hm'⟩ : ∃ m, m = colsA A := ⟨_, rfl⟩
  obtain ⟨s, hs⟩ : ∃ s, s = rdA A := ⟨_, rfl⟩
  rw [← hn, ← hm', ← hs] at hI hm
  rw [← hn, ← hm', ← hs] at hLs
  rw [← hs] at hp hbm
  rw [← hn] at h1 h2 hbk hbm
  rw [← hm'] at h3 h4
  rw [← hm', ← hs, he]
  refine c_no rfl (decide_eq_false (by omega)) ?_
  repeat (with_reducible first | refine c_seq ?_ | refine c_block ?_ | refine c_skip ?_ | refine x_then ?_ | refine x_block ?_)
  have hf0 := hm.row 0 (by rw [tabM_len]; omega)
  rw [tabM_row _ (by omega)] at hf0
  have htl0 := tab_len m (qM s.M 0)
  have hsl := hm.sl
  have hvl := hm.len
  rw [tabM_len] at hvl
  have hS0 := hS
  repeat (with_reducible first | refine c_seq ?_ | refine c_block ?_ | refine c_skip ?_ | refine x_then ?_ | refine x_block ?_)
  refine c_reg ?_
  refine l_pure rfl (s_asg  rfl ?_)
  refine l_nil ?_
  repeat (with_reducible first | refine c_seq ?_ | refine c_block ?_ | refine c_skip ?_ | refine x_then ?_ | refine x_block ?_)
  refine c_reg ?_
  refine l_pure rfl (s_move  rfl ?_)
  refine l_pure rfl (s_ixr (i := 0)  rfl rfl hsl (by omega) (by first | omega | (simp; done) | (simp; omega)) si_24 ?_)
  refine l_read rfl (s_lde (i := 0) undef  rfl vi_30 hsl (by first | omega | (simp; done) | (simp; omega)) rfl rfl (.inr rfl) ?_)
  refine l_pure rfl (s_lenr  rfl hf0 ⟨_, Tryd.underlying30⟩ ?_)
  refine l_pure rfl (s_move  rfl ?_)
  refine l_nil ?_
  repeat (with_reducible first | refine c_seq ?_ | refine c_skip ?_ | refine x_then ?_ | refine x_block ?_)
  refine c_cut1 (fun ρ w' => ∃ vo LO R, ρ 7 = vo ∧ RwOk R ∧ R.map (·.X) = (frL s.P m).map (krRow s.M s.P m) ∧ Gl enV 30 1 vo (R.map Rw.v) LO ∧ St w2 w' (R.map (Rw.blk encR 27) ++ LO)) ?_ ?_
  · repeat (with_reducible first | refine c_seq ?_ | refine c_block ?_ | refine c_skip ?_ | refine x_then ?_ | refine x_block ?_)
    refine c_loop (σ := Nat) (fun f ρ w' => f ≤ m ∧ ρ 4 = v' ∧ ρ 5 = vp ∧ ρ 24 = .int .i64 m ∧ ρ 25 = .int .i64 f ∧ ∃ vo LO R, ρ 7 = vo ∧ RwOk R ∧ R.map (·.X) = (frL s.P f).map (krRow s.M s.P m) ∧ Gl enV 30 1 vo (R.map Rw.v) LO ∧ St w2 w' (R.map (Rw.blk encR 27) ++ LO)) (fun f => m - f) 0
      ⟨Nat.zero_le _, rfl, rfl, vi rfl (by omega), rfl, _, [], [], rfl, (fun _ h => by cases h), rfl, Gl.nil _ _ _, St.init w2⟩ ?_
    rintro f ρ w3 ⟨hf, h4', h5', h24, h25, vo, LO, R, h7, hok, hRX, hG, hT⟩
    clear hS
    have hS := hT
    clear hT
    repeat (with_reducible first | refine c_seq ?_ | refine c_block ?_ | refine c_skip ?_ | refine x_then ?_ | refine x_block ?_)
    refine c_reg ?_
    refine l_pure rfl (s_lss  h25 h24 ?_)
    refine l_nil ?_
    repeat (with_reducible first | refine c_seq ?_ | refine c_block ?_ | refine c_skip ?_ | refine x_then ?_ | refine x_block ?_)
    by_cases hlt : f < m
    · refine c_yes rfl (decide_eq_true (by omega)) ?_
      repeat (with_reducible first | refine c_seq ?_ | refine c_block ?_ | refine c_skip ?_ | refine x_then ?_ | refine x_block ?_)
      refine c_reg ?_
      refine l_pure rfl (s_move  h25 ?_)
      refine l_pure rfl (s_asg  rfl ?_)
      refine l_nil ?_
      repeat (with_reducible first | refine c_seq ?_ | refine c_block ?_ | refine c_skip ?_ | refine x_then ?_ | refine x_block ?_)
      refine c_reg ?_
      refine l_pure rfl (s_move  h5' ?_)
      refine l_pure rfl (s_move  rfl ?_)
      refine l_heavy rfl (s_call Tryd.call36 rfl (ContainsI_ok vp (nI s.P) f _ (hp.below hS.below)) ?_)
      rintro _ wq1 ⟨rfl, hq1⟩
      replace hq1 := hq1.symm
      subst hq1
      refine l_nil ?_
      repeat (with_reducible first | refine c_seq ?_ | refine c_block ?_ | refine c_skip ?_ | refine x_then ?_ | refine x_block ?_)
      have hfs := frL_succ s.P f
      by_cases hfP : f ∈ s.P
      · rw [if_pos hfP] at hfs
        refine c_yes rfl (decide_eq_true (mem_nI.2 hfP)) ?_
        repeat (with_reducible first | refine c_seq ?_ | refine c_block ?_ | refine c_skip ?_ | refine x_then ?_ | refine x_block ?_)
        refine c_exit ?_
        repeat (with_reducible first | refine x_then_exit ?_ | refine x_block_exit ?_ | refine x_block_pass rfl ?_)
        repeat (with_reducible first | refine c_seq ?_ | refine c_block ?_ | refine c_skip ?_ | refine x_then ?_ | refine x_block ?_)
        refine c_reg ?_
        refine l_pure rfl (s_add  h25 rfl (IntWalk.i64_in _ (by omega)) ?_)
        refine l_pure rfl (s_move  rfl ?_)
        refine l_nil ?_
        repeat (with_reducible first | refine c_seq ?_ | refine c_block ?_ | refine c_skip ?_ | refine x_then ?_ | refine x_block ?_)
        exact ⟨f + 1, _, rfl, ⟨hlt, by assumption, by assumption, by assumption, vi rfl (by omega), vo, LO, R, by assumption, hok, by rw [hfs]; exact hRX, hG, hS⟩, by omega⟩
      · rw [if_neg hfP] at hfs
        refine c_no rfl (decide_eq_false (fun h => hfP (mem_nI.1 h))) ?_
        repeat (with_reducible first | refine c_seq ?_ | refine c_block ?_ | refine c_skip ?_ | refine x_then ?_ | refine x_block ?_)
        have hnl := nI_len s.P
        repeat (with_reducible first | refine c_seq ?_ | refine c_block ?_ | refine c_skip ?_ | refine x_then ?_ | refine x_block ?_)
        refine c_reg ?_
        refine l_pure rfl (s_move  h4' ?_)
        refine l_pure rfl (s_ixr (i := 0)  rfl rfl (hsl.below hS.below) (by omega) (by first | omega | (simp; done) | (simp; omega)) si_24 ?_)
        refine l_read rfl (s_lde (i := 0) undef  rfl vi_30 (hsl.below hS.below) (by first | omega | (simp; done) | (simp; omega)) rfl rfl (.inr rfl) ?_)
        refine l_pure rfl (s_lenr  rfl (hf0.below hS.below) ⟨_, Tryd.underlying30⟩ ?_)
        refine l_heavy rfl (s_makeE (enc := encR) (n := m) zRR  rfl rfl si_30 rfl (by omega) (by omega) (by omega) (by omega) hS ?_)
        intro b35 wz2 hS hBz2
        refine l_pure rfl (s_asg  rfl ?_)
        refine l_nil ?_
        repeat (with_reducible first | refine c_seq ?_ | refine c_block ?_ | refine c_skip ?_ | refine x_then ?_ | refine x_block ?_)
        refine c_reg ?_
        refine l_pure rfl (s_move  rfl ?_)
        refine l_pure rfl (s_move  rfl ?_)
        refine l_heavy rfl (s_call Tryd.call32 rfl (QInt_ok 1 _ (by decide) (by decide)) ?_)
        rintro _ wc3 ⟨rfl, hBc3⟩
        replace hS := hS.grow hBc3
        refine l_pure rfl (s_ixo (i := f)  rfl rfl (by omega) (by first | omega | (simp; done) | (simp; omega)) si_30 ?_)
        refine l_heavy rfl (s_stE (k := 0) (i := f) (enc := encR) (ofQ ((1 : Int) : Rat)) (fun _ => rfl)  rfl rfl vi_27 hS rfl (by first | omega | simp) (by first | omega | (simp; done) | (simp; omega)) rfl rfl ?_)
        intro wz4 hS
        refine l_nil ?_
        repeat (with_reducible first | refine c_seq ?_ | refine c_block ?_ | refine c_skip ?_ | refine x_then ?_ | refine x_block ?_)
        replace hS : St w2 _ ((b35, 27, ((List.replicate m zRR).set f (ofQ ((1 : Int) : Rat))).flatMap encR) :: (R.map (Rw.blk encR 27) ++ LO)) := hS
        rw [kvF_zero s.P s.M] at hS
        repeat (with_reducible first | refine c_seq ?_ | refine c_block ?_ | refine c_skip ?_ | refine x_then ?_ | refine x_block ?_)
        refine c_reg ?_
        refine l_pure rfl (s_move  h5' ?_)
        refine l_pure rfl (s_lenr  rfl (hp.below hS.below) ⟨_, Tryd.underlying31⟩ ?_)
        refine l_pure rfl (s_move  rfl ?_)
        refine l_nil ?_
        repeat (with_reducible first | refine c_seq ?_ | refine c_skip ?_ | refine x_then ?_ | refine x_block ?_)
        refine c_cut1 (fun ρ w' => ρ 4 = v' ∧ ρ 5 = vp ∧ ρ 7 = vo ∧ ρ 9 = .slice (some ⟨b35, 0, none⟩) m m ∧ ρ 24 = .int .i64 m ∧ ρ 25 = .int .i64 f ∧ St w2 w' ((b35, 27, (krRow s.M s.P m f).flatMap encR) :: (R.map (Rw.blk encR 27) ++ LO))) ?_ ?_
        · repeat (with_reducible first | refine c_seq ?_ | refine c_block ?_ | refine c_skip ?_ | refine x_then ?_ | refine x_block ?_)
          refine c_loop (σ := Nat) (fun k ρ w' => k ≤ s.P.length ∧ ρ 4 = v' ∧ ρ 5 = vp ∧ ρ 7 = vo ∧ ρ 8 = .int .i64 f ∧ ρ 9 = .slice (some ⟨b35, 0, none⟩) m m ∧ ρ 24 = .int .i64 m ∧ ρ 25 = .int .i64 f ∧ ρ 40 = vp ∧ ρ 41 = .int .i64 s.P.length ∧ ρ 42 = .int .i64 k ∧ St w2 w' ((b35, 27, (tab m fun j => ofQ (kvF s.P s.M f k j)).flatMap encR) :: (R.map (Rw.blk encR 27) ++ LO))) (fun k => s.P.length - k) 0
            ⟨Nat.zero_le _, by assumption, by assumption, by assumption, rfl, rfl, by assumption, by assumption, rfl, vi rfl (by omega), rfl, hS⟩ ?_
          clear hS
          rintro k ρ w4 ⟨hk, h4', h5', h7, h8, h9, h24, h25, h40, h41, h42, hS⟩
          have htl := tab_len m fun j => ofQ (kvF s.P s.M f k j)
          repeat (with_reducible first | refine c_seq ?_ | refine c_block ?_ | refine c_skip ?_ | refine x_then ?_ | refine x_block ?_)
          refine c_reg ?_
          refine l_pure rfl (s_lss  h42 h41 ?_)
          refine l_nil ?_
          repeat (with_reducible first | refine c_seq ?_ | refine c_block ?_ | refine c_skip ?_ | refine x_then ?_ | refine x_block ?_)
          by_cases hkl : k < s.P.length
          · refine c_yes rfl (decide_eq_true (by omega)) ?_
            repeat (with_reducible first | refine c_seq ?_ | refine c_block ?_ | refine c_skip ?_ | refine x_then ?_ | refine x_block ?_)
            have hrk := hm.row k (by rw [tabM_len]; have := hI.len; omega)
            have hkn : k < n := by have := hI.len; omega
            rw [tabM_row _ hkn] at hrk
            have htk := tab_len m (qM s.M k)
            have hgk : (tab m (qM s.M k)).getD f zRR = ofQ (s.M k f) := tab_get _ _ hlt
            have hpk : s.P.getD k 0 < m := hI.lt _ (getD_mem _ _ _ hkl)
            have hpv : (nI s.P).getD k 0 = ((s.P.getD k 0 : Nat) : Int) := by
              unfold nI
              rw [getD_ge _ _ (by rw [List.length_map]; exact hkl), List.getElem_map, getD_ge s.P 0 hkl]
            have hLk := hLs k hkn f hlt
            have hneg := fun w => QNegate_ok (ofQ (s.M k f)) w (by rw [Lr_ofQ]; omega)
            rw [toQ_ofQ] at hneg
            repeat (with_reducible first | refine c_seq ?_ | refine c_block ?_ | refine c_skip ?_ | refine x_then ?_ | refine x_block ?_)
            refine c_reg ?_
            refine l_pure rfl (s_move  h42 ?_)
            refine l_pure rfl (s_ixr (i := k)  h40 h42 (hp.below hS.below) (by omega) (by first | omega | (simp; done) | (simp; omega)) si_31 ?_)
            refine l_read rfl (s_lde (i := k) 0  rfl vi_3 (hp.below hS.below) (by first | omega | (simp; done) | (simp; omega)) rfl rfl (.inr rfl) ?_)
            refine l_pure rfl (s_asg  rfl ?_)
            refine l_pure rfl (s_asg  rfl ?_)
            refine l_nil ?_
            repeat (with_reducible first | refine c_seq ?_ | refine c_block ?_ | refine c_skip ?_ | refine x_then ?_ | refine x_block ?_)
            rw [hpv]
            repeat (with_reducible first | refine c_seq ?_ | refine c_block ?_ | refine c_skip ?_ | refine x_then ?_ | refine x_block ?_)
            refine c_reg ?_
            refine l_pure rfl (s_move  h9 ?_)
            refine l_pure rfl (s_move  rfl ?_)
            refine l_pure rfl (s_move  h4' ?_)
            refine l_pure rfl (s_move  rfl ?_)
            refine l_pure rfl (s_ixr (i := k)  rfl rfl (hsl.below hS.below) (by omega) (by first | omega | (simp; done) | (simp; omega)) si_24 ?_)
            refine l_read rfl (s_lde (i := k) undef  rfl vi_30 (hsl.below hS.below) (by first | omega | (simp; done) | (simp; omega)) rfl rfl (.inr rfl) ?_)
            refine l_pure rfl (s_move  h8 ?_)
            refine l_pure rfl (s_ixr (i := f)  rfl rfl (hrk.below hS.below) (by omega) (by first | omega | (simp; done) | (simp; omega)) si_30 ?_)
            refine l_read rfl (s_lde (i := f) zRR  rfl vi_27 (hrk.below hS.below) (by first | omega | (simp; done) | (simp; omega)) rfl rfl (.inl rfl) ?_)
            rw [hgk]
            refine l_heavy rfl (s_call Tryd.call16 rfl (hneg _) ?_)
            rintro _ wc5 ⟨rfl, hBc5⟩
            replace hS := hS.grow hBc5
            refine l_pure rfl (s_ixo (i := (s.P.getD k 0))  rfl rfl (by omega) (by first | omega | (simp; done) | (simp; omega)) si_30 ?_)
            refine l_heavy rfl (s_stE (k := 0) (i := (s.P.getD k 0)) (enc := encR) (ofQ (- s.M k f)) (fun _ => rfl)  rfl rfl vi_27 hS rfl (by first | omega | simp) (by first | omega | (simp; done) | (simp; omega)) rfl rfl ?_)
            intro wz6 hS
            refine l_nil ?_
            repeat (with_reducible first | refine c_seq ?_ | refine c_block ?_ | refine c_skip ?_ | refine x_then ?_ | refine x_block ?_)
            replace hS : St w2 _ ((b35, 27, ((tab m fun j => ofQ (kvF s.P s.M f k j)).set (s.P.getD k 0) (ofQ (- s.M k f))).flatMap encR) :: (R.map (Rw.blk encR 27) ++ LO)) := hS
            rw [kvF_set hI.inc hfP hkl] at hS
            repeat (with_reducible first | refine c_seq ?_ | refine c_block ?_ | refine c_skip ?_ | refine x_then ?_ | refine x_block ?_)
            refine c_reg ?_
            refine l_pure rfl (s_add  h42 rfl (IntWalk.i64_in _ (by omega)) ?_)
            refine l_pure rfl (s_move  rfl ?_)
            refine l_nil ?_
            repeat (with_reducible first | refine c_seq ?_ | refine c_block ?_ | refine c_skip ?_ | refine x_then ?_ | refine x_block ?_)
            exact ⟨k + 1, _, rfl, ⟨hkl, by assumption, by assumption, by assumption, by assumption, by assumption, by assumption, by assumption, by assumption, by assumption, vi rfl (by omega), hS⟩, by omega⟩
          · refine c_no rfl (decide_eq_false (by omega)) ?_
            repeat (with_reducible first | refine c_seq ?_ | refine c_block ?_ | refine c_skip ?_ | refine x_then ?_ | refine x_block ?_)
            refine c_exit ?_
            repeat (with_reducible first | refine x_then_exit ?_ | refine x_block_exit ?_ | refine x_block_pass rfl ?_)
            repeat (with_reducible first | refine c_seq ?_ | refine c_block ?_ | refine c_skip ?_ | refine x_then ?_ | refine x_block ?_)
            obtain rfl : k = s.P.length := by omega
            have ek : (tab m fun j => ofQ (kvF s.P s.M f s.P.length j)) = krRow s.M s.P m f := tab_congr fun j _ => by rw [kvF_all]
            rw [ek] at hS
            exact ⟨_, rfl, h4', h5', h7, h9, h24, h25, hS⟩
        clear hS
        rintro ρ w4 ⟨h4', h5', h7, h9, h24, h25, hS⟩
        have hkl := tab_len m fun j => ofQ (kv s.P s.M f j)
        have hvn : (R.map Rw.v).length = R.length := List.length_map _
        have hRl : R.length ≤ f := by
          have := congrArg List.length hRX
          rw [List.length_map, List.length_map] at this
          have h2 := List.length_filter_le (fun f => !decide (f ∈ s.P)) (List.range f)
          rw [List.length_range] at h2
          unfold frL at this
          omega
        repeat (with_reducible first | refine c_seq ?_ | refine c_block ?_ | refine c_skip ?_ | refine x_then ?_ | refine x_block ?_)
        rw [← List.cons_append] at hS
        repeat (with_reducible first | refine c_seq ?_ | refine c_block ?_ | refine c_skip ?_ | refine x_then ?_ | refine x_block ?_)
        refine c_reg ?_
        refine l_pure rfl (s_move  h7 ?_)
        refine l_pure rfl (s_move  h9 ?_)
        refine l_heavy rfl (s_bsl (vs := [.slice (some ⟨b35, 0, none⟩) m m])  rfl si_24 rfl (by decide) (by decide) (by decide) (by simp [Value.cells]) rfl hS ?_)
        intro b7 wz8 hS hBz8
        refine l_heavy rfl (s_appl [Value.slice (some ⟨b35, 0, none⟩) m m]  rfl rfl si_24 (by decide) hG hS rfl rfl (fun _ => rfl) (fun u hu => by rw [List.mem_singleton.1 (show u ∈ [Value.slice (some ⟨b35, 0, none⟩) m m] from hu)]; rfl) (by first | omega | (simp only [List.length_cons, List.length_nil]; omega)) (by first | omega | (simp only [List.length_cons, List.length_nil]; omega)) ?_)
        intro va9 La9 wa9 hG hS hga9
        refine l_pure rfl (s_asg  rfl ?_)
        refine l_nil ?_
        repeat (with_reducible first | refine c_seq ?_ | refine c_block ?_ | refine c_skip ?_ | refine x_then ?_ | refine x_block ?_)
        refine c_reg ?_
        refine l_pure rfl (s_add  h25 rfl (IntWalk.i64_in _ (by omega)) ?_)
        refine l_pure rfl (s_move  rfl ?_)
        refine l_nil ?_
        repeat (with_reducible first | refine c_seq ?_ | refine c_block ?_ | refine c_skip ?_ | refine x_then ?_ | refine x_block ?_)
        obtain ⟨nr, hnr⟩ : ∃ nr : Rw RR, nr = ⟨b35, m, krRow s.M s.P m f, []⟩ := ⟨_, rfl⟩
        have evv : R.map Rw.v ++ [Value.slice (some ⟨b35, 0, none⟩) m m] = (R ++ [nr]).map Rw.v := by
          rw [List.map_append, hnr]
          show _ = R.map Rw.v ++ [Value.slice (some ⟨b35, 0, none⟩) (krRow s.M s.P m f).length m]
          unfold krRow; rw [hkl]
        have eb : ∀ T : List Blk, ((b35, 27, (krRow s.M s.P m f).flatMap encR) :: R.map (Rw.blk encR 27) ++ T).Perm ((R ++ [nr]).map (Rw.blk encR 27) ++ T) := by
          intro T
          have : List.map (Rw.blk encR 27) [nr] = [(b35, 27, (krRow s.M s.P m f).flatMap encR)] := by
            rw [hnr]
            show [(b35, 27, (krRow s.M s.P m f).flatMap encR ++ [])] = _
            rw [List.append_nil]
          rw [List.map_append, this]
          exact List.Perm.append_right _ (List.perm_append_singleton _ _).symm
        rw [evv] at hG
        have hS2 := hS.perm (eb _)
        refine ⟨f + 1, _, rfl, ⟨hlt, by assumption, by assumption, by assumption, vi rfl (by omega), _, _, R ++ [nr], rfl, ?_, ?_, hG, hS2⟩, by omega⟩
        · intro r hr
          rcases List.mem_append.1 hr with g | g
          · exact hok r g
          · rw [List.mem_singleton.1 g, hnr]
            exact ⟨by show (krRow s.M s.P m f).length ≤ m; unfold krRow; omega, by show m ≤ _; omega⟩
        · rw [hfs, List.map_append, List.map_append, hRX, hnr]; rfl
    · refine c_no rfl (decide_eq_false (by omega)) ?_
      repeat (with_reducible first | refine c_seq ?_ | refine c_block ?_ | refine c_skip ?_ | refine x_then ?_ | refine x_block ?_)
      refine c_exit ?_
      repeat (with_reducible first | refine x_then_exit ?_ | refine x_block_exit ?_ | refine x_block_pass rfl ?_)
      repeat (with_reducible first | refine c_seq ?_ | refine c_block ?_ | refine c_skip ?_ | refine x_then ?_ | refine x_block ?_)
      obtain rfl : f = m := by omega
      exact ⟨_, rfl, vo, LO, R, h7, hok, hRX, hG, hS⟩
  clear hS
  rintro ρ w3 ⟨vo, LO, R, h7, hok, hRX, hG, hS⟩
  repeat (with_reducible first | refine c_seq ?_ | refine c_block ?_ | refine c_skip ?_ | refine x_then ?_ | refine x_block ?_)
  have hmt := rows_mts (size := 3) encR_len hok hG hS
  rw [hRX] at hmt
  repeat (with_reducible first | refine c_seq ?_ | refine c_block ?_ | refine c_skip ?_ | refine x_then ?_ | refine x_block ?_)
  refine c_reg ?_
  refine l_pure rfl (s_move  h7 ?_)
  refine l_pure rfl (s_asg  rfl ?_)
  refine l_pure rfl (s_asg  rfl ?_)
  refine l_nil ?_
  repeat (with_reducible first | refine c_seq ?_ | refine c_block ?_ | refine c_skip ?_ | refine x_then ?_ | refine x_block ?_)
  refine c_ret ?_
  repeat (with_reducible first | refine x_then_ret ?_ | refine x_block_ret ?_)
  refine r_two rfl rfl rfl ?_
  exact ⟨⟨vo, _, rfl, hmt⟩, hS0.below.trans (hS.below.mono hS0.below.size)⟩
end Go.Proofs.YtblfipdfklpmmaaDoor
namespace Go.Proofs.YtblfipdfklpmmaaDoor
open Go Go.RowKit Go.Sx
structure ZZ where
  neg : Bool
  mag : Nat
def encZ (z : ZZ) : List Value := [.bool z.neg, .string (natS z.mag)]
def aggZ (z : ZZ) : Value := .agg #[.bool z.neg, .string (natS z.mag)]
def zZZ : ZZ := ⟨false, 0⟩
theorem encZ_len : ∀ z, (encZ z).length = 2 := fun _ => rfl
theorem encZ_zero : encZ zZZ = [.bool false, .string ⟨#[]⟩] := by
  have : natS 0 = ⟨#[]⟩ := natS_nil.2 rfl
  show [Value.bool false, .string (natS 0)] = _
  rw [this]
def zv (z : ZZ) : Int := sg z.neg z.mag
def zSz (z : ZZ) : Nat := (natS z.mag).size
def zTimes (a b : ZZ) : ZZ := ⟨a.neg != b.neg, a.mag * b.mag⟩
def zMinus (a b : ZZ) : ZZ := if a.neg ≠ b.neg then ⟨a.neg, a.mag + b.mag⟩ else if b.mag ≤ a.mag then ⟨a.neg, a.mag - b.mag⟩ else ⟨!a.neg, b.mag - a.mag⟩
def zOver (a b : ZZ) : ZZ := ⟨a.neg != b.neg, a.mag / b.mag⟩
theorem zv_times (a b : ZZ) : zv (zTimes a b) = zv a * zv b := by
  obtain ⟨x, m⟩ := a
  obtain ⟨y, n⟩ := b
  unfold zv zTimes sg
  cases x <;> cases y <;> simp [Int.neg_mul, Int.mul_neg]
theorem zv_minus (a b : ZZ) : zv (zMinus a b) = zv a - zv b := by
  obtain ⟨x, m⟩ := a
  obtain ⟨y, n⟩ := b
  unfold zv zMinus sg
  by_cases h : n ≤ m
  · cases x <;> cases y <;> simp [h] <;> omega
  · cases x <;> cases y <;> simp [h] <;> omega
theorem zv_over (a b : ZZ) : zv (zOver a b) = (zv a).tdiv (zv b) := by
  obtain ⟨x, m⟩ := a
  obtain ⟨y, n⟩ := b
  unfold zv zOver sg
  cases x <;> cases y <;> simp [Int.neg_tdiv, Int.tdiv_neg]
theorem zv_ne {z : ZZ} : zv z = 0 ↔ z.mag = 0 := by
  unfold zv sg
  split <;> omega
theorem zSz_times (a b : ZZ) : zSz (zTimes a b) ≤ zSz a + zSz b := natS_size_mul _ _
theorem zSz_minus (a b : ZZ) : zSz (zMinus a b) ≤ max (zSz a) (zSz b) + 1 := by
  unfold zMinus zSz
  split
  · exact natS_size_add _ _
  · split
    · have := natS_size_mono (Nat.sub_le a.mag b.mag)
      show (natS (a.mag - b.mag)).size ≤ _; omega
    · have := natS_size_mono (Nat.sub_le b.mag a.mag)
      show (natS (b.mag - a.mag)).size ≤ _; omega
theorem zSz_over (a b : ZZ) : zSz (zOver a b) ≤ zSz a := natS_size_mono (Nat.div_le_self _ _)
theorem zSz_zero : zSz zZZ = 0 := by
  show (natS 0).size = 0
  rw [natS_nil.2 rfl]; rfl
theorem built_Z (b : Bool) (s : ByteArray) : Tryd.prog.built 68 [(0, .bool b), (1, .string s)] = some #[.bool b, .string s] := by kernel_rfl
theorem ztimes_ok (a b : ZZ) (w : World) (ha : zSz a ≤ 4398046511104) (hb : zSz b ≤ 4398046511104) :
    Ret Tryd.prog 61 #[aggZ a, aggZ b] w fun v w' => v = aggZ (zTimes a b) ∧ Below w.heap.size w w' := by
  have hS := St.init w
  refine enter Tryd.func61 rfl Tryd.ntmps61 rfl ?_
  repeat (with_reducible first | refine c_seq ?_ | refine c_block ?_ | refine c_skip ?_ | refine x_then ?_ | refine x_block ?_)
  refine c_reg ?_
  refine l_heavy rfl (s_box (new := encZ a)  rfl rfl hS ?_)
  intro b1 wz2 hS hBz2
  refine l_heavy rfl (s_box (new := encZ b)  rfl rfl hS ?_)
  intro b3 wz4 hS hBz4
  refine l_heavy rfl (s_alloc  vi_68 hS ?_)
  intro b5 wz6 hS hBz6
  refine l_nil ?_
  repeat (with_reducible first | refine c_seq ?_ | refine c_block ?_ | refine c_skip ?_ | refine x_then ?_ | refine x_block ?_)
  refine c_draw [(0, .pure), (1, .read), (2, .pure), (3, .read), (4, .pure), (5, .pure), (6, .read), (7, .pure), (8, .read), (9, .grow), (10, .pure), (11, .free)] (by kernel_rfl) (by kernel_rfl) hS ?_
  intro wz7 hS hBz7
  refine w_pure rfl rfl (s_fld  rfl fo_68_0 ?_)
  refine w_read rfl rfl (s_ldo (k := 2)  rfl vi_4 hS rfl rfl rfl (.inr rfl) ?_)
  refine w_pure rfl rfl (s_fld  rfl fo_68_0 ?_)
  refine w_read rfl rfl (s_ldo (k := 1)  rfl vi_4 hS rfl rfl rfl (.inr rfl) ?_)
  refine w_pure rfl rfl (s_neb  rfl rfl Tryd.underlying4 ?_)
  refine w_pure rfl rfl (s_fld  rfl fo_68_1 ?_)
  refine w_read rfl rfl (s_ldo (k := 2)  rfl vi_9 hS rfl rfl rfl (.inr rfl) ?_)
  refine w_pure rfl rfl (s_fld  rfl fo_68_1 ?_)
  refine w_read rfl rfl (s_ldo (k := 1)  rfl vi_9 hS rfl rfl rfl (.inr rfl) ?_)
  refine w_grow rfl rfl (s_call Tryd.call27 rfl (N_mul a.mag b.mag _ ha hb) ?_)
  rintro _ wc8 ⟨rfl, hBc8⟩
  replace hS := hS.grow hBc8
  refine ⟨hBc8, ?_⟩
  refine w_pure rfl rfl (s_build  rfl (built_Z _ _) ?_)
  refine w_free rfl rfl (s_sta (k := 0)  rfl rfl vi_68 hS rfl rfl rfl (Nat.le_of_ble_eq_true rfl) rfl ?_)
  intro wz9 hS
  refine w_end ?_
  repeat (with_reducible first | refine c_seq ?_ | refine c_block ?_ | refine c_skip ?_ | refine x_then ?_ | refine x_block ?_)
  refine c_ret ?_
  repeat (with_reducible first | refine x_then_ret ?_ | refine x_block_ret ?_)
  refine r_cell (k := 0) rfl rfl vi_68 hS rfl rfl ?_
  exact ⟨rfl, hS.below⟩
theorem zminus_ok (a b : ZZ) (w : World) (ha : zSz a ≤ 4398046511104) (hb : zSz b ≤ 4398046511104) :
    Ret Tryd.prog 62 #[aggZ a, aggZ b] w fun v w' => v = aggZ (zMinus a b) ∧ Below w.heap.size w w' := by
  have hS := St.init w
  refine enter Tryd.func62 rfl Tryd.ntmps62 rfl ?_
  repeat (with_reducible first | refine c_seq ?_ | refine c_block ?_ | refine c_skip ?_ | refine x_then ?_ | refine x_block ?_)
  refine c_reg ?_
  refine l_heavy rfl (s_box (new := encZ a)  rfl rfl hS ?_)
  intro b1 wz2 hS hBz2
  refine l_heavy rfl (s_box (new := encZ b)  rfl rfl hS ?_)
  intro b3 wz4 hS hBz4
  refine l_heavy rfl (s_alloc  vi_68 hS ?_)
  intro b5 wz6 hS hBz6
  refine l_nil ?_
  repeat (with_reducible first | refine c_seq ?_ | refine c_block ?_ | refine c_skip ?_ | refine x_then ?_ | refine x_block ?_)
  refine c_reg ?_
  refine l_pure rfl (s_fld  rfl fo_68_0 ?_)
  refine l_read rfl (s_ldo (k := 2)  rfl vi_4 hS rfl rfl rfl (.inr rfl) ?_)
  refine l_pure rfl (s_fld  rfl fo_68_0 ?_)
  refine l_read rfl (s_ldo (k := 1)  rfl vi_4 hS rfl rfl rfl (.inr rfl) ?_)
  refine l_pure rfl (s_neb  rfl rfl Tryd.underlying4 ?_)
  refine l_nil ?_
  repeat (with_reducible first | refine c_seq ?_ | refine c_block ?_ | refine c_skip ?_ | refine x_then ?_ | refine x_block ?_)
  by_cases hn : a.neg ≠ b.neg
  · have e : zMinus a b = ⟨a.neg, a.mag + b.mag⟩ := if_pos hn
    rw [e]
    refine c_yes rfl (by simpa using hn) ?_
    repeat (with_reducible first | refine c_seq ?_ | refine c_block ?_ | refine c_skip ?_ | refine x_then ?_ | refine x_block ?_)
    refine c_draw [(0, .pure), (1, .read), (2, .pure), (3, .read), (4, .pure), (5, .read), (6, .grow), (7, .pure), (8, .free)] (by kernel_rfl) (by kernel_rfl) hS ?_
    intro wz7 hS hBz7
    refine w_pure rfl rfl (s_fld  rfl fo_68_0 ?_)
    refine w_read rfl rfl (s_ldo (k := 2)  rfl vi_4 hS rfl rfl rfl (.inr rfl) ?_)
    refine w_pure rfl rfl (s_fld  rfl fo_68_1 ?_)
    refine w_read rfl rfl (s_ldo (k := 2)  rfl vi_9 hS rfl rfl rfl (.inr rfl) ?_)
    refine w_pure rfl rfl (s_fld  rfl fo_68_1 ?_)
    refine w_read rfl rfl (s_ldo (k := 1)  rfl vi_9 hS rfl rfl rfl (.inr rfl) ?_)
    refine w_grow rfl rfl (s_call Tryd.call46 rfl (N_add a.mag b.mag _ ha hb) ?_)
    rintro _ wc8 ⟨rfl, hBc8⟩
    replace hS := hS.grow hBc8
    refine ⟨hBc8, ?_⟩
    refine w_pure rfl rfl (s_build  rfl (built_Z _ _) ?_)
    refine w_free rfl rfl (s_sta (k := 0)  rfl rfl vi_68 hS rfl rfl rfl (Nat.le_of_ble_eq_true rfl) rfl ?_)
    intro wz9 hS
    refine w_end ?_
    repeat (with_reducible first | refine c_seq ?_ | refine c_block ?_ | refine c_skip ?_ | refine x_then ?_ | refine x_block ?_)
    refine c_ret ?_
    repeat (with_reducible first | refine x_then_ret ?_ | refine x_block_ret ?_)
    refine r_cell (k := 0) rfl rfl vi_68 hS rfl rfl ?_
    exact ⟨rfl, hS.below⟩
  refine c_no rfl (by simpa using hn) ?_
  repeat (with_reducible first | refine c_seq ?_ | refine c_block ?_ | refine c_skip ?_ | refine x_then ?_ | refine x_block ?_)
  refine c_reg ?_
  refine l_pure rfl (s_fld  rfl fo_68_1 ?_)
  refine l_read rfl (s_ldo (k := 2)  rfl vi_9 hS rfl rfl rfl (.inr rfl) ?_)
  refine l_pure rfl (s_fld  rfl fo_68_1 ?_)
  refine l_read rfl (s_ldo (k := 1)  rfl vi_9 hS rfl rfl rfl (.inr rfl) ?_)
  by_cases hle : b.mag ≤ a.mag
  · have e : zMinus a b = ⟨a.neg, a.mag - b.mag⟩ := by unfold zMinus; rw [if_neg hn, if_pos hle]
    rw [e]
    refine l_heavy rfl (s_call Tryd.call47 rfl (N_sub a.mag b.mag _ ha hb hle) ?_)
    rintro _ wc10 ⟨rfl, hBc10⟩
    replace hS := hS.grow hBc10
    refine l_pure rfl (s_move  rfl ?_)
    refine l_pure rfl (s_ext  rfl rfl ?_)
    refine l_pure rfl (s_ext  rfl rfl ?_)
    refine l_pure rfl (s_asg  rfl ?_)
    refine l_pure rfl (s_asg  rfl ?_)
    refine l_nil ?_
    repeat (with_reducible first | refine c_seq ?_ | refine c_block ?_ | refine c_skip ?_ | refine x_then ?_ | refine x_block ?_)
    refine c_reg ?_
    refine l_pure rfl (s_move  rfl ?_)
    refine l_nil ?_
    repeat (with_reducible first | refine c_seq ?_ | refine c_block ?_ | refine c_skip ?_ | refine x_then ?_ | refine x_block ?_)
    refine c_yes rfl (rfl) ?_
    repeat (with_reducible first | refine c_seq ?_ | refine c_block ?_ | refine c_skip ?_ | refine x_then ?_ | refine x_block ?_)
    refine c_reg ?_
    refine l_pure rfl (s_fld  rfl fo_68_0 ?_)
    refine l_read rfl (s_ldo (k := 2)  rfl vi_4 hS rfl rfl rfl (.inr rfl) ?_)
    refine l_pure rfl (s_move  rfl ?_)
    refine l_pure rfl (s_build  rfl (built_Z _ _) ?_)
    refine l_heavy rfl (s_sta (k := 0)  rfl rfl vi_68 hS rfl rfl rfl (Nat.le_of_ble_eq_true rfl) rfl ?_)
    intro wz11 hS
    refine l_nil ?_
    repeat (with_reducible first | refine c_seq ?_ | refine c_block ?_ | refine c_skip ?_ | refine x_then ?_ | refine x_block ?_)
    refine c_ret ?_
    repeat (with_reducible first | refine x_then_ret ?_ | refine x_block_ret ?_)
    refine r_cell (k := 0) rfl rfl vi_68 hS rfl rfl ?_
    exact ⟨rfl, hS.below⟩
  · have e : zMinus a b = ⟨!a.neg, b.mag - a.mag⟩ := by unfold zMinus; rw [if_neg hn, if_neg hle]
    rw [e]
    refine l_heavy rfl (s_call Tryd.call47 rfl (N_sub_no a.mag b.mag _ ha hb (by omega)) ?_)
    rintro _ wc12 ⟨rfl, hBc12⟩
    replace hS := hS.grow hBc12
    refine l_pure rfl (s_move  rfl ?_)
    refine l_pure rfl (s_ext  rfl rfl ?_)
    refine l_pure rfl (s_ext  rfl rfl ?_)
    refine l_pure rfl (s_asg  rfl ?_)
    refine l_pure rfl (s_asg  rfl ?_)
    refine l_nil ?_
    repeat (with_reducible first | refine c_seq ?_ | refine c_block ?_ | refine c_skip ?_ | refine x_then ?_ | refine x_block ?_)
    refine c_reg ?_
    refine l_pure rfl (s_move  rfl ?_)
    refine l_nil ?_
    repeat (with_reducible first | refine c_seq ?_ | refine c_block ?_ | refine c_skip ?_ | refine x_then ?_ | refine x_block ?_)
    refine c_no rfl (rfl) ?_
    repeat (with_reducible first | refine c_seq ?_ | refine c_block ?_ | refine c_skip ?_ | refine x_then ?_ | refine x_block ?_)
    refine c_reg ?_
    refine l_pure rfl (s_fld  rfl fo_68_1 ?_)
    refine l_read rfl (s_ldo (k := 1)  rfl vi_9 hS rfl rfl rfl (.inr rfl) ?_)
    refine l_pure rfl (s_fld  rfl fo_68_1 ?_)
    refine l_read rfl (s_ldo (k := 2)  rfl vi_9 hS rfl rfl rfl (.inr rfl) ?_)
    refine l_heavy rfl (s_call Tryd.call47 rfl (N_sub b.mag a.mag _ hb ha (by omega)) ?_)
    rintro _ wc13 ⟨rfl, hBc13⟩
    replace hS := hS.grow hBc13
    refine l_pure rfl (s_move  rfl ?_)
    refine l_pure rfl (s_ext  rfl rfl ?_)
    refine l_pure rfl (s_ext  rfl rfl ?_)
    refine l_pure rfl (s_asg  rfl ?_)
    refine l_pure rfl (s_asg  rfl ?_)
    refine l_nil ?_
    repeat (with_reducible first | refine c_seq ?_ | refine c_block ?_ | refine c_skip ?_ | refine x_then ?_ | refine x_block ?_)
    refine c_reg ?_
    refine l_pure rfl (s_fld  rfl fo_68_0 ?_)
    refine l_read rfl (s_ldo (k := 2)  rfl vi_4 hS rfl rfl rfl (.inr rfl) ?_)
    refine l_pure rfl (s_not  rfl ?_)
    refine l_pure rfl (s_move  rfl ?_)
    refine l_pure rfl (s_build  rfl (built_Z _ _) ?_)
    refine l_heavy rfl (s_sta (k := 0)  rfl rfl vi_68 hS rfl rfl rfl (Nat.le_of_ble_eq_true rfl) rfl ?_)
    intro wz14 hS
    refine l_nil ?_
    repeat (with_reducible first | refine c_seq ?_ | refine c_block ?_ | refine c_skip ?_ | refine x_then ?_ | refine x_block ?_)
    refine c_ret ?_
    repeat (with_reducible first | refine x_then_ret ?_ | refine x_block_ret ?_)
    refine r_cell (k := 0) rfl rfl vi_68 hS rfl rfl ?_
    exact ⟨rfl, hS.below⟩
theorem zover_ok (a b : ZZ) (w : World) (ha : zSz a ≤ 4398046511104) (hb : zSz b ≤ 4398046511104) (h0 : b.mag ≠ 0) :
    Ret Tryd.prog 63 #[aggZ a, aggZ b] w fun v w' => v = aggZ (zOver a b) ∧ Below w.heap.size w w' := by
  have hS := St.init w
  refine enter Tryd.func63 rfl Tryd.ntmps63 rfl ?_
  repeat (with_reducible first | refine c_seq ?_ | refine c_block ?_ | refine c_skip ?_ | refine x_then ?_ | refine x_block ?_)
  refine c_reg ?_
  refine l_heavy rfl (s_box (new := encZ a)  rfl rfl hS ?_)
  intro b1 wz2 hS hBz2
  refine l_heavy rfl (s_box (new := encZ b)  rfl rfl hS ?_)
  intro b3 wz4 hS hBz4
  refine l_heavy rfl (s_alloc  vi_68 hS ?_)
  intro b5 wz6 hS hBz6
  refine l_nil ?_
  repeat (with_reducible first | refine c_seq ?_ | refine c_block ?_ | refine c_skip ?_ | refine x_then ?_ | refine x_block ?_)
  refine c_reg ?_
  refine l_pure rfl (s_fld  rfl fo_68_1 ?_)
  refine l_read rfl (s_ldo (k := 2)  rfl vi_9 hS rfl rfl rfl (.inr rfl) ?_)
  refine l_pure rfl (s_fld  rfl fo_68_1 ?_)
  refine l_read rfl (s_ldo (k := 1)  rfl vi_9 hS rfl rfl rfl (.inr rfl) ?_)
  refine l_heavy rfl (s_call Tryd.call51 rfl (N_div a.mag b.mag _ ha hb h0) ?_)
  rintro _ wc7 ⟨rfl, hBc7⟩
  replace hS := hS.grow hBc7
  refine l_pure rfl (s_move  rfl ?_)
  refine l_pure rfl (s_ext  rfl rfl ?_)
  refine l_pure rfl (s_ext  rfl rfl ?_)
  refine l_pure rfl (s_ext  rfl rfl ?_)
  refine l_pure rfl (s_asg  rfl ?_)
  refine l_pure rfl (s_asg  rfl ?_)
  refine l_pure rfl (s_asg  rfl ?_)
  refine l_nil ?_
  repeat (with_reducible first | refine c_seq ?_ | refine c_block ?_ | refine c_skip ?_ | refine x_then ?_ | refine x_block ?_)
  refine c_reg ?_
  refine l_pure rfl (s_fld  rfl fo_68_0 ?_)
  refine l_read rfl (s_ldo (k := 2)  rfl vi_4 hS rfl rfl rfl (.inr rfl) ?_)
  refine l_pure rfl (s_fld  rfl fo_68_0 ?_)
  refine l_read rfl (s_ldo (k := 1)  rfl vi_4 hS rfl rfl rfl (.inr rfl) ?_)
  refine l_pure rfl (s_neb  rfl rfl Tryd.underlying4 ?_)
  refine l_pure rfl (s_move  rfl ?_)
  refine l_pure rfl (s_build  rfl (built_Z _ _) ?_)
  refine l_heavy rfl (s_sta (k := 0)  rfl rfl vi_68 hS rfl rfl rfl (Nat.le_of_ble_eq_true rfl) rfl ?_)
  intro wz8 hS
  refine l_nil ?_
  repeat (with_reducible first | refine c_seq ?_ | refine c_block ?_ | refine c_skip ?_ | refine x_then ?_ | refine x_block ?_)
  refine c_ret ?_
  repeat (with_reducible first | refine x_then_ret ?_ | refine x_block_ret ?_)
  refine r_cell (k := 0) rfl rfl vi_68 hS rfl rfl ?_
  exact ⟨rfl, hS.below⟩
theorem denominator_ok (q : Rat) (w : World) :
    Ret Tryd.prog 60 #[aggR (ofQ q)] w fun v w' => v = .string (natS q.den) ∧ Below w.heap.size w w' := by
  have hS := St.init w
  refine enter Tryd.func60 rfl Tryd.ntmps60 rfl ?_
  repeat (with_reducible first | refine c_seq ?_ | refine c_block ?_ | refine c_skip ?_ | refine x_then ?_ | refine x_block ?_)
  refine c_reg ?_
  refine l_heavy rfl (s_box (new := encR (ofQ q))  rfl rfl hS ?_)
  intro b1 wz2 hS hBz2
  refine l_pure rfl (s_asg  rfl ?_)
  refine l_nil ?_
  repeat (with_reducible first | refine c_seq ?_ | refine c_block ?_ | refine c_skip ?_ | refine x_then ?_ | refine x_block ?_)
  refine c_reg ?_
  refine l_pure rfl (s_fld  rfl fo_27_2 ?_)
  refine l_read rfl (s_ldo (k := 0)  rfl vi_9 hS rfl rfl rfl (.inr rfl) ?_)
  refine l_pure rfl (s_eqs  rfl rfl ?_)
  refine l_nil ?_
  repeat (with_reducible first | refine c_seq ?_ | refine c_block ?_ | refine c_skip ?_ | refine x_then ?_ | refine x_block ?_)
  by_cases h : q.den = 1
  · refine c_yes rfl (decide_eq_true (by show (if q.den = 1 then (⟨#[]⟩ : ByteArray) else natS q.den) = _; rw [if_pos h])) ?_
    repeat (with_reducible first | refine c_seq ?_ | refine c_block ?_ | refine c_skip ?_ | refine x_then ?_ | refine x_block ?_)
    refine c_reg ?_
    refine l_heavy rfl (s_call Tryd.call38 rfl (FromUint_ok 1 _ (by decide)) ?_)
    rintro _ wc3 ⟨rfl, hBc3⟩
    replace hS := hS.grow hBc3
    refine l_pure rfl (s_asg  rfl ?_)
    refine l_nil ?_
    repeat (with_reducible first | refine c_seq ?_ | refine c_block ?_ | refine c_skip ?_ | refine x_then ?_ | refine x_block ?_)
    refine c_ret ?_
    repeat (with_reducible first | refine x_then_ret ?_ | refine x_block_ret ?_)
    refine r_one rfl rfl ?_
    exact ⟨by rw [h]; rfl, hS.below⟩
  · have hd : (ofQ q).den = natS q.den := if_neg h
    refine c_no rfl (decide_eq_false (by rw [hd]; exact fun g => q.den_nz (natS_nil.1 g))) ?_
    repeat (with_reducible first | refine c_seq ?_ | refine c_block ?_ | refine c_skip ?_ | refine x_then ?_ | refine x_block ?_)
    refine c_reg ?_
    refine l_pure rfl (s_fld  rfl fo_27_2 ?_)
    refine l_read rfl (s_ldo (k := 0)  rfl vi_9 hS rfl rfl rfl (.inr rfl) ?_)
    refine l_pure rfl (s_asg  rfl ?_)
    refine l_nil ?_
    repeat (with_reducible first | refine c_seq ?_ | refine c_block ?_ | refine c_skip ?_ | refine x_then ?_ | refine x_block ?_)
    refine c_ret ?_
    repeat (with_reducible first | refine x_then_ret ?_ | refine x_block_ret ?_)
    refine r_one rfl rfl ?_
    exact ⟨congrArg Value.string hd, hS.below⟩
end Go.Proofs.YtblfipdfklpmmaaDoor
namespace Go.Proofs.YtblfipdfklpmmaaDoor
open Go Go.RowKit Go.Sx
def cmD (q : Nat → Rat) : Nat → Nat
  | 0 => 1
  | j + 1 => cmD q j * ((q j).den / Nat.gcd (cmD q j) (q j).den)
theorem cmD_pos (q : Nat → Rat) : ∀ j, 0 < cmD q j
  | 0 => Nat.one_pos
  | j + 1 => Nat.mul_pos (cmD_pos q j) (Nat.div_pos (Nat.le_of_dvd (q j).den_pos (Nat.gcd_dvd_right _ _)) (Nat.gcd_pos_of_pos_left _ (cmD_pos q j)))
theorem cmD_dvd (q : Nat → Rat) (j : Nat) : cmD q j ∣ cmD q (j + 1) := ⟨_, rfl⟩
theorem cmD_den (q : Nat → Rat) (j : Nat) : (q j).den ∣ cmD q (j + 1) := by
  obtain ⟨a, ha⟩ := Nat.gcd_dvd_left (cmD q j) (q j).den
  have hg : Nat.gcd (cmD q j) (q j).den * ((q j).den / Nat.gcd (cmD q j) (q j).den) = (q j).den := Nat.mul_div_cancel' (Nat.gcd_dvd_right _ _)
  refine ⟨a, ?_⟩
  show cmD q j * ((q j).den / Nat.gcd (cmD q j) (q j).den) = _
  conv => lhs; lhs; rw [ha]
  conv => rhs; lhs; rw [← hg]
  rw [Nat.mul_assoc, Nat.mul_assoc, Nat.mul_comm a]
theorem cmD_mono (q : Nat → Rat) {i : Nat} : ∀ {j : Nat}, i ≤ j → cmD q i ∣ cmD q j
  | 0, h => by obtain rfl : i = 0 := by omega
               exact Nat.dvd_refl _
  | j + 1, h => by
    by_cases e : i = j + 1
    · rw [e]; exact Nat.dvd_refl _
    · exact Nat.dvd_trans (cmD_mono q (by omega)) (cmD_dvd q j)
theorem den_cmD (q : Nat → Rat) {j m : Nat} (h : j < m) : (q j).den ∣ cmD q m := Nat.dvd_trans (cmD_den q j) (cmD_mono q h)
def cSz (q : Nat → Rat) (j : Nat) : Nat := (natS (cmD q j)).size
theorem cSz_le {q : Nat → Rat} {K m : Nat} (h : ∀ j, j < m → L (q j) ≤ K) : ∀ j, j ≤ m → cSz q j ≤ 1 + j * K
  | 0, _ => by show (natS 1).size ≤ _; rw [natS_one_size]; omega
  | j + 1, hj => by
    have ih := cSz_le h j (by omega)
    have h1 := natS_size_mul (cmD q j) ((q j).den / Nat.gcd (cmD q j) (q j).den)
    have h2 := natS_size_mono (Nat.div_le_self (q j).den (Nat.gcd (cmD q j) (q j).den))
    have h3 := L_den (q j)
    have h4 := h j (by omega)
    show (natS (cmD q j * ((q j).den / Nat.gcd (cmD q j) (q j).den))).size ≤ _
    unfold cSz at ih
    rw [Nat.add_mul]
    omega
def itZ (q : Nat → Rat) (m j : Nat) : ZZ := ⟨decide ((q j).num < 0), (q j).num.natAbs * (cmD q m / (q j).den)⟩
theorem sg_mulr (b : Bool) (x y : Nat) : sg b (x * y) = sg b x * (y : Int) := by
  unfold sg
  cases b <;> simp [Int.neg_mul]
theorem itZ_val (q : Nat → Rat) {m j : Nat} (h : j < m) : ((zv (itZ q m j) : Int) : Rat) = ((cmD q m : Int) : Rat) * q j := by
  obtain ⟨c, hc⟩ := den_cmD q h
  have hd := (q j).den_pos
  have e : cmD q m / (q j).den = c := by rw [hc]; exact Nat.mul_div_cancel_left _ hd
  unfold zv itZ
  rw [e, sg_mulr, sg_num, hc]
  have hq : q j = ((q j).num : Rat) / (((q j).den : Int) : Rat) := by
    conv => lhs; rw [← Rat.mkRat_self (q j), Rat.mkRat_eq_div]
    rfl
  have hd0 : ((((q j).den : Nat) : Int) : Rat) ≠ 0 := fun e => by
    have := Rat.intCast_inj.1 (show (((q j).den : Int) : Rat) = ((0 : Int) : Rat) from e)
    omega
  conv => rhs; rhs; rw [hq]
  rw [Int.natCast_mul, Rat.intCast_mul, Rat.intCast_mul, Rat.div_def]
  have := Rat.mul_inv_cancel _ hd0
  grind
theorem itZ_size {q : Nat → Rat} {K m j : Nat} (h : ∀ j, j < m → L (q j) ≤ K) (hj : j < m) : zSz (itZ q m j) ≤ K + cSz q m := by
  have h1 := natS_size_mul (q j).num.natAbs (cmD q m / (q j).den)
  have h2 := natS_size_mono (Nat.div_le_self (cmD q m) (q j).den)
  have h3 := L_num (q j)
  have h4 := h j hj
  unfold zSz cSz
  show (natS ((q j).num.natAbs * (cmD q m / (q j).den))).size ≤ _
  omega
theorem zrep (n : Nat) : rep n [Value.bool false, .string ⟨#[]⟩] = (List.replicate n zZZ).flatMap encZ := by
  rw [← encZ_zero, flat_rep]
def fillZ (q : Nat → Rat) (m i j : Nat) : ZZ := if j < i then itZ q m j else zZZ
theorem fillZ_set (q : Nat → Rat) (m i : Nat) : (tab m (fillZ q m i)).set i (itZ q m i) = tab m (fillZ q m (i + 1)) := by
  rw [tab_set]
  refine tab_congr fun j _ => ?_
  unfold fillZ
  by_cases h : j = i
  · rw [if_pos h, if_pos (by omega), h]
  · rw [if_neg h]
    by_cases h2 : j < i
    · rw [if_pos h2, if_pos (by omega)]
    · rw [if_neg h2, if_neg (by omega)]
set_option maxHeartbeats 2000000 in
theorem lintegers_ok (v : Value) (q : Nat → Rat) (m K : Nat) (w : World) (hv : Sl encR 3 w v (tab m fun j => ofQ (q j))) (hm : m ≤ 1000) (hL : ∀ j, j < m → L (q j) ≤ K) (hK : 2000 * K + 2000 ≤ MX) :
    Ret Tryd.prog 37 #[v] w fun r w' => (∃ b, r = .slice (some ⟨b, 0, none⟩) m m ∧ St w w' [(b, 68, (tab m (itZ q m)).flatMap encZ)]) ∧ Below w.heap.size w w' := by
  have hM : MX = 1099511627776 := rfl
  have htl := tab_len m fun j => ofQ (q j)
  have hget : ∀ j, j < m → (tab m fun j => ofQ (q j)).getD j zRR = ofQ (q j) := fun j hj => tab_get _ _ hj
  have hC : ∀ j, j ≤ m → cSz q j ≤ 1 + 1000 * K := fun j hj => Nat.le_trans (cSz_le hL j hj) (Nat.add_le_add_left (Nat.mul_le_mul_right _ (by omega)) _)
  have hS := St.init w
  refine enter Tryd.func37 rfl Tryd.ntmps37 rfl ?_
  repeat (with_reducible first | refine c_seq ?_ | refine c_block ?_ | refine c_skip ?_ | refine x_then ?_ | refine x_block ?_)
  refine c_reg ?_
  refine l_pure rfl (s_asg  rfl ?_)
  refine l_nil ?_
  repeat (with_reducible first | refine c_seq ?_ | refine c_block ?_ | refine c_skip ?_ | refine x_then ?_ | refine x_block ?_)
  refine c_reg ?_
  refine l_heavy rfl (s_call Tryd.call38 rfl (FromUint_ok 1 _ (by decide)) ?_)
  rintro _ wc1 ⟨rfl, hBc1⟩
  replace hS := hS.grow hBc1
  refine l_pure rfl (s_asg  rfl ?_)
  refine l_nil ?_
  repeat (with_reducible first | refine c_seq ?_ | refine c_block ?_ | refine c_skip ?_ | refine x_then ?_ | refine x_block ?_)
  refine c_reg ?_
  refine l_pure rfl (s_move  rfl ?_)
  refine l_pure rfl (s_lenr  rfl (hv.below hS.below) ⟨_, Tryd.underlying30⟩ ?_)
  refine l_pure rfl (s_move  rfl ?_)
  refine l_nil ?_
  repeat (with_reducible first | refine c_seq ?_ | refine c_skip ?_ | refine x_then ?_ | refine x_block ?_)
  refine c_cut1 (fun ρ w' => ρ 0 = v ∧ ρ 3 = .string (natS (cmD q m)) ∧ St w w' []) ?_ ?_
  · repeat (with_reducible first | refine c_seq ?_ | refine c_block ?_ | refine c_skip ?_ | refine x_then ?_ | refine x_block ?_)
    refine c_loop (σ := Nat) (fun i ρ w' => i ≤ m ∧ ρ 0 = v ∧ ρ 3 = .string (natS (cmD q i)) ∧ ρ 17 = v ∧ ρ 18 = .int .i64 m ∧ ρ 19 = .int .i64 i ∧ St w w' []) (fun i => m - i) 0
      ⟨Nat.zero_le _, rfl, rfl, rfl, vi rfl (by omega), rfl, hS⟩ ?_
    clear hS
    rintro i ρ w2 ⟨hi, h0, h3, h17, h18, h19, hS⟩
    repeat (with_reducible first | refine c_seq ?_ | refine c_block ?_ | refine c_skip ?_ | refine x_then ?_ | refine x_block ?_)
    refine c_reg ?_
    refine l_pure rfl (s_lss  h19 h18 ?_)
    refine l_nil ?_
    repeat (with_reducible first | refine c_seq ?_ | refine c_block ?_ | refine c_skip ?_ | refine x_then ?_ | refine x_block ?_)
    by_cases hlt : i < m
    · refine c_yes rfl (decide_eq_true (by omega)) ?_
      repeat (with_reducible first | refine c_seq ?_ | refine c_block ?_ | refine c_skip ?_ | refine x_then ?_ | refine x_block ?_)
      have hCi := hC i (by omega)
      have hLi := hL i hlt
      have hLd := L_den (q i)
      unfold cSz at hCi
      have hgz := natS_size_mono (Nat.le_of_dvd (q i).den_pos (Nat.gcd_dvd_right (cmD q i) (q i).den))
      have hdz := natS_size_mono (Nat.div_le_self (q i).den (Nat.gcd (cmD q i) (q i).den))
      have hg0 : Nat.gcd (cmD q i) (q i).den ≠ 0 := Nat.pos_iff_ne_zero.1 (Nat.gcd_pos_of_pos_left _ (cmD_pos q i))
      repeat (with_reducible first | refine c_seq ?_ | refine c_block ?_ | refine c_skip ?_ | refine x_then ?_ | refine x_block ?_)
      refine c_reg ?_
      refine l_pure rfl (s_ixr (i := i)  h17 h19 (hv.below hS.below) (by omega) (by first | omega | (simp; done) | (simp; omega)) si_30 ?_)
      refine l_read rfl (s_lde (i := i) zRR  rfl vi_27 (hv.below hS.below) (by first | omega | (simp; done) | (simp; omega)) rfl rfl (.inl rfl) ?_)
      refine l_heavy rfl (s_alloc  vi_27 hS ?_)
      intro b5 wz2 hS hBz2
      refine l_heavy rfl (s_sta (k := 0)  rfl rfl vi_27 hS rfl rfl rfl (Nat.le_of_ble_eq_true rfl) rfl ?_)
      intro wz3 hS
      refine l_nil ?_
      repeat (with_reducible first | refine c_seq ?_ | refine c_block ?_ | refine c_skip ?_ | refine x_then ?_ | refine x_block ?_)
      rw [hget i hlt] at hS
      repeat (with_reducible first | refine c_seq ?_ | refine c_block ?_ | refine c_skip ?_ | refine x_then ?_ | refine x_block ?_)
      refine c_reg ?_
      refine l_read rfl (s_ldo (k := 0)  rfl vi_27 hS rfl rfl rfl (.inl rfl) ?_)
      refine l_heavy rfl (s_call Tryd.call60 rfl (denominator_ok (q i) _) ?_)
      rintro _ wc4 ⟨rfl, hBc4⟩
      replace hS := hS.grow hBc4
      refine l_pure rfl (s_asg  rfl ?_)
      refine l_nil ?_
      repeat (with_reducible first | refine c_seq ?_ | refine c_block ?_ | refine c_skip ?_ | refine x_then ?_ | refine x_block ?_)
      refine c_reg ?_
      refine l_pure rfl (s_move  rfl ?_)
      refine l_pure rfl (s_move  h3 ?_)
      refine l_pure rfl (s_move  rfl ?_)
      refine l_heavy rfl (s_call Tryd.call50 rfl (N_gcd _ _ _ (by omega) (by omega)) ?_)
      rintro _ wc5 ⟨rfl, hBc5⟩
      replace hS := hS.grow hBc5
      refine l_heavy rfl (s_call Tryd.call51 rfl (N_div _ _ _ (by omega) (by omega) hg0) ?_)
      rintro _ wc6 ⟨rfl, hBc6⟩
      replace hS := hS.grow hBc6
      refine l_pure rfl (s_move  rfl ?_)
      refine l_pure rfl (s_ext  rfl rfl ?_)
      refine l_pure rfl (s_ext  rfl rfl ?_)
      refine l_pure rfl (s_ext  rfl rfl ?_)
      refine l_pure rfl (s_asg  rfl ?_)
      refine l_pure rfl (s_asg  rfl ?_)
      refine l_pure rfl (s_asg  rfl ?_)
      refine l_nil ?_
      repeat (with_reducible first | refine c_seq ?_ | refine c_block ?_ | refine c_skip ?_ | refine x_then ?_ | refine x_block ?_)
      refine c_reg ?_
      refine l_pure rfl (s_move  h3 ?_)
      refine l_pure rfl (s_move  rfl ?_)
      refine l_heavy rfl (s_call Tryd.call27 rfl (N_mul _ _ _ (by omega) (by omega)) ?_)
      rintro _ wc7 ⟨rfl, hBc7⟩
      replace hS := hS.grow hBc7
      refine l_pure rfl (s_asg  rfl ?_)
      refine l_nil ?_
      repeat (with_reducible first | refine c_seq ?_ | refine c_block ?_ | refine c_skip ?_ | refine x_then ?_ | refine x_block ?_)
      refine c_reg ?_
      refine l_pure rfl (s_add  h19 rfl (IntWalk.i64_in _ (by omega)) ?_)
      refine l_pure rfl (s_move  rfl ?_)
      refine l_nil ?_
      repeat (with_reducible first | refine c_seq ?_ | refine c_block ?_ | refine c_skip ?_ | refine x_then ?_ | refine x_block ?_)
      exact ⟨i + 1, _, rfl, ⟨hlt, by assumption, rfl, by assumption, by assumption, vi rfl (by omega), hS.drop (List.nil_sublist _)⟩, by omega⟩
    · refine c_no rfl (decide_eq_false (by omega)) ?_
      repeat (with_reducible first | refine c_seq ?_ | refine c_block ?_ | refine c_skip ?_ | refine x_then ?_ | refine x_block ?_)
      refine c_exit ?_
      repeat (with_reducible first | refine x_then_exit ?_ | refine x_block_exit ?_ | refine x_block_pass rfl ?_)
      repeat (with_reducible first | refine c_seq ?_ | refine c_block ?_ | refine c_skip ?_ | refine x_then ?_ | refine x_block ?_)
      obtain rfl : i = m := by omega
      exact ⟨_, rfl, h0, h3, hS⟩
  clear hS
  rintro ρ w2 ⟨h0, h3, hS⟩
  repeat (with_reducible first | refine c_seq ?_ | refine c_block ?_ | refine c_skip ?_ | refine x_then ?_ | refine x_block ?_)
  refine c_reg ?_
  refine l_pure rfl (s_move  h0 ?_)
  refine l_pure rfl (s_lenr  rfl (hv.below hS.below) ⟨_, Tryd.underlying30⟩ ?_)
  refine l_heavy rfl (s_make (n := m)  rfl rfl si_63 (by omega) (by omega) (by omega) (by omega) hS ?_)
  intro b40 wz8 hS hBz8
  refine l_pure rfl (s_asg  rfl ?_)
  refine l_nil ?_
  repeat (with_reducible first | refine c_seq ?_ | refine c_block ?_ | refine c_skip ?_ | refine x_then ?_ | refine x_block ?_)
  replace hS : St w _ [(b40, 68, rep m [Value.bool false, .string ⟨#[]⟩])] := hS
  rw [zrep, tab_rep, show (tab m fun _ => zZZ) = tab m (fillZ q m 0) from tab_congr fun j _ => by unfold fillZ; rw [if_neg (Nat.not_lt_zero _)]] at hS
  repeat (with_reducible first | refine c_seq ?_ | refine c_block ?_ | refine c_skip ?_ | refine x_then ?_ | refine x_block ?_)
  refine c_reg ?_
  refine l_pure rfl (s_move  h0 ?_)
  refine l_pure rfl (s_lenr  rfl (hv.below hS.below) ⟨_, Tryd.underlying30⟩ ?_)
  refine l_pure rfl (s_move  rfl ?_)
  refine l_nil ?_
  repeat (with_reducible first | refine c_seq ?_ | refine c_skip ?_ | refine x_then ?_ | refine x_block ?_)
  refine c_cut1 (fun ρ w' => ρ 10 = .slice (some ⟨b40, 0, none⟩) m m ∧ St w w' [(b40, 68, (tab m (itZ q m)).flatMap encZ)]) ?_ ?_
  · repeat (with_reducible first | refine c_seq ?_ | refine c_block ?_ | refine c_skip ?_ | refine x_then ?_ | refine x_block ?_)
    refine c_loop (σ := Nat) (fun i ρ w' => i ≤ m ∧ ρ 3 = .string (natS (cmD q m)) ∧ ρ 10 = .slice (some ⟨b40, 0, none⟩) m m ∧ ρ 41 = v ∧ ρ 42 = .int .i64 m ∧ ρ 43 = .int .i64 i ∧ St w w' [(b40, 68, (tab m (fillZ q m i)).flatMap encZ)]) (fun i => m - i) 0
      ⟨Nat.zero_le _, h3, rfl, rfl, vi rfl (by omega), rfl, hS⟩ ?_
    clear hS
    rintro i ρ w3 ⟨hi, h3, h10, h41, h42, h43, hS⟩
    have htf := tab_len m (fillZ q m i)
    repeat (with_reducible first | refine c_seq ?_ | refine c_block ?_ | refine c_skip ?_ | refine x_then ?_ | refine x_block ?_)
    refine c_reg ?_
    refine l_pure rfl (s_lss  h43 h42 ?_)
    refine l_nil ?_
    repeat (with_reducible first | refine c_seq ?_ | refine c_block ?_ | refine c_skip ?_ | refine x_then ?_ | refine x_block ?_)
    by_cases hlt : i < m
    · refine c_yes rfl (decide_eq_true (by omega)) ?_
      repeat (with_reducible first | refine c_seq ?_ | refine c_block ?_ | refine c_skip ?_ | refine x_then ?_ | refine x_block ?_)
      have hCi := hC m (Nat.le_refl _)
      have hLi := hL i hlt
      have hLd := L_den (q i)
      have hLn := L_num (q i)
      unfold cSz at hCi
      have hdz := natS_size_mono (Nat.div_le_self (cmD q m) (q i).den)
      repeat (with_reducible first | refine c_seq ?_ | refine c_block ?_ | refine c_skip ?_ | refine x_then ?_ | refine x_block ?_)
      refine c_reg ?_
      refine l_pure rfl (s_move  h43 ?_)
      refine l_pure rfl (s_ixr (i := i)  h41 h43 (hv.below hS.below) (by omega) (by first | omega | (simp; done) | (simp; omega)) si_30 ?_)
      refine l_read rfl (s_lde (i := i) zRR  rfl vi_27 (hv.below hS.below) (by first | omega | (simp; done) | (simp; omega)) rfl rfl (.inl rfl) ?_)
      refine l_heavy rfl (s_alloc  vi_27 hS ?_)
      intro b12 wz9 hS hBz9
      refine l_pure rfl (s_asg  rfl ?_)
      refine l_heavy rfl (s_sta (k := 0)  rfl rfl vi_27 hS rfl rfl rfl (Nat.le_of_ble_eq_true rfl) rfl ?_)
      intro wz10 hS
      refine l_nil ?_
      repeat (with_reducible first | refine c_seq ?_ | refine c_block ?_ | refine c_skip ?_ | refine x_then ?_ | refine x_block ?_)
      rw [hget i hlt] at hS
      repeat (with_reducible first | refine c_seq ?_ | refine c_block ?_ | refine c_skip ?_ | refine x_then ?_ | refine x_block ?_)
      refine c_reg ?_
      refine l_pure rfl (s_move  h3 ?_)
      refine l_read rfl (s_ldo (k := 0)  rfl vi_27 hS rfl rfl rfl (.inl rfl) ?_)
      refine l_heavy rfl (s_call Tryd.call60 rfl (denominator_ok (q i) _) ?_)
      rintro _ wc11 ⟨rfl, hBc11⟩
      replace hS := hS.grow hBc11
      refine l_heavy rfl (s_call Tryd.call51 rfl (N_div _ _ _ (by omega) (by omega) (q i).den_nz) ?_)
      rintro _ wc12 ⟨rfl, hBc12⟩
      replace hS := hS.grow hBc12
      refine l_pure rfl (s_move  rfl ?_)
      refine l_pure rfl (s_ext  rfl rfl ?_)
      refine l_pure rfl (s_ext  rfl rfl ?_)
      refine l_pure rfl (s_ext  rfl rfl ?_)
      refine l_pure rfl (s_asg  rfl ?_)
      refine l_pure rfl (s_asg  rfl ?_)
      refine l_pure rfl (s_asg  rfl ?_)
      refine l_nil ?_
      repeat (with_reducible first | refine c_seq ?_ | refine c_block ?_ | refine c_skip ?_ | refine x_then ?_ | refine x_block ?_)
      refine c_draw [(0, .pure), (1, .pure), (2, .pure), (3, .read), (4, .pure), (5, .read), (6, .pure), (7, .grow), (8, .pure), (9, .pure), (10, .free)] (by kernel_rfl) (by kernel_rfl) hS ?_
      intro wz13 hS hBz13
      refine w_pure rfl rfl (s_move  h10 ?_)
      refine w_pure rfl rfl (s_move  rfl ?_)
      refine w_pure rfl rfl (s_fld  rfl fo_27_0 ?_)
      refine w_read rfl rfl (s_ldo (k := 0)  rfl vi_4 hS rfl rfl rfl (.inr rfl) ?_)
      refine w_pure rfl rfl (s_fld  rfl fo_27_1 ?_)
      refine w_read rfl rfl (s_ldo (k := 0)  rfl vi_9 hS rfl rfl rfl (.inr rfl) ?_)
      refine w_pure rfl rfl (s_move  rfl ?_)
      refine w_grow rfl rfl (s_call Tryd.call27 rfl (N_mul _ _ _ (by show (natS _).size ≤ _; omega) (by omega)) ?_)
      rintro _ wc14 ⟨rfl, hBc14⟩
      replace hS := hS.grow hBc14
      refine ⟨hBc14, ?_⟩
      refine w_pure rfl rfl (s_build  rfl (built_Z _ _) ?_)
      refine w_pure rfl rfl (s_ixo (i := i)  rfl rfl (by omega) (by first | omega | (simp; done) | (simp; omega)) si_63 ?_)
      refine w_free rfl rfl (s_stE (k := 1) (i := i) (enc := encZ) (itZ q m i) (fun _ => rfl)  rfl rfl vi_68 hS rfl (by first | omega | simp) (by first | omega | (simp; done) | (simp; omega)) rfl rfl ?_)
      intro wz15 hS
      refine w_end ?_
      repeat (with_reducible first | refine c_seq ?_ | refine c_block ?_ | refine c_skip ?_ | refine x_then ?_ | refine x_block ?_)
      replace hS := hS.drop (List.sublist_cons_self _ _)
      rw [fillZ_set] at hS
      repeat (with_reducible first | refine c_seq ?_ | refine c_block ?_ | refine c_skip ?_ | refine x_then ?_ | refine x_block ?_)
      refine c_reg ?_
      refine l_pure rfl (s_add  h43 rfl (IntWalk.i64_in _ (by omega)) ?_)
      refine l_pure rfl (s_move  rfl ?_)
      refine l_nil ?_
      repeat (with_reducible first | refine c_seq ?_ | refine c_block ?_ | refine c_skip ?_ | refine x_then ?_ | refine x_block ?_)
      exact ⟨i + 1, _, rfl, ⟨hlt, by assumption, by assumption, by assumption, by assumption, vi rfl (by omega), hS⟩, by omega⟩
    · refine c_no rfl (decide_eq_false (by omega)) ?_
      repeat (with_reducible first | refine c_seq ?_ | refine c_block ?_ | refine c_skip ?_ | refine x_then ?_ | refine x_block ?_)
      refine c_exit ?_
      repeat (with_reducible first | refine x_then_exit ?_ | refine x_block_exit ?_ | refine x_block_pass rfl ?_)
      repeat (with_reducible first | refine c_seq ?_ | refine c_block ?_ | refine c_skip ?_ | refine x_then ?_ | refine x_block ?_)
      obtain rfl : i = m := by omega
      rw [show tab i (fillZ q i i) = tab i (itZ q i) from tab_congr fun j hj => if_pos hj] at hS
      exact ⟨_, rfl, h10, hS⟩
  clear hS
  rintro ρ w3 ⟨h10, hS⟩
  repeat (with_reducible first | refine c_seq ?_ | refine c_block ?_ | refine c_skip ?_ | refine x_then ?_ | refine x_block ?_)
  refine c_reg ?_
  refine l_pure rfl (s_move  h10 ?_)
  refine l_pure rfl (s_asg  rfl ?_)
  refine l_nil ?_
  repeat (with_reducible first | refine c_seq ?_ | refine c_block ?_ | refine c_skip ?_ | refine x_then ?_ | refine x_block ?_)
  refine c_ret ?_
  repeat (with_reducible first | refine x_then_ret ?_ | refine x_block_ret ?_)
  refine r_one rfl rfl ?_
  exact ⟨⟨_, rfl, hS⟩, hS.below⟩
end Go.Proofs.YtblfipdfklpmmaaDoor
namespace Go.Proofs.YtblfipdfklpmmaaDoor
open Go Go.RowKit Go.Sx
abbrev MZ := Nat → Nat → ZZ
def zNew (f : MZ) (k : Nat) (last : ZZ) (i j : Nat) : ZZ := zOver (zMinus (zTimes (f k k) (f i j)) (zTimes (f i k) (f k j))) last
def zStep (f : MZ) (k : Nat) (last : ZZ) : MZ := fun i j => if i = k then f k j else if j = k then zZZ else zNew f k last i j
def zRows (f : MZ) (k : Nat) (last : ZZ) (i : Nat) : MZ := fun a b => if a < i then zStep f k last a b else f a b
def zCols (f : MZ) (k : Nat) (last : ZZ) (i j : Nat) : MZ := fun a b => if a = i ∧ b < j ∧ b ≠ k then zNew f k last i b else zRows f k last i a b
theorem zNew_size {f : MZ} {n m S : Nat} (h : ∀ i, i < n → ∀ j, j < m → zSz (f i j) ≤ S) {k i j : Nat} (last : ZZ) (hk : k < n) (hkm : k < m) (hi : i < n) (hj : j < m) : zSz (zNew f k last i j) ≤ 2 * S + 1 := by
  have h1 := zSz_over (zMinus (zTimes (f k k) (f i j)) (zTimes (f i k) (f k j))) last
  have h2 := zSz_minus (zTimes (f k k) (f i j)) (zTimes (f i k) (f k j))
  have h3 := zSz_times (f k k) (f i j)
  have h4 := zSz_times (f i k) (f k j)
  have := h k hk k hkm
  have := h i hi j hj
  have := h i hi k hkm
  have := h k hk j hj
  unfold zNew
  omega
theorem zStep_size {f : MZ} {n m S : Nat} (h : ∀ i, i < n → ∀ j, j < m → zSz (f i j) ≤ S) {k : Nat} (last : ZZ) (hk : k < n) (hkm : k < m) : ∀ i, i < n → ∀ j, j < m → zSz (zStep f k last i j) ≤ 2 * S + 1 := by
  intro i hi j hj
  unfold zStep
  split
  · have := h k hk j hj; omega
  · split
    · rw [zSz_zero]; omega
    · exact zNew_size h last hk hkm hi hj
set_option maxHeartbeats 8000000 in
theorem leliminate_ok {R0 : List (Rw ZZ)} {n m : Nat} {f : MZ} {w0 : World} {bo : Nat} {H : List Blk} (k : Nat) (last : ZZ) (S : Nat) (w : World) (hR0 : MatG R0 n m f) (hn : n ≤ 1000) (hm : m ≤ 1000) (hk : k < n) (hkm : k < m) (hf : ∀ i, i < n → ∀ j, j < m → zSz (f i j) ≤ S) (hls : zSz last ≤ S) (hl0 : last.mag ≠ 0) (hK : 2 * S + 2 ≤ MX) (hS : St w0 w (mB encZ 68 63 bo R0 H)) :
    Ret Tryd.prog 41 #[.slice (some ⟨bo, 0, none⟩) n n, .int .i64 k, aggZ last] w fun v w' => v = .tuple #[] ∧ ∃ R', MatG R' n m (zStep f k last) ∧ St w0 w' (mB encZ 68 63 bo R' H) := by
  have hM : MX = 1099511627776 := rfl
  have hlk0 : k < R0.length := by rw [hR0.len]; exact hk
  have hxk0 := hR0.xlen hk
  have hg0 : (R0.getD k zRw).X.getD k zZZ = f k k := hR0.get hk hkm _
  refine enter Tryd.func41 rfl Tryd.ntmps41 rfl ?_
  repeat (with_reducible first | refine c_seq ?_ | refine c_block ?_ | refine c_skip ?_ | refine x_then ?_ | refine x_block ?_)
  refine c_reg ?_
  refine l_heavy rfl (s_box (new := encZ last)  rfl rfl hS ?_)
  intro b5 wz1 hS hBz1
  refine l_nil ?_
  repeat (with_reducible first | refine c_seq ?_ | refine c_block ?_ | refine c_skip ?_ | refine x_then ?_ | refine x_block ?_)
  replace hS : St w0 _ ([(b5, 68, encZ last)] ++ mB encZ 68 63 bo R0 H) := hS
  repeat (with_reducible first | refine c_seq ?_ | refine c_block ?_ | refine c_skip ?_ | refine x_then ?_ | refine x_block ?_)
  refine c_reg ?_
  refine l_pure rfl (s_move  rfl ?_)
  refine l_pure rfl (s_move  rfl ?_)
  refine l_pure rfl (s_ixo (i := k)  rfl rfl (by omega) (by first | omega | (simp; done) | (simp; omega)) si_62 ?_)
  refine l_read rfl (s_mrowP [_]  rfl vi_63 hS (by omega) hlk0 ?_)
  refine l_pure rfl (s_move  rfl ?_)
  refine l_pure rfl (s_ixo (i := k)  rfl rfl (by omega) (by first | omega | (simp; done) | (simp; omega)) si_63 ?_)
  refine l_read rfl (s_mldP [_] (i := k) (j := k) zZZ encZ_len  rfl vi_68 hS rfl hlk0 (by omega) (by omega) rfl (.inl rfl) ?_)
  refine l_heavy rfl (s_alloc  vi_68 hS ?_)
  intro b6 wz2 hS hBz2
  refine l_heavy rfl (s_sta (k := 0)  rfl rfl vi_68 hS rfl rfl rfl (Nat.le_of_ble_eq_true rfl) rfl ?_)
  intro wz3 hS
  refine l_nil ?_
  repeat (with_reducible first | refine c_seq ?_ | refine c_block ?_ | refine c_skip ?_ | refine x_then ?_ | refine x_block ?_)
  rw [hg0] at hS
  replace hS : St w0 _ ([(b6, 68, encZ (f k k)), (b5, 68, encZ last)] ++ mB encZ 68 63 bo R0 H) := hS
  repeat (with_reducible first | refine c_seq ?_ | refine c_block ?_ | refine c_skip ?_ | refine x_then ?_ | refine x_block ?_)
  refine c_forget (fun ρ' => ρ' 0 = .slice (some ⟨bo, 0, none⟩) n n ∧ ρ' 1 = .int .i64 k ∧ ρ' 5 = .pointer (some ⟨b5, 0, none⟩) ∧ ρ' 6 = .pointer (some ⟨b6, 0, none⟩) ∧ True) ⟨rfl, rfl, rfl, rfl, trivial⟩ ?_
  rintro ρk4 ⟨hk4_0, hk4_1, hk4_5, hk4_6, -⟩
  repeat (with_reducible first | refine c_seq ?_ | refine c_block ?_ | refine c_skip ?_ | refine x_then ?_ | refine x_block ?_)
  refine c_reg ?_
  refine l_pure rfl (s_move  hk4_0 ?_)
  refine l_pure rfl (s_leno  rfl ⟨_, Tryd.underlying62⟩ ?_)
  refine l_pure rfl (s_move  rfl ?_)
  refine l_nil ?_
  repeat (with_reducible first | refine c_seq ?_ | refine c_skip ?_ | refine x_then ?_ | refine x_block ?_)
  refine c_cut1 (fun ρ w' => ∃ R, MatG R n m (zRows f k last n) ∧ St w0 w' ([(b6, 68, encZ (f k k)), (b5, 68, encZ last)] ++ mB encZ 68 63 bo R H)) ?_ ?_
  · repeat (with_reducible first | refine c_seq ?_ | refine c_block ?_ | refine c_skip ?_ | refine x_then ?_ | refine x_block ?_)
    refine c_loop (σ := Nat) (fun i ρ w' => i ≤ n ∧ ρ 0 = .slice (some ⟨bo, 0, none⟩) n n ∧ ρ 1 = .int .i64 k ∧ ρ 5 = .pointer (some ⟨b5, 0, none⟩) ∧ ρ 6 = .pointer (some ⟨b6, 0, none⟩) ∧ ρ 18 = .slice (some ⟨bo, 0, none⟩) n n ∧ ρ 19 = .int .i64 n ∧ ρ 20 = .int .i64 i ∧
      ∃ R, MatG R n m (zRows f k last i) ∧ St w0 w' ([(b6, 68, encZ (f k k)), (b5, 68, encZ last)] ++ mB encZ 68 63 bo R H)) (fun i => n - i) 0
      ⟨Nat.zero_le _, by assumption, by assumption, by assumption, by assumption, rfl, rfl, rfl, R0, hR0.congr fun a _ b _ => (if_neg (Nat.not_lt_zero _)).symm, hS⟩ ?_
    clear hS hlk0 hxk0 hg0
    rintro i ρ w2 ⟨hi, h0, h1, h5, h6, h18, h19, h20, R, hR, hS⟩
    repeat (with_reducible first | refine c_seq ?_ | refine c_block ?_ | refine c_skip ?_ | refine x_then ?_ | refine x_block ?_)
    refine c_reg ?_
    refine l_pure rfl (s_lss  h20 h19 ?_)
    refine l_nil ?_
    repeat (with_reducible first | refine c_seq ?_ | refine c_block ?_ | refine c_skip ?_ | refine x_then ?_ | refine x_block ?_)
    by_cases hlt : i < n
    · refine c_yes rfl (decide_eq_true (by omega)) ?_
      repeat (with_reducible first | refine c_seq ?_ | refine c_block ?_ | refine c_skip ?_ | refine x_then ?_ | refine x_block ?_)
      have hli : i < R.length := by rw [hR.len]; exact hlt
      have hlk : k < R.length := by rw [hR.len]; exact hk
      have hxi := hR.xlen hlt
      have hrow : ∀ b, b < m → zRows f k last i i b = f i b := fun b _ => if_neg (Nat.lt_irrefl _)
      have hrowk : ∀ b, b < m → zRows f k last i k b = f k b := fun b _ => by
        unfold zRows zStep
        split
        · rw [if_pos rfl]
        · rfl
      repeat (with_reducible first | refine c_seq ?_ | refine c_block ?_ | refine c_skip ?_ | refine x_then ?_ | refine x_block ?_)
      refine c_reg ?_
      refine l_pure rfl (s_move  h20 ?_)
      refine l_pure rfl (s_ixo (i := i)  h18 h20 (by omega) (by first | omega | (simp; done) | (simp; omega)) si_62 ?_)
      refine l_read rfl (s_mrowP [_, _]  rfl vi_63 hS (by omega) hli ?_)
      refine l_pure rfl (s_asg  rfl ?_)
      refine l_pure rfl (s_asg  rfl ?_)
      refine l_nil ?_
      repeat (with_reducible first | refine c_seq ?_ | refine c_block ?_ | refine c_skip ?_ | refine x_then ?_ | refine x_block ?_)
      refine c_reg ?_
      refine l_pure rfl (s_move  rfl ?_)
      refine l_pure rfl (s_move  h1 ?_)
      refine l_pure rfl (s_eql  rfl rfl ?_)
      refine l_nil ?_
      repeat (with_reducible first | refine c_seq ?_ | refine c_block ?_ | refine c_skip ?_ | refine x_then ?_ | refine x_block ?_)
      by_cases hik : i = k
      · refine c_yes rfl (decide_eq_true (by omega)) ?_
        repeat (with_reducible first | refine c_seq ?_ | refine c_block ?_ | refine c_skip ?_ | refine x_then ?_ | refine x_block ?_)
        refine c_exit ?_
        repeat (with_reducible first | refine x_then_exit ?_ | refine x_block_exit ?_ | refine x_block_pass rfl ?_)
        repeat (with_reducible first | refine c_seq ?_ | refine c_block ?_ | refine c_skip ?_ | refine x_then ?_ | refine x_block ?_)
        refine c_reg ?_
        refine l_pure rfl (s_add  h20 rfl (IntWalk.i64_in _ (by omega)) ?_)
        refine l_pure rfl (s_move  rfl ?_)
        refine l_nil ?_
        repeat (with_reducible first | refine c_seq ?_ | refine c_block ?_ | refine c_skip ?_ | refine x_then ?_ | refine x_block ?_)
        refine ⟨i + 1, _, rfl, ⟨hlt, by assumption, by assumption, by assumption, by assumption, by assumption, by assumption, vi rfl (by omega), R, hR.congr fun a _ b hb => ?_, hS⟩, by omega⟩
        by_cases e : a = i
        · rw [e, hrow b hb]
          unfold zRows zStep
          rw [if_pos (by omega), if_pos hik, hik]
        · unfold zRows
          by_cases e2 : a < i
          · rw [if_pos e2, if_pos (by omega)]
          · rw [if_neg e2, if_neg (by omega)]
      · refine c_no rfl (decide_eq_false (by omega)) ?_
        repeat (with_reducible first | refine c_seq ?_ | refine c_block ?_ | refine c_skip ?_ | refine x_then ?_ | refine x_block ?_)
        have hgi : (R.getD i zRw).X.getD k zZZ = f i k := by rw [hR.get hlt hkm]; exact hrow k hkm
        repeat (with_reducible first | refine c_seq ?_ | refine c_block ?_ | refine c_skip ?_ | refine x_then ?_ | refine x_block ?_)
        refine c_reg ?_
        refine l_pure rfl (s_move  rfl ?_)
        refine l_pure rfl (s_move  h1 ?_)
        refine l_pure rfl (s_ixo (i := k)  rfl rfl (by omega) (by first | omega | (simp; done) | (simp; omega)) si_63 ?_)
        refine l_read rfl (s_mldP [_, _] (i := i) (j := k) zZZ encZ_len  rfl vi_68 hS rfl hli (by omega) (by omega) rfl (.inl rfl) ?_)
        refine l_heavy rfl (s_alloc  vi_68 hS ?_)
        intro b9 wz5 hS hBz5
        refine l_heavy rfl (s_sta (k := 0)  rfl rfl vi_68 hS rfl rfl rfl (Nat.le_of_ble_eq_true rfl) rfl ?_)
        intro wz6 hS
        refine l_nil ?_
        repeat (with_reducible first | refine c_seq ?_ | refine c_block ?_ | refine c_skip ?_ | refine x_then ?_ | refine x_block ?_)
        rw [hgi] at hS
        replace hS : St w0 _ ([(b9, 68, encZ (f i k)), (b6, 68, encZ (f k k)), (b5, 68, encZ last)] ++ mB encZ 68 63 bo R H) := hS
        obtain ⟨bi, hbi⟩ : ∃ b, b = (R.getD i zRw).b := ⟨_, rfl⟩
        obtain ⟨ci, hci⟩ : ∃ b, b = (R.getD i zRw).cap := ⟨_, rfl⟩
        have hvi := hR.v hlt
        rw [← hbi, ← hci] at hvi
        rw [hvi]
        repeat (with_reducible first | refine c_seq ?_ | refine c_block ?_ | refine c_skip ?_ | refine x_then ?_ | refine x_block ?_)
        refine c_forget (fun ρ' => ρ' 0 = .slice (some ⟨bo, 0, none⟩) n n ∧ ρ' 1 = .int .i64 k ∧ ρ' 5 = .pointer (some ⟨b5, 0, none⟩) ∧ ρ' 6 = .pointer (some ⟨b6, 0, none⟩) ∧ ρ' 8 = .slice (some ⟨bi, 0, none⟩) m ci ∧ ρ' 9 = .pointer (some ⟨b9, 0, none⟩) ∧ ρ' 18 = .slice (some ⟨bo, 0, none⟩) n n ∧ ρ' 19 = .int .i64 n ∧ ρ' 20 = .int .i64 i ∧ True) ⟨h0, h1, h5, h6, rfl, rfl, h18, h19, h20, trivial⟩ ?_
        rintro ρk7 ⟨hk7_0, hk7_1, hk7_5, hk7_6, hk7_8, hk7_9, hk7_18, hk7_19, hk7_20, -⟩
        repeat (with_reducible first | refine c_seq ?_ | refine c_block ?_ | refine c_skip ?_ | refine x_then ?_ | refine x_block ?_)
        refine c_reg ?_
        refine l_pure rfl (s_move  hk7_8 ?_)
        refine l_pure rfl (s_leno  rfl ⟨_, Tryd.underlying63⟩ ?_)
        refine l_pure rfl (s_move  rfl ?_)
        refine l_nil ?_
        repeat (with_reducible first | refine c_seq ?_ | refine c_skip ?_ | refine x_then ?_ | refine x_block ?_)
        refine c_cut1 (fun ρ w' => ρ 0 = .slice (some ⟨bo, 0, none⟩) n n ∧ ρ 1 = .int .i64 k ∧ ρ 5 = .pointer (some ⟨b5, 0, none⟩) ∧ ρ 6 = .pointer (some ⟨b6, 0, none⟩) ∧ ρ 8 = .slice (some ⟨bi, 0, none⟩) m ci ∧ ρ 18 = .slice (some ⟨bo, 0, none⟩) n n ∧ ρ 19 = .int .i64 n ∧ ρ 20 = .int .i64 i ∧
          ∃ R, (R.getD i zRw).b = bi ∧ MatG R n m (zCols f k last i m) ∧ St w0 w' ([(b6, 68, encZ (f k k)), (b5, 68, encZ last)] ++ mB encZ 68 63 bo R H)) ?_ ?_
        · repeat (with_reducible first | refine c_seq ?_ | refine c_block ?_ | refine c_skip ?_ | refine x_then ?_ | refine x_block ?_)
          refine c_loop (σ := Nat) (fun j ρ w' => j ≤ m ∧ ρ 0 = .slice (some ⟨bo, 0, none⟩) n n ∧ ρ 1 = .int .i64 k ∧ ρ 5 = .pointer (some ⟨b5, 0, none⟩) ∧ ρ 6 = .pointer (some ⟨b6, 0, none⟩) ∧ ρ 8 = .slice (some ⟨bi, 0, none⟩) m ci ∧ ρ 9 = .pointer (some ⟨b9, 0, none⟩) ∧ ρ 18 = .slice (some ⟨bo, 0, none⟩) n n ∧ ρ 19 = .int .i64 n ∧ ρ 20 = .int .i64 i ∧ ρ 33 = .int .i64 m ∧ ρ 34 = .int .i64 j ∧
            ∃ R, (R.getD i zRw).b = bi ∧ MatG R n m (zCols f k last i j) ∧ St w0 w' ([(b9, 68, encZ (f i k)), (b6, 68, encZ (f k k)), (b5, 68, encZ last)] ++ mB encZ 68 63 bo R H)) (fun j => m - j) 0
            ⟨Nat.zero_le _, by assumption, by assumption, by assumption, by assumption, by assumption, by assumption, by assumption, by assumption, by assumption, rfl, rfl, R, hbi.symm, hR.congr fun a _ b _ => (if_neg (by omega)).symm, hS⟩ ?_
          clear hS hli hlk hxi hgi hbi hci hvi hR
          rintro j ρ w3 ⟨hj, h0, h1, h5, h6, h8, h9, h18, h19, h20, h33, h34, R, hb, hR, hS⟩
          have hli : i < R.length := by rw [hR.len]; exact hlt
          have hlk : k < R.length := by rw [hR.len]; exact hk
          have hxi := hR.xlen hlt
          have hxk := hR.xlen hk
          repeat (with_reducible first | refine c_seq ?_ | refine c_block ?_ | refine c_skip ?_ | refine x_then ?_ | refine x_block ?_)
          refine c_reg ?_
          refine l_pure rfl (s_lss  h34 h33 ?_)
          refine l_nil ?_
          repeat (with_reducible first | refine c_seq ?_ | refine c_block ?_ | refine c_skip ?_ | refine x_then ?_ | refine x_block ?_)
          by_cases hjl : j < m
          · refine c_yes rfl (decide_eq_true (by omega)) ?_
            repeat (with_reducible first | refine c_seq ?_ | refine c_block ?_ | refine c_skip ?_ | refine x_then ?_ | refine x_block ?_)
            refine c_reg ?_
            refine l_pure rfl (s_move  h34 ?_)
            refine l_pure rfl (s_asg  rfl ?_)
            refine l_nil ?_
            repeat (with_reducible first | refine c_seq ?_ | refine c_block ?_ | refine c_skip ?_ | refine x_then ?_ | refine x_block ?_)
            refine c_reg ?_
            refine l_pure rfl (s_move  rfl ?_)
            refine l_pure rfl (s_move  h1 ?_)
            refine l_pure rfl (s_neq  rfl rfl ?_)
            refine l_nil ?_
            repeat (with_reducible first | refine c_seq ?_ | refine c_block ?_ | refine c_skip ?_ | refine x_then ?_ | refine x_block ?_)
            by_cases hjk : j = k
            · refine c_no rfl (decide_eq_false (by omega)) ?_
              repeat (with_reducible first | refine c_seq ?_ | refine c_block ?_ | refine c_skip ?_ | refine x_then ?_ | refine x_block ?_)
              refine c_reg ?_
              refine l_pure rfl (s_add  h34 rfl (IntWalk.i64_in _ (by omega)) ?_)
              refine l_pure rfl (s_move  rfl ?_)
              refine l_nil ?_
              repeat (with_reducible first | refine c_seq ?_ | refine c_block ?_ | refine c_skip ?_ | refine x_then ?_ | refine x_block ?_)
              refine ⟨j + 1, _, rfl, ⟨hjl, by assumption, by assumption, by assumption, by assumption, by assumption, by assumption, by assumption, by assumption, by assumption, by assumption, vi rfl (by omega), R, hb, hR.congr fun a _ b _ => ?_, hS⟩, by omega⟩
              unfold zCols
              by_cases e : a = i ∧ b < j ∧ b ≠ k
              · rw [if_pos e, if_pos (by omega)]
              · rw [if_neg e, if_neg (by omega)]
            · refine c_yes rfl (decide_eq_true (by omega)) ?_
              repeat (with_reducible first | refine c_seq ?_ | refine c_block ?_ | refine c_skip ?_ | refine x_then ?_ | refine x_block ?_)
              have hgi : (R.getD i zRw).X.getD j zZZ = f i j := by
                rw [hR.get hlt hjl]
                unfold zCols
                rw [if_neg (by omega)]; exact hrow j hjl
              have hgk : (R.getD k zRw).X.getD j zZZ = f k j := by
                rw [hR.get hk hjl]
                unfold zCols
                rw [if_neg (by omega)]; exact hrowk j hjl
              have q1 := hf k hk k hkm
              have q2 := hf i hlt j hjl
              have q3 := hf i hlt k hkm
              have q4 := hf k hk j hjl
              have t1 := zSz_times (f k k) (f i j)
              have t2 := zSz_times (f i k) (f k j)
              have t3 := zSz_minus (zTimes (f k k) (f i j)) (zTimes (f i k) (f k j))
              repeat (with_reducible first | refine c_seq ?_ | refine c_block ?_ | refine c_skip ?_ | refine x_then ?_ | refine x_block ?_)
              refine c_draw [(0, .pure), (1, .pure), (2, .read), (3, .pure), (4, .pure), (5, .pure), (6, .read), (8, .read), (9, .pure), (10, .pure), (11, .pure), (12, .read), (13, .pure), (14, .pure), (15, .read), (18, .read), (7, .grow), (16, .grow), (17, .grow), (19, .grow), (20, .pure), (21, .free)] (by kernel_rfl) (by kernel_rfl) hS ?_
              intro wz8 hS hBz8
              refine w_pure rfl rfl (s_move  h8 ?_)
              refine w_pure rfl rfl (s_move  rfl ?_)
              refine w_read rfl rfl (s_ldo (k := 1)  h6 vi_68 hS rfl rfl rfl (.inl rfl) ?_)
              refine w_pure rfl rfl (s_move  h8 ?_)
              refine w_pure rfl rfl (s_move  rfl ?_)
              refine w_pure rfl rfl (s_ixo (i := j)  rfl rfl (by omega) (by first | omega | (simp; done) | (simp; omega)) si_63 ?_)
              refine w_read rfl rfl (s_mldP [_, _, _] (i := i) (j := j) zZZ encZ_len  rfl vi_68 hS hb hli (by omega) (by omega) rfl (.inl rfl) ?_)
              refine w_read rfl rfl (s_ldo (k := 0)  h9 vi_68 hS rfl rfl rfl (.inl rfl) ?_)
              refine w_pure rfl rfl (s_move  h0 ?_)
              refine w_pure rfl rfl (s_move  h1 ?_)
              refine w_pure rfl rfl (s_ixo (i := k)  rfl rfl (by omega) (by first | omega | (simp; done) | (simp; omega)) si_62 ?_)
              refine w_read rfl rfl (s_mrowP [_, _, _]  rfl vi_63 hS (by omega) hlk ?_)
              refine w_pure rfl rfl (s_move  rfl ?_)
              refine w_pure rfl rfl (s_ixo (i := j)  rfl rfl (by omega) (by first | omega | (simp; done) | (simp; omega)) si_63 ?_)
              refine w_read rfl rfl (s_mldP [_, _, _] (i := k) (j := j) zZZ encZ_len  rfl vi_68 hS rfl hlk (by omega) (by omega) rfl (.inl rfl) ?_)
              refine w_read rfl rfl (s_ldo (k := 2)  h5 vi_68 hS rfl rfl rfl (.inl rfl) ?_)
              rw [hgi, hgk]
              refine w_grow rfl rfl (s_call Tryd.call61 rfl (ztimes_ok (f k k) (f i j) _ (by omega) (by omega)) ?_)
              rintro _ wc9 ⟨rfl, hBc9⟩
              replace hS := hS.grow hBc9
              refine ⟨hBc9, ?_⟩
              refine w_grow rfl rfl (s_call Tryd.call61 rfl (ztimes_ok (f i k) (f k j) _ (by omega) (by omega)) ?_)
              rintro _ wc10 ⟨rfl, hBc10⟩
              replace hS := hS.grow hBc10
              refine ⟨hBc10, ?_⟩
              refine w_grow rfl rfl (s_call Tryd.call62 rfl (zminus_ok _ _ _ (by omega) (by omega)) ?_)
              rintro _ wc11 ⟨rfl, hBc11⟩
              replace hS := hS.grow hBc11
              refine ⟨hBc11, ?_⟩
              refine w_grow rfl rfl (s_call Tryd.call63 rfl (zover_ok _ last _ (by omega) (by omega) hl0) ?_)
              rintro _ wc12 ⟨rfl, hBc12⟩
              replace hS := hS.grow hBc12
              refine ⟨hBc12, ?_⟩
              refine w_pure rfl rfl (s_ixo (i := j)  rfl rfl (by omega) (by first | omega | (simp; done) | (simp; omega)) si_63 ?_)
              refine w_free rfl rfl (s_mstP [_, _, _] (i := i) (j := j) (zNew f k last i j) encZ_len  rfl rfl vi_68 hS hb hli (by omega) (by omega) rfl rfl ?_)
              intro wz13 hS
              refine w_end ?_
              repeat (with_reducible first | refine c_seq ?_ | refine c_block ?_ | refine c_skip ?_ | refine x_then ?_ | refine x_block ?_)
              refine c_reg ?_
              refine l_pure rfl (s_add  h34 rfl (IntWalk.i64_in _ (by omega)) ?_)
              refine l_pure rfl (s_move  rfl ?_)
              refine l_nil ?_
              repeat (with_reducible first | refine c_seq ?_ | refine c_block ?_ | refine c_skip ?_ | refine x_then ?_ | refine x_block ?_)
              refine ⟨j + 1, _, rfl, ⟨hjl, by assumption, by assumption, by assumption, by assumption, by assumption, by assumption, by assumption, by assumption, by assumption, by assumption, vi rfl (by omega), _, ?_, (hR.put hlt j (zNew f k last i j)).congr fun a _ b _ => ?_, hS⟩, by omega⟩
              · rw [getD_setL _ _ _ hli, if_pos rfl]; exact hb
              · unfold zCols
                by_cases e : a = i ∧ b = j
                · rw [if_pos e, if_pos (by omega), e.2]
                · rw [if_neg e]
                  by_cases e2 : a = i ∧ b < j ∧ b ≠ k
                  · rw [if_pos e2, if_pos (by omega)]
                  · rw [if_neg e2, if_neg (by omega)]
          · refine c_no rfl (decide_eq_false (by omega)) ?_
            repeat (with_reducible first | refine c_seq ?_ | refine c_block ?_ | refine c_skip ?_ | refine x_then ?_ | refine x_block ?_)
            refine c_exit ?_
            repeat (with_reducible first | refine x_then_exit ?_ | refine x_block_exit ?_ | refine x_block_pass rfl ?_)
            repeat (with_reducible first | refine c_seq ?_ | refine c_block ?_ | refine c_skip ?_ | refine x_then ?_ | refine x_block ?_)
            obtain rfl : j = m := by omega
            exact ⟨_, rfl, h0, h1, h5, h6, h8, h18, h19, h20, R, hb, hR, hS.drop (List.sublist_cons_self _ _)⟩
        clear hS hli hlk hxi hgi hbi hci hvi hR
        rintro ρ w3 ⟨h0, h1, h5, h6, h8, h18, h19, h20, R, hb, hR, hS⟩
        have hli : i < R.length := by rw [hR.len]; exact hlt
        have hxi := hR.xlen hlt
        repeat (with_reducible first | refine c_seq ?_ | refine c_block ?_ | refine c_skip ?_ | refine x_then ?_ | refine x_block ?_)
        refine c_reg ?_
        refine l_pure rfl (s_move  h8 ?_)
        refine l_pure rfl (s_move  h1 ?_)
        refine l_pure rfl (s_build  rfl bz_68 ?_)
        refine l_pure rfl (s_ixo (i := k)  rfl rfl (by omega) (by first | omega | (simp; done) | (simp; omega)) si_63 ?_)
        refine l_heavy rfl (s_mstP [_, _] (i := i) (j := k) zZZ encZ_len  rfl rfl vi_68 hS hb hli (by omega) (by omega) (by rw [encZ_zero]; rfl) (by rw [encZ_zero]; rfl) ?_)
        intro wz14 hS
        refine l_nil ?_
        repeat (with_reducible first | refine c_seq ?_ | refine c_block ?_ | refine c_skip ?_ | refine x_then ?_ | refine x_block ?_)
        refine c_reg ?_
        refine l_pure rfl (s_add  h20 rfl (IntWalk.i64_in _ (by omega)) ?_)
        refine l_pure rfl (s_move  rfl ?_)
        refine l_nil ?_
        repeat (with_reducible first | refine c_seq ?_ | refine c_block ?_ | refine c_skip ?_ | refine x_then ?_ | refine x_block ?_)
        refine ⟨i + 1, _, rfl, ⟨hlt, by assumption, by assumption, by assumption, by assumption, by assumption, by assumption, vi rfl (by omega), _, (hR.put hlt k zZZ).congr fun a _ b hb' => ?_, hS⟩, by omega⟩
        by_cases e : a = i
        · by_cases e2 : b = k
          · rw [if_pos ⟨e, e2⟩]
            unfold zRows zStep
            rw [if_pos (by omega), if_neg (by omega), if_pos e2]
          · rw [if_neg (fun q => e2 q.2)]
            unfold zCols zRows zStep
            rw [if_pos ⟨e, hb', e2⟩, if_pos (by omega), if_neg (by omega), if_neg e2, e]
        · rw [if_neg (fun q => e q.1)]
          unfold zCols zRows
          rw [if_neg (fun q => e q.1)]
          by_cases e2 : a < i
          · rw [if_pos e2, if_pos (by omega)]
          · rw [if_neg e2, if_neg (by omega)]
    · refine c_no rfl (decide_eq_false (by omega)) ?_
      repeat (with_reducible first | refine c_seq ?_ | refine c_block ?_ | refine c_skip ?_ | refine x_then ?_ | refine x_block ?_)
      refine c_exit ?_
      repeat (with_reducible first | refine x_then_exit ?_ | refine x_block_exit ?_ | refine x_block_pass rfl ?_)
      repeat (with_reducible first | refine c_seq ?_ | refine c_block ?_ | refine c_skip ?_ | refine x_then ?_ | refine x_block ?_)
      obtain rfl : i = n := by omega
      exact ⟨_, rfl, R, hR, hS⟩
  clear hS
  rintro ρ w2 ⟨R, hR, hS⟩
  repeat (with_reducible first | refine c_seq ?_ | refine c_block ?_ | refine c_skip ?_ | refine x_then ?_ | refine x_block ?_)
  exact r_none rfl ⟨rfl, R, hR.congr fun a ha b _ => if_pos ha, (hS.drop (List.sublist_cons_self _ _)).drop (List.sublist_cons_self _ _)⟩
end Go.Proofs.YtblfipdfklpmmaaDoor
namespace Go.Proofs.YtblfipdfklpmmaaDoor
open Go Go.RowKit Go.Sx
def AUG (A : List (List RR)) (B : List RR) : Mx := fun i j => if j < A.length then RM A i j else if j = A.length then VX B i else 0
def slD (A : List (List RR)) (B : List RR) : Rd := rdc A.length (AUG A B) A.length
def slE (A : List (List RR)) (B : List RR) : Int := if sqE A ≠ 0 then sqE A else if B.length ≠ A.length then 4 else if (slD A B).P.length = A.length then 0 else 5
def slL (A : List (List RR)) (B : List RR) : List RR := if slE A B = 0 then tab A.length fun i => ofQ ((slD A B).M i A.length) else []
/-- The whole numbers that the rows are multiplied to. -/
def BmZ (q : Nat → Nat → Rat) (m : Nat) : MZ := fun i j => itZ (q i) m j
def BmR (q : Nat → Nat → Rat) (m : Nat) : Mx := fun i j => if j < m then ((zv (BmZ q m i j) : Int) : Rat) else 0
theorem BmR_whole (q : Nat → Nat → Rat) (m : Nat) : WholeMx (BmR q m) := fun i j => by
  unfold BmR
  split
  · exact ⟨_, rfl⟩
  · exact ⟨0, rfl⟩
theorem cm_ne (q : Nat → Rat) (m : Nat) : ((cmD q m : Int) : Rat) ≠ 0 := fun e => by
  have h := cmD_pos q m
  have : (cmD q m : Int) = 0 := Rat.intCast_inj.1 e
  omega
theorem BmR_scale {q : Nat → Nat → Rat} {m : Nat} (h0 : ∀ i j, m ≤ j → q i j = 0) (i j : Nat) : BmR q m i j = ((cmD (q i) m : Int) : Rat) * q i j := by
  unfold BmR
  by_cases h : j < m
  · rw [if_pos h]; exact itZ_val (q i) h
  · rw [if_neg h, h0 i j (by omega), Rat.mul_zero]
theorem AUG_out (A : List (List RR)) (B : List RR) : ∀ i j, A.length + 1 ≤ j → AUG A B i j = 0 := fun i j h => by
  unfold AUG
  rw [if_neg (by omega), if_neg (by omega)]
/-- Both have the same pivots; at the end they are the same. -/
theorem full_iff {n m : Nat} {q : Mx} (h0 : ∀ i j, m ≤ j → q i j = 0) (k : Nat) : (rdc n (BmR q m) k).P.length = k ↔ (rdc n q k).P.length = k := by
  constructor
  · intro h
    refine (rdc_scaled (A := BmR q m) (B := q) (c := fun i => ((cmD (q i) m : Int) : Rat)⁻¹) (fun i _ e => ?_) (fun i _ j => ?_) k h).1
    · have := Rat.mul_inv_cancel _ (cm_ne (q i) m)
      rw [e, Rat.mul_zero] at this
      exact absurd this (by decide)
    · have := Rat.mul_inv_cancel _ (cm_ne (q i) m)
      rw [BmR_scale h0]; grind
  · intro h
    exact (rdc_scaled (A := q) (B := BmR q m) (c := fun i => ((cmD (q i) m : Int) : Rat)) (fun i _ => cm_ne (q i) m) (fun i _ j => BmR_scale h0 i j) k h).1
theorem full_same {n m : Nat} {q : Mx} (h0 : ∀ i j, m ≤ j → q i j = 0) (h : (rdc n q n).P.length = n) : ∀ i, i < n → ∀ j, (rdc n (BmR q m) n).M i j = (rdc n q n).M i j := by
  obtain ⟨_, c', _, e⟩ := rdc_scaled (A := q) (B := BmR q m) (c := fun i => ((cmD (q i) m : Int) : Rat)) (fun i _ => cm_ne (q i) m) (fun i _ j => BmR_scale h0 i j) n h
  intro i hi j
  rw [e i hi j, if_pos hi, Rat.one_mul]
theorem rdc_chain {n : Nat} {A : Mx} : ∀ d k, k + d = n → (rdc n A n).P.length = n → (rdc n A k).P.length = k
  | 0, k, h, hf => by obtain rfl : k = n := by omega
                      exact hf
  | d + 1, k, h, hf => (rdc_back (rdc_chain d (k + 1) (by omega) hf)).1
theorem rdc_stuck {n k : Nat} {A : Mx} (hk : k < n) (hp : ¬ pv (rdc n A k).M k n k < n) : (rdc n A n).P.length ≠ n := fun hf => hp (rdc_back (rdc_chain (n - (k + 1)) (k + 1) (by omega) hf)).2
theorem mk_quot {x y : Bool} {a b : Nat} (hb : b ≠ 0) : mkRat (sg (x != y) a) b = ((sg x a : Int) : Rat) / ((sg y b : Int) : Rat) := by
  have h0 : ((b : Int) : Rat) ≠ 0 := fun e => hb (by have := Rat.intCast_inj.1 (show ((b : Int) : Rat) = ((0 : Int) : Rat) from e); omega)
  have hi := Rat.mul_inv_cancel _ h0
  have hn : (-((b : Int) : Rat)) ≠ 0 := fun e => h0 (by grind)
  have hi2 := Rat.mul_inv_cancel _ hn
  have he : (-((b : Int) : Rat))⁻¹ = - ((b : Int) : Rat)⁻¹ := by grind
  rw [Rat.mkRat_eq_div]
  have hbb : ((b : Nat) : Rat) = ((b : Int) : Rat) := rfl
  unfold sg
  rw [hbb]
  cases x <;> cases y <;> simp only [bne_self_eq_false, Bool.false_eq_true, if_false, if_true, Bool.bne_false, Bool.bne_true, Bool.not_false, Rat.intCast_neg, Rat.div_def, he] <;> grind
theorem solve1_ok (p k : Nat) (vr : Value) (l : List ZZ) (w : World) (hp : At w ⟨p, 0, none⟩ [.int .i64 k]) (hr : Sl encZ 2 w vr l) (hk : k < l.length) :
    Ret Tryd.prog 40 #[vr, .pointer (some ⟨p, 0, none⟩)] w fun v w' => v = .bool (decide ((l.getD k zZZ).mag ≠ 0)) ∧ Below w.heap.size w w' := by
  have hS := St.init w
  refine enter Tryd.func40 rfl Tryd.ntmps40 rfl ?_
  repeat (with_reducible first | refine c_seq ?_ | refine c_block ?_ | refine c_skip ?_ | refine x_then ?_ | refine x_block ?_)
  refine c_reg ?_
  refine l_pure rfl (s_asg  rfl ?_)
  refine l_nil ?_
  repeat (with_reducible first | refine c_seq ?_ | refine c_block ?_ | refine c_skip ?_ | refine x_then ?_ | refine x_block ?_)
  refine c_reg ?_
  refine l_pure rfl (s_move  rfl ?_)
  refine l_read rfl (s_ld (cs := [.int .i64 k])  rfl vi_3 (hp.below hS.below) rfl rfl (.inr rfl) ?_)
  refine l_pure rfl (s_ixr (i := k)  rfl rfl (hr.below hS.below) (by omega) (by first | omega | (simp; done) | (simp; omega)) si_63 ?_)
  refine l_pure rfl (s_fldr  rfl (spot_el (hr.below hS.below) (fun _ => rfl) (by decide) (by first | omega | (simp; done) | (simp; omega))) fo_68_1 ?_)
  refine l_read rfl (s_ldfe (i := k) (off := 1) zZZ  rfl vi_9 (hr.below hS.below) (fun _ => rfl) (by decide) (by first | omega | (simp; done) | (simp; omega)) rfl rfl (.inr rfl) ?_)
  refine l_pure rfl (s_nes  rfl rfl ?_)
  refine l_pure rfl (s_asg  rfl ?_)
  refine l_nil ?_
  repeat (with_reducible first | refine c_seq ?_ | refine c_block ?_ | refine c_skip ?_ | refine x_then ?_ | refine x_block ?_)
  refine c_ret ?_
  repeat (with_reducible first | refine x_then_ret ?_ | refine x_block_ret ?_)
  refine r_one rfl rfl ?_
  exact ⟨congrArg Value.bool (decide_eq_decide.2 (not_congr natS_nil)), hS.below⟩
def fstB (pr : Nat → Bool) : Nat → Nat → Int
  | 0, _ => -1
  | d + 1, i => if pr i = true then i else fstB pr d (i + 1)
theorem IndexZ_ok (p k n m : Nat) (v : Value) (vs : List Value) (f : MZ) (w : World) (hp : At w ⟨p, 0, none⟩ [.int .i64 k]) (hv : Sl enV 1 w v vs) (hn : vs.length = n) (hr : ∀ i, i < n → Sl encZ 2 w (vs.getD i undef) (tab m (f i))) (hk : k < m) :
    Ret Tryd.prog 39 #[v, .func (.func 40) #[] #[.pointer (some ⟨p, 0, none⟩)]] w fun r w' => r = .int .i64 (fstB (fun i => decide ((f i k).mag ≠ 0)) n 0) ∧ Below w.heap.size w w' := by
  have hmx := hv.maxLen
  have hS := St.init w
  refine enter Tryd.func39 rfl Tryd.ntmps39 rfl ?_
  repeat (with_reducible first | refine c_seq ?_ | refine c_block ?_ | refine c_skip ?_ | refine x_then ?_ | refine x_block ?_)
  refine c_reg ?_
  refine l_pure rfl (s_asg  rfl ?_)
  refine l_nil ?_
  repeat (with_reducible first | refine c_seq ?_ | refine c_block ?_ | refine c_skip ?_ | refine x_then ?_ | refine x_block ?_)
  refine c_reg ?_
  refine l_pure rfl (s_move  rfl ?_)
  refine l_pure rfl (s_lenr  rfl (hv.below hS.below) ⟨_, Tryd.underlying62⟩ ?_)
  refine l_pure rfl (s_move  rfl ?_)
  refine l_nil ?_
  repeat (with_reducible first | refine c_seq ?_ | refine c_skip ?_ | refine x_then ?_ | refine x_block ?_)
  refine c_cut1 (fun ρ w' => fstB (fun i => decide ((f i k).mag ≠ 0)) n 0 = -1 ∧ St w w' []) ?_ ?_
  · repeat (with_reducible first | refine c_seq ?_ | refine c_block ?_ | refine c_skip ?_ | refine x_then ?_ | refine x_block ?_)
    refine c_loop (σ := Nat) (fun i ρ w' => i ≤ n ∧ fstB (fun i => decide ((f i k).mag ≠ 0)) n 0 = fstB (fun i => decide ((f i k).mag ≠ 0)) (n - i) i ∧ ρ 0 = v ∧ ρ 1 = .func (.func 40) #[] #[.pointer (some ⟨p, 0, none⟩)] ∧ ρ 7 = .int .i64 n ∧ ρ 8 = .int .i64 i ∧ St w w' []) (fun i => n - i) 0
      ⟨Nat.zero_le _, rfl, rfl, rfl, vi rfl (by omega), rfl, hS⟩ ?_
    clear hS
    rintro i ρ w2 ⟨hi, hf, h0, h1, h7, h8, hS⟩
    repeat (with_reducible first | refine c_seq ?_ | refine c_block ?_ | refine c_skip ?_ | refine x_then ?_ | refine x_block ?_)
    refine c_reg ?_
    refine l_pure rfl (s_lss  h8 h7 ?_)
    refine l_nil ?_
    repeat (with_reducible first | refine c_seq ?_ | refine c_block ?_ | refine c_skip ?_ | refine x_then ?_ | refine x_block ?_)
    by_cases hlt : i < n
    · refine c_yes rfl (decide_eq_true (by omega)) ?_
      repeat (with_reducible first | refine c_seq ?_ | refine c_block ?_ | refine c_skip ?_ | refine x_then ?_ | refine x_block ?_)
      obtain ⟨d, hd⟩ : ∃ d, n - i = d + 1 := ⟨n - i - 1, by omega⟩
      have hg : (tab m (f i)).getD k zZZ = f i k := tab_get _ _ hk
      repeat (with_reducible first | refine c_seq ?_ | refine c_block ?_ | refine c_skip ?_ | refine x_then ?_ | refine x_block ?_)
      refine c_reg ?_
      refine l_pure rfl (s_move  h8 ?_)
      refine l_pure rfl (s_asg  rfl ?_)
      refine l_nil ?_
      repeat (with_reducible first | refine c_seq ?_ | refine c_block ?_ | refine c_skip ?_ | refine x_then ?_ | refine x_block ?_)
      refine c_reg ?_
      refine l_pure rfl (s_move  h1 ?_)
      refine l_pure rfl (s_move  h0 ?_)
      refine l_pure rfl (s_move  rfl ?_)
      refine l_pure rfl (s_ixr (i := i)  rfl rfl (hv.below hS.below) (by omega) (by first | omega | (simp; done) | (simp; omega)) si_62 ?_)
      refine l_read rfl (s_lde (i := i) undef  rfl vi_63 (hv.below hS.below) (by first | omega | (simp; done) | (simp; omega)) rfl rfl (.inr rfl) ?_)
      refine l_heavy rfl (s_callv Tryd.call40 rfl rfl (solve1_ok p k _ (tab m (f i)) _ (hp.below hS.below) ((hr i hlt).below hS.below) (by rw [tab_len]; exact hk)) ?_)
      rintro r w3 ⟨rfl, hB3⟩
      replace hS := hS.grow hB3
      rw [hg]
      refine l_nil ?_
      repeat (with_reducible first | refine c_seq ?_ | refine c_block ?_ | refine c_skip ?_ | refine x_then ?_ | refine x_block ?_)
      by_cases hne : (f i k).mag ≠ 0
      · refine c_yes rfl (decide_eq_true hne) ?_
        repeat (with_reducible first | refine c_seq ?_ | refine c_block ?_ | refine c_skip ?_ | refine x_then ?_ | refine x_block ?_)
        have e : fstB (fun i => decide ((f i k).mag ≠ 0)) n 0 = i := by
          rw [hf, hd]
          show (if decide ((f i k).mag ≠ 0) = true then (i : Int) else _) = i
          rw [if_pos (decide_eq_true hne)]
        rw [e]
        repeat (with_reducible first | refine c_seq ?_ | refine c_block ?_ | refine c_skip ?_ | refine x_then ?_ | refine x_block ?_)
        refine c_reg ?_
        refine l_pure rfl (s_move  rfl ?_)
        refine l_pure rfl (s_asg  rfl ?_)
        refine l_nil ?_
        repeat (with_reducible first | refine c_seq ?_ | refine c_block ?_ | refine c_skip ?_ | refine x_then ?_ | refine x_block ?_)
        refine c_ret ?_
        repeat (with_reducible first | refine x_then_ret ?_ | refine x_block_ret ?_)
        refine r_one rfl rfl ?_
        exact ⟨rfl, hS.below⟩
      · refine c_no rfl (decide_eq_false hne) ?_
        repeat (with_reducible first | refine c_seq ?_ | refine c_block ?_ | refine c_skip ?_ | refine x_then ?_ | refine x_block ?_)
        refine c_reg ?_
        refine l_pure rfl (s_add  h8 rfl (IntWalk.i64_in _ (by omega)) ?_)
        refine l_pure rfl (s_move  rfl ?_)
        refine l_nil ?_
        repeat (with_reducible first | refine c_seq ?_ | refine c_block ?_ | refine c_skip ?_ | refine x_then ?_ | refine x_block ?_)
        refine ⟨i + 1, _, rfl, ⟨hlt, ?_, by assumption, by assumption, by assumption, vi rfl (by omega), hS⟩, by omega⟩
        rw [hf, hd]
        show (if decide ((f i k).mag ≠ 0) = true then (i : Int) else fstB _ d (i + 1)) = _
        rw [if_neg (by rw [decide_eq_false hne]; decide), show n - (i + 1) = d by omega]
    · refine c_no rfl (decide_eq_false (by omega)) ?_
      repeat (with_reducible first | refine c_seq ?_ | refine c_block ?_ | refine c_skip ?_ | refine x_then ?_ | refine x_block ?_)
      refine c_exit ?_
      repeat (with_reducible first | refine x_then_exit ?_ | refine x_block_exit ?_ | refine x_block_pass rfl ?_)
      repeat (with_reducible first | refine c_seq ?_ | refine c_block ?_ | refine c_skip ?_ | refine x_then ?_ | refine x_block ?_)
      obtain rfl : n = i := by omega
      rw [Nat.sub_self] at hf
      exact ⟨_, rfl, hf, hS⟩
  clear hS
  rintro ρ w2 ⟨he, hS⟩
  repeat (with_reducible first | refine c_seq ?_ | refine c_block ?_ | refine c_skip ?_ | refine x_then ?_ | refine x_block ?_)
  rw [he]
  repeat (with_reducible first | refine c_seq ?_ | refine c_block ?_ | refine c_skip ?_ | refine x_then ?_ | refine x_block ?_)
  refine c_reg ?_
  refine l_pure rfl (s_asg  rfl ?_)
  refine l_nil ?_
  repeat (with_reducible first | refine c_seq ?_ | refine c_block ?_ | refine c_skip ?_ | refine x_then ?_ | refine x_block ?_)
  refine c_ret ?_
  repeat (with_reducible first | refine x_then_ret ?_ | refine x_block_ret ?_)
  refine r_one rfl rfl ?_
  exact ⟨rfl, hS.below⟩
end Go.Proofs.YtblfipdfklpmmaaDoor
namespace Go.Sx
open Go Go.RowKit
section
variable {P : Program} {ops : Array Oper} {Kend : Act → World → Prop}
/-- Does operation i wait for none of those that are left? -/
def rdyU (ops : Array Oper) (U : List (Nat × Md)) (i : Nat) : Bool := match ops[i]? with
  | some o => o.after.all fun e => !Region.binds .any e || !(U.any fun y => Nat.beq y.1 e.on)
  | none => false
def del (U : List (Nat × Md)) (i : Nat) : List (Nat × Md) := U.filter fun y => !Nat.beq y.1 i
theorem mem_del {U : List (Nat × Md)} {i : Nat} {y : Nat × Md} : y ∈ del U i ↔ y ∈ U ∧ y.1 ≠ i := by
  unfold del
  rw [List.mem_filter]
  constructor
  · rintro ⟨h1, h2⟩
    refine ⟨h1, fun e => ?_⟩
    rw [e] at h2
    simp at h2
  · rintro ⟨h1, h2⟩
    refine ⟨h1, ?_⟩
    rw [Bool.not_eq_true']
    cases hb : Nat.beq y.1 i with
    | false => rfl
    | true => exact absurd (Nat.eq_of_beq_eq_true hb) h2
theorem del_comm (U : List (Nat × Md)) (i j : Nat) : del (del U i) j = del (del U j) i := by
  unfold del
  rw [List.filter_filter, List.filter_filter]
  congr 1
  funext y
  exact Bool.and_comm _ _
theorem rdy_mono {U V : List (Nat × Md)} (h : ∀ y ∈ V, y ∈ U) {i : Nat} (hr : rdyU ops U i = true) : rdyU ops V i = true := by
  unfold rdyU at *
  cases ho : ops[i]? with
  | none => rw [ho] at hr; cases hr
  | some o =>
    rw [ho] at hr
    simp only at hr ⊢
    rw [Array.all_eq_true'] at hr ⊢
    intro e he
    have := hr e he
    rw [Bool.or_eq_true] at this ⊢
    rcases this with q | q
    · exact .inl q
    · right
      rw [Bool.not_eq_true'] at q ⊢
      rw [List.any_eq_false] at q ⊢
      exact fun y hy => q y (h y hy)
theorem rdy_some {U : List (Nat × Md)} {i : Nat} (hr : rdyU ops U i = true) : ∃ o, ops[i]? = some o ∧ ∀ e ∈ o.after, Region.binds .any e = true → ∀ y ∈ U, y.1 ≠ e.on := by
  unfold rdyU at hr
  cases ho : ops[i]? with
  | none => rw [ho] at hr; cases hr
  | some o =>
    rw [ho] at hr
    simp only at hr
    rw [Array.all_eq_true'] at hr
    refine ⟨o, rfl, fun e he hb y hy q => ?_⟩
    have := hr e he
    rw [hb, Bool.not_true, Bool.false_or, Bool.not_eq_true', List.any_eq_false] at this
    exact this y hy (by rw [q]; simp)
def allo (P : Program) (ops : Array Oper) (Kend : Act → World → Prop) : Nat → List (Nat × Md) → Act → World → Prop
  | 0, U, a, w => U = [] ∧ Kend a w
  | n + 1, U, a, w => (U = [] → Kend a w) ∧ ∀ x ∈ U, rdyU ops U x.1 = true → ∃ o, ops[x.1]? = some o ∧ rstep P ops x.2 o a w (allo P ops Kend n (del U x.1))
/-- The edges point back. -/
def lowOk (ops : Array Oper) : Bool := (List.range ops.size).all fun i => match ops[i]? with
  | some o => o.after.all fun e => !Region.binds .any e || Nat.blt e.on i
  | none => true
theorem low_at (h : lowOk ops = true) {i : Nat} {o : Oper} (hi : ops[i]? = some o) : ∀ e ∈ o.after, Region.binds .any e = true → e.on < i := by
  intro e he hb
  have hlt : i < ops.size := by
    rcases Nat.lt_or_ge i ops.size with q | q
    · exact q
    · rw [Array.getElem?_eq_none q] at hi; cases hi
  have := List.all_eq_true.1 h i (List.mem_range.2 hlt)
  rw [hi] at this
  have := Array.all_eq_true'.1 this e he
  rw [hb, Bool.not_true, Bool.false_or, Nat.blt_eq] at this
  exact this
theorem rdy_ex (hlow : lowOk ops = true) {U : List (Nat × Md)} (hU : ∀ y ∈ U, y.1 < ops.size) : ∀ k m, (k, m) ∈ U → ∃ x ∈ U, rdyU ops U x.1 = true := by
  intro k
  induction k using Nat.strongRecOn with
  | _ k ih =>
    intro m hm
    by_cases hr : rdyU ops U k = true
    · exact ⟨_, hm, hr⟩
    · have hk := hU _ hm
      have ho : ops[k]? = some ops[k] := Array.getElem?_eq_getElem hk
      unfold rdyU at hr
      rw [ho] at hr
      simp only at hr
      rw [Array.all_eq_true'] at hr
      have : ∃ e ∈ ops[k].after, ¬ (!Region.binds .any e || !(U.any fun y => Nat.beq y.1 e.on)) = true := by
        refine Classical.byContradiction fun hc => hr fun e he => ?_
        exact Classical.byContradiction fun hn => hc ⟨e, he, hn⟩
      obtain ⟨e, he, hn⟩ := this
      rw [Bool.or_eq_true, not_or] at hn
      obtain ⟨h1, h2⟩ := hn
      have hb : Region.binds .any e = true := by simpa using h1
      have h3 : (U.any fun y => Nat.beq y.1 e.on) = true := by simpa using h2
      obtain ⟨y, hy, hyb⟩ := List.any_eq_true.1 h3
      have hye := Nat.eq_of_beq_eq_true hyb
      obtain ⟨y1, y2⟩ := y
      simp only at hye
      exact ih y1 (by rw [hye]; exact low_at hlow ho e he hb) y2 hy
theorem wpAny_of_allo {Q : Exit → Act → World → Prop} (hQ : ∀ a w, Kend a w → Q .normal a w) (hlow : lowOk ops = true) :
    ∀ (n : Nat) (U : List (Nat × Md)) (listed : Array Bool) (a : Act) (w : World), listed.size = ops.size → (∀ i, listed.getD i true = false ↔ ∃ m, (i, m) ∈ U) → (∀ y ∈ U, y.1 < ops.size) → allo P ops Kend n U a w → wpAny P .any ops Q n listed a w := by
  intro n
  induction n with
  | zero =>
    intro U listed a w _ hl _ h
    obtain ⟨rfl, h⟩ := h
    refine ⟨List.eq_nil_iff_forall_not_mem.2 fun i hi => ?_, hQ _ _ h⟩
    obtain ⟨m, hm⟩ := (hl i).1 (mem_ready.1 hi).1
    cases hm
  | succ n ih =>
    intro U listed a w hsz hl hU h
    obtain ⟨h1, h2⟩ := h
    have hrd : ∀ i, listed.getD i true = false → (∀ (o : Oper), ops[i]? = some o → ∀ e ∈ o.after, Region.binds .any e = true → listed.getD e.on false = true) → (∃ o, ops[i]? = some o) → rdyU ops U i = true := by
      rintro i _ hd ⟨o, ho⟩
      unfold rdyU
      rw [ho]
      simp only
      rw [Array.all_eq_true']
      intro e he
      cases hb : Region.binds .any e with
      | false => rfl
      | true =>
        rw [Bool.not_true, Bool.false_or, Bool.not_eq_true', List.any_eq_false]
        intro y hy hyb
        have hye := Nat.eq_of_beq_eq_true hyb
        have h3 := hd o ho e he hb
        have h4 := (hl y.1).2 ⟨y.2, hy⟩
        rw [hye] at h4
        rcases Nat.lt_or_ge e.on listed.size with q | q
        · simp only [Array.getD, q, dite_true] at h3 h4
          rw [h3] at h4; cases h4
        · simp [Array.getD, Nat.not_lt.2 q] at h3
    refine ⟨fun hr => ?_, fun i hi => ?_⟩
    · refine hQ _ _ (h1 (List.eq_nil_iff_forall_not_mem.2 fun x hx => ?_))
      obtain ⟨y, hy, hyr⟩ := rdy_ex hlow hU x.1 x.2 hx
      obtain ⟨o, ho, hd⟩ := rdy_some hyr
      have : y.1 ∈ Region.ready .any ops listed := mem_ready.2 ⟨(hl y.1).2 ⟨y.2, hy⟩, o, ho, fun e he hb => by
        have hne := hd e he hb
        have hlt : e.on < listed.size := by
          have := low_at hlow ho e he hb
          have := hU y hy
          omega
        have h5 : ¬ listed.getD e.on true = false := fun g => by
          obtain ⟨m, hm⟩ := (hl e.on).1 g
          exact hne _ hm rfl
        simp only [Array.getD, hlt, dite_true] at h5 ⊢
        simpa using h5⟩
      rw [hr] at this
      cases this
    · obtain ⟨hun, oi, hoi, hdeps⟩ := mem_ready.1 hi
      obtain ⟨m, hm⟩ := (hl i).1 hun
      have hr := hrd i hun (fun o ho => by rw [hoi] at ho; obtain rfl := Option.some.inj ho; exact hdeps) ⟨oi, hoi⟩
      obtain ⟨o, ho, hst⟩ := h2 (i, m) hm hr
      have hilt : i < listed.size := by rw [hsz]; exact hU _ hm
      refine wpOp_of_rstep ho (rstep_mono (fun a w hh => ?_) hst)
      refine ih (del U i) (listed.setIfInBounds i true) a w (by simpa using hsz) ?_ (fun y hy => hU y (mem_del.1 hy).1) hh
      intro j
      by_cases hji : j = i
      · subst hji
        constructor
        · intro hf; simp [Array.getD, hilt] at hf
        · rintro ⟨m', hm'⟩; exact absurd rfl (mem_del.1 hm').2
      · rw [getD_set_ne true (Ne.symm hji), hl j]
        constructor
        · rintro ⟨m', hm'⟩; exact ⟨m', mem_del.2 ⟨hm', hji⟩⟩
        · rintro ⟨m', hm'⟩; exact ⟨m', (mem_del.1 hm').1⟩
theorem rstep_ex {m : Md} {o : Oper} {a : Act} {w : World} {K : Act → World → Prop} (h : rstep P ops m o a w K) : ∃ a' w', K a' w' := by
  unfold rstep at h
  split at h
  · cases m with
    | pure => obtain ⟨v, _, h⟩ := h; exact ⟨_, _, h⟩
    | read => obtain ⟨v, _, h⟩ := h; exact ⟨_, _, h⟩
    | grow => obtain ⟨v, w', h⟩ := hup_some h; exact ⟨_, _, h.2⟩
    | free => obtain ⟨v, w', h⟩ := hup_some h; exact ⟨_, _, h⟩
  · exact ⟨_, _, h⟩
/-- y waits for i, by operations that are left. -/
inductive Bl (ops : Array Oper) (U : List (Nat × Md)) (i : Nat) : Nat → Prop
  | one {y : Nat} {o : Oper} {e : Edge} : ops[y]? = some o → e ∈ o.after → Region.binds .any e = true → e.on = i → Bl ops U i y
  | far {y : Nat} {o : Oper} {e : Edge} {z : Nat × Md} : ops[y]? = some o → e ∈ o.after → Region.binds .any e = true → e.on = z.1 → z ∈ U → Bl ops U i z.1 → Bl ops U i y
theorem Bl.rdy {i : Nat} {m : Md} {U : List (Nat × Md)} (hm : (i, m) ∈ U) {y : Nat} (h : Bl ops U i y) : rdyU ops U y ≠ true := by
  intro hr
  obtain ⟨o, ho, hd⟩ := rdy_some hr
  cases h with
  | one h1 h2 h3 h4 =>
    rw [ho] at h1
    obtain rfl := Option.some.inj h1
    exact hd _ h2 h3 _ hm h4.symm
  | far h1 h2 h3 h4 h5 _ =>
    rw [ho] at h1
    obtain rfl := Option.some.inj h1
    exact hd _ h2 h3 _ h5 h4.symm
theorem Bl.del {i : Nat} {m : Md} {U : List (Nat × Md)} (hm : (i, m) ∈ U) {x : Nat} (hx : rdyU ops U x = true) {y : Nat} (h : Bl ops U i y) : Bl ops (del U x) i y := by
  induction h with
  | one h1 h2 h3 h4 => exact .one h1 h2 h3 h4
  | far h1 h2 h3 h4 h5 h6 ih => exact .far h1 h2 h3 h4 (mem_del.2 ⟨h5, fun e => h6.rdy hm (by rw [e]; exact hx)⟩) ih
def blb (ops : Array Oper) (U : List (Nat × Md)) (i : Nat) : Nat → Nat → Bool
  | 0, _ => false
  | n + 1, y => match ops[y]? with
    | some o => o.after.any fun e => Region.binds .any e && (Nat.beq e.on i || ((U.any fun z => Nat.beq z.1 e.on) && blb ops U i n e.on))
    | none => false
theorem blb_sound {U : List (Nat × Md)} {i : Nat} : ∀ (n y : Nat), blb ops U i n y = true → Bl ops U i y := by
  intro n
  induction n with
  | zero => intro y h; cases h
  | succ n ih =>
    intro y h
    unfold blb at h
    cases ho : ops[y]? with
    | none => rw [ho] at h; cases h
    | some o =>
      rw [ho] at h
      simp only at h
      rw [Array.any_eq_true'] at h
      obtain ⟨e, he, hq⟩ := h
      rw [Bool.and_eq_true, Bool.or_eq_true, Bool.and_eq_true] at hq
      obtain ⟨hb, q | ⟨q, r⟩⟩ := hq
      · exact .one ho he hb (Nat.eq_of_beq_eq_true q)
      · obtain ⟨z, hz, hzb⟩ := List.any_eq_true.1 q
        have e2 := Nat.eq_of_beq_eq_true hzb
        exact .far ho he hb e2.symm hz (by rw [e2]; exact ih _ r)
/-- May (i, m) be taken first? -/
def zfront (ops : Array Oper) (x : Nat × Md) (U : List (Nat × Md)) : Bool :=
  rdyU ops U x.1 && (U.any fun y => Nat.beq y.1 x.1) && U.all fun y => (Nat.beq y.1 x.1 && decide (y.2 = x.2)) || (!Nat.beq y.1 x.1 && (blb ops U x.1 6 y.1 || swapOk ops x y))
theorem allo_front (hs : noSel ops) {i : Nat} {m : Md} {oi : Oper} (hi : ops[i]? = some oi) :
    ∀ (n : Nat) (U : List (Nat × Md)) (a : Act) (w : World), (i, m) ∈ U → rdyU ops U i = true → (∀ y ∈ U, y.1 = i → y.2 = m) →
      (∀ y ∈ U, y.1 ≠ i → Bl ops U i y.1 ∨ swapOk ops (i, m) y = true) →
      rstep P ops m oi a w (allo P ops Kend n (del U i)) → allo P ops Kend (n + 1) U a w := by
  intro n
  induction n with
  | zero =>
    intro U a w hm hr hu hsw h
    refine ⟨fun e => (by rw [e] at hm; cases hm), fun x hx hxr => ?_⟩
    by_cases hxi : x.1 = i
    · obtain ⟨x1, x2⟩ := x
      simp only at hxi
      subst hxi
      obtain rfl := hu _ hx rfl
      exact ⟨oi, hi, h⟩
    · exfalso
      obtain ⟨_, _, h3, _⟩ := rstep_ex h
      have := mem_del.2 ⟨hx, hxi⟩
      rw [h3] at this
      cases this
  | succ n ih =>
    intro U a w hm hr hu hsw h
    refine ⟨fun e => (by rw [e] at hm; cases hm), fun x hx hxr => ?_⟩
    by_cases hxi : x.1 = i
    · obtain ⟨x1, x2⟩ := x
      simp only at hxi
      subst hxi
      obtain rfl := hu _ hx rfl
      exact ⟨oi, hi, h⟩
    · obtain ⟨ox, hox, hxd⟩ := rdy_some hxr
      have hsx : swapOk ops (i, m) x = true := by
        rcases hsw x hx hxi with q | q
        · exact absurd hxr (q.rdy hm)
        · exact q
      refine ⟨ox, hox, ?_⟩
      have h1 : rstep P ops m oi a w (fun a w => rstep P ops x.2 ox a w (allo P ops Kend n (del (del U i) x.1))) := rstep_mono (fun a w g => by
        obtain ⟨o, ho, g⟩ := g.2 x (mem_del.2 ⟨hx, hxi⟩) (rdy_mono (fun y hy => (mem_del.1 hy).1) hxr)
        rw [hox] at ho
        obtain rfl := Option.some.inj ho
        exact g) h
      obtain ⟨x1, x2⟩ := x
      have h2 := rswap hi hox (fun cs b => hs i oi cs b hi) (fun cs b => hs x1 ox cs b hox) hsx h1
      refine rstep_mono (fun a w g => ?_) h2
      rw [del_comm] at g
      exact ih (del U x1) a w (mem_del.2 ⟨hm, Ne.symm hxi⟩) (rdy_mono (fun y hy => (mem_del.1 hy).1) hr) (fun y hy => hu y (mem_del.1 hy).1) (fun y hy hne => (hsw y (mem_del.1 hy).1 hne).imp (fun q => q.del hm hxr) id) g
end
/-- A region's walk, those of U not yet carried out. -/
structure Wz (P : Program) (ops : Array Oper) (Kend : Act → World → Prop) (n : Nat) (U : List (Nat × Md)) (N : Nat) (ρ : Nat → Value) (w : World) : Prop where
  out : noSel ops → allo P ops Kend n U (act N ρ) w
def zstep (P : Program) (ops : Array Oper) (Kend : Act → World → Prop) (n : Nat) (U' : List (Nat × Md)) (x : Nat × Md) (N : Nat) (ρ : Nat → Value) (w : World) : Prop :=
  noSel ops → ∃ o, ops[x.1]? = some o ∧ rstep P ops x.2 o (act N ρ) w (allo P ops Kend n U')
def zallOk (ops : Array Oper) (n : Nat) (U : List (Nat × Md)) : Bool :=
  Nat.beq ops.size n && decide (U.map (·.1) = List.range n) && lowOk ops && ops.all fun o => match o.op with | .select .. => false | _ => true
section
variable {P : Program} {N : Nat} {ρ : Nat → Value} {w0 w : World} {Q : Exit → Act → World → Prop} {ops : Array Oper} {H : List Blk} {Kend : Act → World → Prop} {i n : Nat} {o : Oper} {U U' : List (Nat × Md)}
theorem c_all {id : Nat} {l : List Oper} (n : Nat) (U : List (Nat × Md)) (hm : P.follows .mixedOrders = true) (hchk : zallOk l.toArray n U = true) (hS : St w0 w H)
    (h : ∀ w', St w0 w' H → Below w.heap.size w w' → Wz P l.toArray (Q .normal) n U N ρ w') : (Code.region id l.toArray true).wp P Q (act N ρ) w := by
  simp only [zallOk, Bool.and_eq_true, decide_eq_true_eq] at hchk
  obtain ⟨⟨⟨h1, h2⟩, h3⟩, h6⟩ := hchk
  have hsz := Nat.eq_of_beq_eq_true h1
  have hs : noSel l.toArray := by
    intro i o cs b hi hsel
    have := Array.all_eq_true'.1 h6 o (Array.mem_of_getElem? hi)
    rw [hsel] at this
    cases this
  have hbd : Below w.heap.size w { w with drawn := w.drawn + 1 } := (Below.refl _ w).drew
  have hUm : ∀ i, (∃ m, (i, m) ∈ U) ↔ i < n := by
    intro i
    rw [← List.mem_range, ← h2, List.mem_map]
    constructor
    · rintro ⟨m, hm⟩; exact ⟨_, hm, rfl⟩
    · rintro ⟨⟨a, m⟩, hm, rfl⟩; exact ⟨m, hm⟩
  refine wp_region_any hm ?_
  rw [hsz]
  refine wpAny_of_allo (fun _ _ h => h) h3 n U _ _ _ (by simp; simpa using hsz.symm) ?_ (fun y hy => by rw [hsz]; exact (hUm y.1).1 ⟨y.2, hy⟩) ((h _ (hS.grow hbd) hbd).out hs)
  intro i
  rw [hUm]
  constructor
  · intro hf
    rcases Nat.lt_or_ge i n with q | q
    · exact q
    · simp [Array.getD, Nat.not_lt.2 q] at hf
  · intro q
    simp [Array.getD, q]
theorem z_end (h : Kend (act N ρ) w) : Wz P ops Kend n [] N ρ w := ⟨fun _ => by
  cases n with
  | zero => exact ⟨rfl, h⟩
  | succ n => exact ⟨fun _ => h, fun x hx => by cases hx⟩⟩
theorem zfront_spec {x : Nat × Md} (h : zfront ops x U = true) : x ∈ U ∧ rdyU ops U x.1 = true ∧ (∀ y ∈ U, y.1 = x.1 → y.2 = x.2) ∧
    ∀ y ∈ U, y.1 ≠ x.1 → Bl ops U x.1 y.1 ∨ swapOk ops x y = true := by
  simp only [zfront, Bool.and_eq_true] at h
  obtain ⟨⟨h1, h2⟩, h3⟩ := h
  have hu : ∀ y ∈ U, y.1 = x.1 → y.2 = x.2 := fun y hy e => by
    have := List.all_eq_true.1 h3 y hy
    rw [e] at this
    simp at this
    exact this
  refine ⟨?_, h1, hu, fun y hy hne => ?_⟩
  · obtain ⟨y, hy, hb⟩ := List.any_eq_true.1 h2
    have e := Nat.eq_of_beq_eq_true hb
    have e2 := hu y hy e
    obtain ⟨y1, y2⟩ := y
    obtain ⟨x1, x2⟩ := x
    simp only at e e2
    rw [← e, ← e2]; exact hy
  · have := List.all_eq_true.1 h3 y hy
    have hb : Nat.beq y.1 x.1 = false := by
      cases hb : Nat.beq y.1 x.1 with
      | false => rfl
      | true => exact absurd (Nat.eq_of_beq_eq_true hb) hne
    rw [hb, Bool.false_and, Bool.false_or, Bool.not_false, Bool.true_and, Bool.or_eq_true] at this
    rcases this with q | q
    · exact .inl (blb_sound _ _ q)
    · exact .inr q
theorem z_pure {d : Option Tmp} {p : Op} {ty : TypeId} {pos : String} {aft : Array Edge} {g : Option (Nat × Bool)} (hf : zfront ops (i, .pure) U = true) (hd : del U i = U') (ho : ops[i]? = some ⟨d, p, ty, pos, aft, g⟩) (hg : gd ops N ρ g = true)
    (h : Pure1 P N ρ ⟨d, p, ty, pos, aft, g⟩ fun v => Wz P ops Kend n U' N (updo ρ d v) w) : Wz P ops Kend (n + 1) U N ρ w := by
  subst hd
  obtain ⟨f1, f2, f3, f4⟩ := zfront_spec hf
  refine ⟨fun hs => allo_front hs ho n U _ _ f1 f2 f3 f4 ?_⟩
  rw [rstep_pure (gd_wanted ops N ρ ⟨d, p, ty, pos, aft, g⟩ hg), act_eval]
  obtain ⟨v, h1, h2⟩ := h
  exact ⟨v, h1, by rw [act_put]; exact h2.out hs⟩
theorem z_read {d : Option Tmp} {p : Op} {ty : TypeId} {pos : String} {aft : Array Edge} {g : Option (Nat × Bool)} (hf : zfront ops (i, .read) U = true) (hd : del U i = U') (ho : ops[i]? = some ⟨d, p, ty, pos, aft, g⟩) (hg : gd ops N ρ g = true)
    (h : Read1 P N ρ w ⟨d, p, ty, pos, aft, g⟩ fun v => Wz P ops Kend n U' N (updo ρ d v) w) : Wz P ops Kend (n + 1) U N ρ w := by
  subst hd
  obtain ⟨f1, f2, f3, f4⟩ := zfront_spec hf
  refine ⟨fun hs => allo_front hs ho n U _ _ f1 f2 f3 f4 ?_⟩
  rw [rstep_read (gd_wanted ops N ρ ⟨d, p, ty, pos, aft, g⟩ hg), act_eval]
  obtain ⟨v, h1, h2⟩ := h
  exact ⟨v, h1, by rw [act_put]; exact h2.out hs⟩
theorem z_grow {d : Option Tmp} {p : Op} {ty : TypeId} {pos : String} {aft : Array Edge} {g : Option (Nat × Bool)} (ho : ops[i]? = some ⟨d, p, ty, pos, aft, g⟩) (hg : gd ops N ρ g = true)
    (h : Hup1 P N ρ w ⟨d, p, ty, pos, aft, g⟩ fun v w' => Below w.heap.size w w' ∧ Wz P ops Kend n U' N (updo ρ d v) w') : zstep P ops Kend n U' (i, .grow) N ρ w := fun hs => by
  refine ⟨_, ho, ?_⟩
  rw [rstep_grow (gd_wanted ops N ρ ⟨d, p, ty, pos, aft, g⟩ hg), act_eval]
  simp only [act_put]
  exact hup_mono (fun v w h => ⟨h.1, h.2.out hs⟩) h.out
theorem z_free {d : Option Tmp} {p : Op} {ty : TypeId} {pos : String} {aft : Array Edge} {g : Option (Nat × Bool)} (ho : ops[i]? = some ⟨d, p, ty, pos, aft, g⟩) (hg : gd ops N ρ g = true)
    (h : Hup1 P N ρ w ⟨d, p, ty, pos, aft, g⟩ fun v w' => Wz P ops Kend n U' N (updo ρ d v) w') : zstep P ops Kend n U' (i, .free) N ρ w := fun hs => by
  refine ⟨_, ho, ?_⟩
  rw [rstep_free (gd_wanted ops N ρ ⟨d, p, ty, pos, aft, g⟩ hg), act_eval]
  simp only [act_put]
  exact hup_mono (fun v w h => Wz.out h hs) h.out
theorem z_one {x : Nat × Md} (hR : (U.filter fun y => rdyU ops U y.1) = [x]) (hd : del U x.1 = U') (h : zstep P ops Kend n U' x N ρ w) : Wz P ops Kend (n + 1) U N ρ w := by
  subst hd
  refine ⟨fun hs => ⟨fun e => (by rw [e] at hR; cases hR), fun y hy hr => ?_⟩⟩
  have : y ∈ [x] := by rw [← hR]; exact List.mem_filter.2 ⟨hy, hr⟩
  obtain rfl := List.mem_singleton.1 this
  exact h hs
theorem z_two {x y : Nat × Md} {U'' : List (Nat × Md)} (hR : (U.filter fun y => rdyU ops U y.1) = [x, y]) (hd : del U x.1 = U') (hd' : del U y.1 = U'') (h : zstep P ops Kend n U' x N ρ w) (h' : zstep P ops Kend n U'' y N ρ w) : Wz P ops Kend (n + 1) U N ρ w := by
  subst hd hd'
  refine ⟨fun hs => ⟨fun e => (by rw [e] at hR; cases hR), fun z hz hr => ?_⟩⟩
  have : z ∈ [x, y] := by rw [← hR]; exact List.mem_filter.2 ⟨hz, hr⟩
  rcases List.mem_cons.1 this with rfl | this
  · exact h hs
  · obtain rfl := List.mem_singleton.1 this
    exact h' hs
end
end Go.Sx
namespace Go.Proofs.YtblfipdfklpmmaaDoor
open Go Go.RowKit Go.Sx
theorem hup_read {P : Program} {N : Nat} {ρ : Nat → Value} {w : World} {o : Oper} {K : Value → World → Prop} (h : Read1 P N ρ w o fun v => Below w.heap.size w w ∧ K v w) : Hup1 P N ρ w o fun v w' => Below w.heap.size w w' ∧ K v w' := by
  obtain ⟨v, hr, hk⟩ := h
  exact hup_of_run (hr w (Below.refl _ _)) hk
theorem augRow {A : List (List RR)} {B : List RR} {i : Nat} : RM [tab A.length (qM (RM A) i) ++ [B.getD i zRR]] 0 = fun j => if j < A.length then RM A i j else if j = A.length then VX B i else 0 := by
  funext j
  have htl := tab_len A.length (qM (RM A) i)
  show toQ ((tab A.length (qM (RM A) i) ++ [B.getD i zRR]).getD j zRR) = _
  by_cases h : j < A.length
  · rw [if_pos h, List.getD_eq_getElem?_getD, List.getElem?_append_left (by omega), ← List.getD_eq_getElem?_getD, tab_get _ _ h]
    exact toQ_ofQ _
  · rw [if_neg h, List.getD_eq_getElem?_getD, List.getElem?_append_right (by omega), htl]
    by_cases h2 : j = A.length
    · rw [if_pos h2, h2, Nat.sub_self]; rfl
    · rw [if_neg h2, List.getElem?_eq_none (by simp; omega)]
      exact toQ_zRR
theorem AUG_row (A : List (List RR)) (B : List RR) (i : Nat) : AUG A B i = RM [tab A.length (qM (RM A) i) ++ [B.getD i zRR]] 0 := augRow.symm
theorem AUG_L {A : List (List RR)} {B : List RR} {K i : Nat} (hB : RBM K A) (hBB : RB K B) (hi : i < A.length) (hiB : i < B.length) (hev : (A.getD i []).length = A.length) : ∀ j, j < A.length + 1 → L (AUG A B i j) ≤ K := by
  intro j hj
  unfold AUG
  by_cases h : j < A.length
  · rw [if_pos h]; exact RM_L hB hi (by omega)
  · rw [if_neg h, if_pos (by omega)]
    exact Nat.le_trans (L_toQ _) (hBB _ (getD_mem B i zRR hiB))
def SS (S : Nat) : Nat → Nat
  | 0 => S
  | k + 1 => 2 * SS S k + 1
theorem SS_le (S : Nat) : ∀ k, SS S k + 1 = 2 ^ k * (S + 1)
  | 0 => by show S + 1 = _; rw [Nat.pow_zero, Nat.one_mul]
  | k + 1 => by
    have ih := SS_le S k
    show 2 * SS S k + 1 + 1 = _
    rw [Nat.pow_succ, Nat.mul_comm (2 ^ k) 2, Nat.mul_assoc, ← ih]; omega
theorem SS_16 {S k : Nat} (hk : k ≤ 16) : SS S k + 1 ≤ 65536 * (S + 1) := by
  rw [SS_le]
  exact Nat.mul_le_mul_right _ (Nat.le_trans (Nat.pow_le_pow_right (by decide) hk) (by decide))
theorem repMst {n m k : Nat} {B : Mx} {f : MZ} (h : RepZ n m B k fun i j => zv (f i j)) (hk : (rdc n B k).P.length = k) (hkm : k < m) (i : Nat) (hi : i < n) : (f i k).mag ≠ 0 ↔ (rdc n B k).M i k ≠ 0 := by
  have e := rep_zero h hk hi hkm
  exact not_congr (zv_ne.symm.trans e)
theorem zv_step (g : MZ) (k : Nat) (last : ZZ) (i j : Nat) : zv (zStep g k last i j) = stepZ (fun i j => zv (g i j)) k (zv last) i j := by
  unfold zStep stepZ zNew
  by_cases h : i = k
  · rw [if_pos h, if_pos h]
  · rw [if_neg h, if_neg h]
    by_cases h2 : j = k
    · rw [if_pos h2, if_pos h2]; rfl
    · rw [if_neg h2, if_neg h2, zv_over, zv_minus, zv_times, zv_times]
def swpG (f : MZ) (k p : Nat) : MZ := fun i j => if i = p then f k j else if i = k then f p j else f i j
theorem zv_swp (f : MZ) (k p : Nat) : (fun i j => zv (swpG f k p i j)) = swpZ (fun i j => zv (f i j)) k p := by
  funext i j
  unfold swpG swpZ
  by_cases h : i = p
  · rw [if_pos h]
    by_cases h2 : i = k
    · rw [if_pos h2, ← h2, h]
    · rw [if_neg h2, if_pos h]
  · rw [if_neg h]
    by_cases h2 : i = k
    · rw [if_pos h2, if_pos h2]
    · rw [if_neg h2, if_neg h2, if_neg h]
theorem swpG_size {f : MZ} {n m S k p : Nat} (hk : k < n) (hp : p < n) (h : ∀ i, i < n → ∀ j, j < m → zSz (f i j) ≤ S) : ∀ i, i < n → ∀ j, j < m → zSz (swpG f k p i j) ≤ S := by
  intro i hi j hj
  unfold swpG
  split
  · exact h k hk j hj
  · split
    · exact h p hp j hj
    · exact h i hi j hj
def oF (g : Nat → Rat) (i a : Nat) : Rat := if a < i then g a else 0
theorem oF_set (g : Nat → Rat) (n i : Nat) : (tab n fun a => ofQ (oF g i a)).set i (ofQ (g i)) = tab n fun a => ofQ (oF g (i + 1) a) := by
  rw [tabQ_set]
  refine tab_congr fun a _ => ?_
  unfold oF
  by_cases h : a = i
  · rw [if_pos h, if_pos (by omega), h]
  · rw [if_neg h]
    by_cases h2 : a < i
    · rw [if_pos h2, if_pos (by omega)]
    · rw [if_neg h2, if_neg (by omega)]
theorem oF_zero (g : Nat → Rat) (n : Nat) : List.replicate n zRR = tab n fun a => ofQ (oF g 0 a) := by
  rw [tab_rep]
  refine tab_congr fun a _ => ?_
  unfold oF
  rw [if_neg (Nat.not_lt_zero _), ofQ_zero]; rfl
theorem perm_in {α : Type} (z a b : α) (L D : List α) : (z :: a :: b :: (L ++ D)).Perm (a :: b :: (L ++ [z] ++ D)) := by
  have h1 : (z :: a :: b :: (L ++ D)).Perm (a :: b :: z :: (L ++ D)) := (List.Perm.swap a z _).trans (List.Perm.cons _ (List.Perm.swap b z _))
  refine h1.trans (List.Perm.cons _ (List.Perm.cons _ ?_))
  rw [List.append_assoc]
  exact List.perm_middle.symm
theorem perm_out {α : Type} (z a b : α) (L D : List α) : (a :: b :: (L ++ z :: D)).Perm (a :: b :: (L ++ D) ++ [z]) := by
  refine List.Perm.cons _ (List.Perm.cons _ ?_)
  exact List.perm_middle.trans (List.perm_append_singleton _ _).symm
theorem MatG_gl {R : List (Rw RR)} {n m : Nat} {f : Nat → Nat → RR} (hR : MatG R n m f) (hF : RwFull R) {i : Nat} (hi : i < n) (t : TypeId) : Gl encR t 3 (R.getD i zRw).v (tab m (f i)) [(R.getD i zRw).blk encR t] := by
  have hl : i < R.length := by rw [hR.len]; exact hi
  have hf := hF _ (getD_mem R i zRw hl)
  obtain ⟨hc1, hc2⟩ := hR.cap i hi
  have hr := hR.row i hi
  have htl := tab_len m (f i)
  refine ⟨flat_len encR_len _, .inr ⟨(R.getD i zRw).b, (R.getD i zRw).cap, (R.getD i zRw).sp, ?_, ?_, ?_, ?_, ?_⟩⟩
  · rw [hR.v hi, htl]
  · rw [← hr]; rfl
  · rw [htl]; exact hc1
  · unfold Go.maxLen; omega
  · rw [← hr]; exact hf
set_option maxHeartbeats 8000000 in
theorem lSolve_ok (v vb_ : Value) (A : List (List RR)) (vs : List Value) (B : List RR) (K : Nat) (w : World) (hA : Mts encR 3 w v A vs) (hBv : Sl encR 3 w vb_ B) (hB : RBM K A) (hBB : RB K B) (hK : 200000000 * K + 300000000 ≤ MX) :
    Ret Tryd.prog 19 #[v, vb_] w fun r w' => (∃ v', r = .tuple #[v', .int .i64 (slE A B)] ∧ Sl encR 3 w' v' (slL A B)) ∧ Below w.heap.size w w' := by
  have hM : MX = 1099511627776 := rfl
  have hno : slE A B ≠ 0 → slL A B = [] := fun h => if_neg h
  have hS := St.init w
  have hlen := hA.len
  have hmx := hBv.maxLen
  refine enter Tryd.func19 rfl Tryd.ntmps19 rfl ?_
  repeat (with_reducible first | refine c_seq ?_ | refine c_block ?_ | refine c_skip ?_ | refine x_then ?_ | refine x_block ?_)
  refine c_reg ?_
  refine l_pure rfl (s_asg  rfl ?_)
  refine l_pure rfl (s_asg  rfl ?_)
  refine l_nil ?_
  repeat (with_reducible first | refine c_seq ?_ | refine c_block ?_ | refine c_skip ?_ | refine x_then ?_ | refine x_block ?_)
  refine c_reg ?_
  refine l_pure rfl (s_move  rfl ?_)
  refine l_heavy rfl (s_call Tryd.call34 rfl (lsquare_ok v A vs _ (hA.below hS.below)) ?_)
  rintro _ wc1 ⟨rfl, hBc1⟩
  replace hS := hS.grow hBc1
  refine l_pure rfl (s_asg  rfl ?_)
  refine l_nil ?_
  repeat (with_reducible first | refine c_seq ?_ | refine c_block ?_ | refine c_skip ?_ | refine x_then ?_ | refine x_block ?_)
  refine c_reg ?_
  refine l_pure rfl (s_move  rfl ?_)
  refine l_pure rfl (s_neq  rfl rfl ?_)
  refine l_nil ?_
  repeat (with_reducible first | refine c_seq ?_ | refine c_block ?_ | refine c_skip ?_ | refine x_then ?_ | refine x_block ?_)
  by_cases he : sqE A ≠ 0
  · have e1 : slE A B = sqE A := if_pos he
    refine c_yes rfl (decide_eq_true (by omega)) ?_
    repeat (with_reducible first | refine c_seq ?_ | refine c_block ?_ | refine c_skip ?_ | refine x_then ?_ | refine x_block ?_)
    refine c_reg ?_
    refine l_pure rfl (s_move  rfl ?_)
    refine l_pure rfl (s_asg  rfl ?_)
    refine l_pure rfl (s_asg  rfl ?_)
    refine l_nil ?_
    repeat (with_reducible first | refine c_seq ?_ | refine c_block ?_ | refine c_skip ?_ | refine x_then ?_ | refine x_block ?_)
    refine c_ret ?_
    repeat (with_reducible first | refine x_then_ret ?_ | refine x_block_ret ?_)
    refine r_two rfl rfl rfl ?_
    refine ⟨⟨_, by rw [e1]; rfl, ?_⟩, hS.below⟩
    rw [hno (by rw [e1]; exact he)]; exact Sl.nil _ _ _
  replace he := Decidable.not_not.1 he
  obtain ⟨hs0, hsq⟩ := sqE_zero he
  obtain ⟨h1, h2, h3, h4, h5⟩ := shpE_zero hs0
  refine c_no rfl (decide_eq_false (by omega)) ?_
  repeat (with_reducible first | refine c_seq ?_ | refine c_block ?_ | refine c_skip ?_ | refine x_then ?_ | refine x_block ?_)
  refine c_reg ?_
  refine l_pure rfl (s_move  rfl ?_)
  refine l_pure rfl (s_lenr  rfl (hA.sl.below hS.below) ⟨_, Tryd.underlying24⟩ ?_)
  refine l_pure rfl (s_asg  rfl ?_)
  refine l_nil ?_
  repeat (with_reducible first | refine c_seq ?_ | refine c_block ?_ | refine c_skip ?_ | refine x_then ?_ | refine x_block ?_)
  refine c_reg ?_
  refine l_pure rfl (s_move  rfl ?_)
  refine l_pure rfl (s_lenr  rfl (hBv.below hS.below) ⟨_, Tryd.underlying30⟩ ?_)
  refine l_pure rfl (s_move  rfl ?_)
  refine l_pure rfl (s_neq  rfl rfl ?_)
  refine l_nil ?_
  repeat (with_reducible first | refine c_seq ?_ | refine c_block ?_ | refine c_skip ?_ | refine x_then ?_ | refine x_block ?_)
  by_cases hx : B.length ≠ A.length
  · have e1 : slE A B = 4 := by unfold slE; rw [if_neg (by omega), if_pos hx]
    refine c_yes rfl (decide_eq_true (by omega)) ?_
    repeat (with_reducible first | refine c_seq ?_ | refine c_block ?_ | refine c_skip ?_ | refine x_then ?_ | refine x_block ?_)
    refine c_reg ?_
    refine l_pure rfl (s_asg  rfl ?_)
    refine l_pure rfl (s_asg  rfl ?_)
    refine l_nil ?_
    repeat (with_reducible first | refine c_seq ?_ | refine c_block ?_ | refine c_skip ?_ | refine x_then ?_ | refine x_block ?_)
    refine c_ret ?_
    repeat (with_reducible first | refine x_then_ret ?_ | refine x_block_ret ?_)
    refine r_two rfl rfl rfl ?_
    refine ⟨⟨_, by rw [e1]; rfl, ?_⟩, hS.below⟩
    rw [hno (by rw [e1]; decide)]; exact Sl.nil _ _ _
  replace hx := Decidable.not_not.1 hx
  refine c_no rfl (decide_eq_false (by omega)) ?_
  repeat (with_reducible first | refine c_seq ?_ | refine c_block ?_ | refine c_skip ?_ | refine x_then ?_ | refine x_block ?_)
  rw [hlen]
  have e1 : slE A B = if (slD A B).P.length = A.length then 0 else 5 := by unfold slE; rw [if_neg (by omega), if_neg (by omega)]
  obtain ⟨n, hn⟩ : ∃ n, n = A.length := ⟨_, rfl⟩
  rw [← hn] at h1 h2 h5 hx e1 hsq ⊢
  rw [← hsq] at h5
  have hAL : ∀ i, i < n → ∀ j, j < n + 1 → L (AUG A B i j) ≤ K := fun i hi => by
    rw [hn]; exact AUG_L hB hBB (by omega) (by omega) (by rw [h5 i hi, hn])
  have haug : ∀ i, AUG A B i = RM [tab n (qM (RM A) i) ++ [B.getD i zRR]] 0 := fun i => by rw [hn]; exact AUG_row A B i
  have hout : ∀ i j, n + 1 ≤ j → AUG A B i j = 0 := by rw [hn]; exact AUG_out A B
  have hslD : slD A B = rdc n (AUG A B) n := by rw [hn]; rfl
  have hslL : slE A B = 0 → slL A B = tab n fun i => ofQ ((rdc n (AUG A B) n).M i n) := fun h => by rw [hn]; exact if_pos h
  rw [hslD] at e1
  obtain ⟨q, hq⟩ : ∃ q, q = AUG A B := ⟨_, rfl⟩
  rw [← hq] at hAL haug hout e1 hslL
  repeat (with_reducible first | refine c_seq ?_ | refine c_block ?_ | refine c_skip ?_ | refine x_then ?_ | refine x_block ?_)
  refine c_reg ?_
  refine l_pure rfl (s_move  rfl ?_)
  refine l_heavy rfl (s_make (n := n)  rfl rfl si_62 (by omega) (by omega) (by omega) (by omega) hS ?_)
  intro bw wz2 hS hBz2
  refine l_pure rfl (s_asg  rfl ?_)
  refine l_nil ?_
  repeat (with_reducible first | refine c_seq ?_ | refine c_block ?_ | refine c_skip ?_ | refine x_then ?_ | refine x_block ?_)
  replace hS : St w _ [(bw, 63, rep n [nilS])] := hS
  rw [rep_nil] at hS
  repeat (with_reducible first | refine c_seq ?_ | refine c_block ?_ | refine c_skip ?_ | refine x_then ?_ | refine x_block ?_)
  refine c_forget (fun ρ' => ρ' 0 = v ∧ ρ' 1 = vb_ ∧ ρ' 7 = .int .i64 n ∧ ρ' 8 = .slice (some ⟨bw, 0, none⟩) n n ∧ True) ⟨rfl, rfl, rfl, rfl, trivial⟩ ?_
  rintro ρk3 ⟨hk3_0, hk3_1, hk3_7, hk3_8, -⟩
  repeat (with_reducible first | refine c_seq ?_ | refine c_block ?_ | refine c_skip ?_ | refine x_then ?_ | refine x_block ?_)
  refine c_reg ?_
  refine l_pure rfl (s_move  hk3_0 ?_)
  refine l_heavy rfl (s_call Tryd.call30 rfl (lclean_ok v A vs n K _ (hA.below hS.below) (by omega) (by omega) h1 (by omega) (by rw [← hn]; exact h5) hB (by omega)) ?_)
  rintro r w2 ⟨⟨bc, RC, rfl, hRC, hFC, hS2⟩, hB2⟩
  rw [← hn] at hRC ⊢
  replace hS := hS.join hS2
  clear hS2
  rw [mB_app] at hS
  refine l_pure rfl (s_leno  rfl ⟨_, Tryd.underlying24⟩ ?_)
  refine l_pure rfl (s_move  rfl ?_)
  refine l_nil ?_
  repeat (with_reducible first | refine c_seq ?_ | refine c_skip ?_ | refine x_then ?_ | refine x_block ?_)
  replace hS : St w _ ((bc, 30, RC.map Rw.v) :: (bw, 63, ([] : List (Rw ZZ)).map Rw.v ++ List.replicate (n - 0) nilS) :: (([] : List (Rw ZZ)).map (Rw.blk encZ 68) ++ (RC.drop 0).map (Rw.blk encR 27))) := hS.perm (List.Perm.cons _ (List.perm_append_singleton _ _))
  refine c_cut1 (fun ρ w' => ρ 7 = .int .i64 n ∧ ρ 8 = .slice (some ⟨bw, 0, none⟩) n n ∧ ∃ RW, MatG RW n (n + 1) (BmZ q (n + 1)) ∧ St w w' (mB encZ 68 63 bw RW [])) ?_ ?_
  · repeat (with_reducible first | refine c_seq ?_ | refine c_block ?_ | refine c_skip ?_ | refine x_then ?_ | refine x_block ?_)
    refine c_loop (σ := Nat) (fun i ρ w' => i ≤ n ∧ ρ 1 = vb_ ∧ ρ 7 = .int .i64 n ∧ ρ 8 = .slice (some ⟨bw, 0, none⟩) n n ∧ ρ 31 = .slice (some ⟨bc, 0, none⟩) n n ∧ ρ 32 = .int .i64 n ∧ ρ 33 = .int .i64 i ∧
      ∃ RW, MatG RW i (n + 1) (BmZ q (n + 1)) ∧ St w w' ((bc, 30, RC.map Rw.v) :: (bw, 63, RW.map Rw.v ++ List.replicate (n - i) nilS) :: (RW.map (Rw.blk encZ 68) ++ (RC.drop i).map (Rw.blk encR 27)))) (fun i => n - i) 0
      ⟨Nat.zero_le _, by assumption, by assumption, by assumption, rfl, rfl, rfl, [], ⟨rfl, fun i hi => absurd hi (Nat.not_lt_zero _), fun i hi => absurd hi (Nat.not_lt_zero _)⟩, hS⟩ ?_
    clear hS
    rintro i ρ w3 ⟨hi, h1', h7, h8, h31, h32, h33, RW, hRW, hS⟩
    repeat (with_reducible first | refine c_seq ?_ | refine c_block ?_ | refine c_skip ?_ | refine x_then ?_ | refine x_block ?_)
    refine c_reg ?_
    refine l_pure rfl (s_lss  h33 h32 ?_)
    refine l_nil ?_
    repeat (with_reducible first | refine c_seq ?_ | refine c_block ?_ | refine c_skip ?_ | refine x_then ?_ | refine x_block ?_)
    by_cases hlt : i < n
    · refine c_yes rfl (decide_eq_true (by omega)) ?_
      repeat (with_reducible first | refine c_seq ?_ | refine c_block ?_ | refine c_skip ?_ | refine x_then ?_ | refine x_block ?_)
      have hlc : i < RC.length := by rw [hRC.len]; exact hlt
      obtain ⟨d, hd⟩ : ∃ d, n - i = d + 1 := ⟨n - i - 1, by omega⟩
      have hdrop : RC.drop i = RC.getD i zRw :: RC.drop (i + 1) := by rw [getD_ge RC zRw hlc]; exact List.drop_eq_getElem_cons hlc
      have hG := MatG_gl hRC hFC hlt 27
      have htl := tab_len n (qM (RM A) i)
      have hLb := hBB _ (getD_mem B i zRR (by omega))
      rw [hdrop, List.map_cons, hd, List.replicate_succ] at hS
      replace hS := hS.perm (perm_out _ _ _ _ _)
      repeat (with_reducible first | refine c_seq ?_ | refine c_block ?_ | refine c_skip ?_ | refine x_then ?_ | refine x_block ?_)
      refine c_reg ?_
      refine l_pure rfl (s_move  h33 ?_)
      refine l_pure rfl (s_ixo (i := i)  h31 h33 (by omega) (by first | omega | (simp; done) | (simp; omega)) si_24 ?_)
      refine l_read rfl (s_ldc (k := 0)  rfl vi_30 hS rfl (by rw [Nat.zero_add, Nat.mul_one]; exact mB_row hlc) ?_)
      refine l_pure rfl (s_asg  rfl ?_)
      refine l_pure rfl (s_asg  rfl ?_)
      refine l_nil ?_
      repeat (with_reducible first | refine c_seq ?_ | refine c_block ?_ | refine c_skip ?_ | refine x_then ?_ | refine x_block ?_)
      refine c_reg ?_
      refine l_pure rfl (s_move  h8 ?_)
      refine l_pure rfl (s_move  rfl ?_)
      refine l_pure rfl (s_move  rfl ?_)
      refine l_pure rfl (s_move  h1' ?_)
      refine l_pure rfl (s_move  rfl ?_)
      refine l_pure rfl (s_ixr (i := i)  rfl rfl (hBv.below hS.below) (by omega) (by first | omega | (simp; done) | (simp; omega)) si_30 ?_)
      refine l_read rfl (s_lde (i := i) zRR  rfl vi_27 (hBv.below hS.below) (by first | omega | (simp; done) | (simp; omega)) rfl rfl (.inl rfl) ?_)
      refine l_heavy rfl (s_bsl (vs := [aggR (B.getD i zRR)])  rfl si_30 rfl (by decide) (by decide) (by decide) (by simp [Value.cells, aggR]) rfl hS ?_)
      intro b45 wz4 hS hBz4
      refine l_heavy rfl (s_appl [B.getD i zRR]  rfl rfl si_30 (by decide) hG hS rfl rfl encR_len (encR_one [B.getD i zRR]) (by first | omega | (simp only [List.length_cons, List.length_nil]; omega)) (by first | omega | (simp only [List.length_cons, List.length_nil]; omega)) ?_)
      intro va5 La5 wa5 hG hS hga5
      obtain ⟨aq, cq, rfl⟩ := hG.len
      refine l_heavy rfl (s_bsl (vs := [.slice aq (tab n (qM (RM A) i) ++ [B.getD i zRR]).length cq])  rfl si_24 rfl (by decide) (by decide) (by decide) (by simp [Value.cells]) rfl hS ?_)
      intro b47 wz6 hS hBz6
      have hX := hS.drop ((List.sublist_append_left ((bc, 30, RC.map Rw.v) :: (bw, 63, RW.map Rw.v ++ nilS :: List.replicate d nilS) :: (RW.map (Rw.blk encZ 68) ++ (RC.drop (i + 1)).map (Rw.blk encR 27))) _).trans (List.sublist_cons_self _ _))
      have hsl1 := hS.sle (k := 0) (enc := enV) (L := [.slice aq (tab n (qM (RM A) i) ++ [B.getD i zRR]).length cq]) (n := 1) (cap := 1) rfl (fun _ => rfl) (Nat.le_refl _) (Nat.le_refl _) (by omega)
      have hslr := hG.sl (H := (b47, 30, [Value.slice aq (tab n (qM (RM A) i) ++ [B.getD i zRR]).length cq]) :: (bc, 30, RC.map Rw.v) :: (bw, 63, RW.map Rw.v ++ nilS :: List.replicate d nilS) :: (RW.map (Rw.blk encZ 68) ++ (RC.drop (i + 1)).map (Rw.blk encR 27))) hS encR_len
      have hx1 : (tab n (qM (RM A) i) ++ [B.getD i zRR]).length = n + 1 := by rw [List.length_append, htl]; rfl
      have hmts : Mts encR 3 _ (.slice (some ⟨b47, 0, none⟩) 1 1) [tab n (qM (RM A) i) ++ [B.getD i zRR]] [.slice aq (tab n (qM (RM A) i) ++ [B.getD i zRR]).length cq] := ⟨rfl, hsl1, fun a ha => by
        obtain rfl : a = 0 := Nat.lt_one_iff.1 ha
        exact hslr⟩
      have hBM : RBM K [tab n (qM (RM A) i) ++ [B.getD i zRR]] := fun a ha r hr => by
        rw [List.mem_singleton.1 ha] at hr
        rcases List.mem_append.1 hr with g | g
        · obtain ⟨j, hj, rfl⟩ := tab_mem g
          rw [Lr_ofQ]
          exact RM_L hB (by omega) (by rw [h5 i hlt]; exact hj)
        · rw [List.mem_singleton.1 g]; exact hLb
      refine l_heavy rfl (s_call Tryd.call30 rfl (lclean_ok _ [tab n (qM (RM A) i) ++ [B.getD i zRR]] _ (n + 1) K _ hmts (Nat.le_refl _) (Nat.le_of_ble_eq_true rfl) (by omega) (by omega) (fun a ha => by obtain rfl : a = 0 := Nat.lt_one_iff.1 ha; exact hx1) hBM (by omega)) ?_)
      rintro r w4 ⟨⟨b1, R1, rfl, hR1, -, hT⟩, hB4⟩
      replace hX := hX.grow hB4
      have hl1 : 0 < R1.length := by rw [hR1.len]; exact Nat.one_pos
      have hrow1 := hR1.sl hT encR_len (i := 0) Nat.one_pos
      rw [show qM (RM [tab n (qM (RM A) i) ++ [B.getD i zRR]]) 0 = fun j => ofQ (q i j) by rw [haug i]] at hrow1
      refine l_pure rfl (s_ixo (i := 0)  rfl rfl (by omega) (by first | omega | (simp; done) | (simp; omega)) si_24 ?_)
      refine l_read rfl (s_mrowP []  rfl vi_30 hT (by omega) hl1 ?_)
      refine l_heavy rfl (s_call Tryd.call37 rfl (lintegers_ok _ (q i) (n + 1) K _ hrow1 (by omega) (hAL i hlt) (by omega)) ?_)
      rintro r w5 ⟨⟨bz, rfl, hZ⟩, -⟩
      have hlenR : (RW.map Rw.v).length = i := by rw [List.length_map, hRW.len]
      have hfit : i < (RW.map Rw.v ++ nilS :: List.replicate d nilS).length := by rw [List.length_append, hlenR, List.length_cons]; omega
      clear hS
      have hS := hX.join hZ
      clear hX hZ
      refine l_pure rfl (s_ixo (i := i)  rfl rfl (by omega) (by first | omega | (simp; done) | (simp; omega)) si_62 ?_)
      refine l_heavy rfl (s_stc (k := 2)  rfl rfl vi_63 hS rfl (by rw [Nat.zero_add, Nat.mul_one]; exact hfit) rfl ?_)
      intro wz7 hS
      refine l_nil ?_
      repeat (with_reducible first | refine c_seq ?_ | refine c_block ?_ | refine c_skip ?_ | refine x_then ?_ | refine x_block ?_)
      replace hS : St w _ ((bz, 68, (tab (n + 1) (itZ (q i) (n + 1))).flatMap encZ) :: (bc, 30, RC.map Rw.v) :: (bw, 63, (RW.map Rw.v ++ nilS :: List.replicate d nilS).set (0 + i * 1) (.slice (some ⟨bz, 0, none⟩) (n + 1) (n + 1))) :: (RW.map (Rw.blk encZ 68) ++ (RC.drop (i + 1)).map (Rw.blk encR 27))) := hS
      rw [Nat.zero_add, Nat.mul_one, mid_set _ _ _ _ hlenR] at hS
      replace hS := hS.perm (perm_in _ _ _ _ _)
      obtain ⟨nr, hnr⟩ : ∃ nr : Rw ZZ, nr = ⟨bz, n + 1, tab (n + 1) (itZ (q i) (n + 1)), []⟩ := ⟨_, rfl⟩
      have hnX : nr.X = tab (n + 1) (BmZ q (n + 1) i) := by rw [hnr]; rfl
      have hnc : nr.cap = n + 1 := by rw [hnr]
      have hvz : nr.v = .slice (some ⟨bz, 0, none⟩) (n + 1) (n + 1) := by
        rw [hnr]
        show Value.slice _ (tab (n + 1) (itZ (q i) (n + 1))).length _ = _
        rw [tab_len]
      have hbz : nr.blk encZ 68 = (bz, 68, (tab (n + 1) (itZ (q i) (n + 1))).flatMap encZ) := by
        rw [hnr]
        show (bz, 68, (tab (n + 1) (itZ (q i) (n + 1))).flatMap encZ ++ []) = _
        rw [List.append_nil]
      rw [← hbz, ← hvz] at hS
      repeat (with_reducible first | refine c_seq ?_ | refine c_block ?_ | refine c_skip ?_ | refine x_then ?_ | refine x_block ?_)
      refine c_reg ?_
      refine l_pure rfl (s_add  h33 rfl (IntWalk.i64_in _ (by omega)) ?_)
      refine l_pure rfl (s_move  rfl ?_)
      refine l_nil ?_
      repeat (with_reducible first | refine c_seq ?_ | refine c_block ?_ | refine c_skip ?_ | refine x_then ?_ | refine x_block ?_)
      refine ⟨i + 1, _, rfl, ⟨hlt, by assumption, by assumption, by assumption, by assumption, by assumption, vi rfl (by omega), RW ++ [nr], MatG_snoc hRW hnX ⟨by omega, by omega⟩, ?_⟩, by omega⟩
      rw [List.map_append, List.map_append, show n - (i + 1) = d by omega, List.append_assoc]
      exact hS
    · refine c_no rfl (decide_eq_false (by omega)) ?_
      repeat (with_reducible first | refine c_seq ?_ | refine c_block ?_ | refine c_skip ?_ | refine x_then ?_ | refine x_block ?_)
      refine c_exit ?_
      repeat (with_reducible first | refine x_then_exit ?_ | refine x_block_exit ?_ | refine x_block_pass rfl ?_)
      repeat (with_reducible first | refine c_seq ?_ | refine c_block ?_ | refine c_skip ?_ | refine x_then ?_ | refine x_block ?_)
      obtain rfl : n = i := by omega
      rw [Nat.sub_self, List.replicate_zero, List.append_nil, List.drop_of_length_le (by rw [hRC.len]; exact Nat.le_refl _), List.map_nil] at hS
      exact ⟨_, rfl, h7, h8, RW, hRW, hS.drop (List.sublist_cons_self _ _)⟩
  clear hS
  rintro ρ w3 ⟨h7, h8, RW, hRW, hS⟩
  obtain ⟨S0, hS0⟩ : ∃ S0, S0 = 1001 * K + 1 := ⟨_, rfl⟩
  have hSS : ∀ k, k ≤ n → SS S0 k + 1 ≤ 65536 * (S0 + 1) := fun k hk => SS_16 (by omega)
  have hsz0 : ∀ i, i < n → ∀ j, j < n + 1 → zSz (BmZ q (n + 1) i j) ≤ S0 := by
    intro i hi j hj
    have g1 := itZ_size (hAL i hi) hj
    have g2 := cSz_le (hAL i hi) (n + 1) (Nat.le_refl _)
    have g3 : (n + 1) * K ≤ 1000 * K := Nat.mul_le_mul_right _ (by omega)
    show zSz (itZ (q i) (n + 1) j) ≤ S0
    omega
  obtain ⟨Bm, hBm⟩ : ∃ Bm, Bm = BmR q (n + 1) := ⟨_, rfl⟩
  have hWh : WholeMx Bm := by rw [hBm]; exact BmR_whole _ _
  have hfi := fun k => full_iff (n := n) hout k
  have hfs := full_same (n := n) hout
  rw [← hBm] at hfi hfs
  have hrep0 : RepZ n (n + 1) Bm 0 fun i j => zv (BmZ q (n + 1) i j) := by
    intro i hi j hj
    rw [hBm]
    show _ = 1 * BmR q (n + 1) i j
    unfold BmR
    rw [if_pos hj, Rat.one_mul]
  repeat (with_reducible first | refine c_seq ?_ | refine c_block ?_ | refine c_skip ?_ | refine x_then ?_ | refine x_block ?_)
  refine c_reg ?_
  refine l_heavy rfl (s_call Tryd.call38 rfl (FromUint_ok 1 _ (by decide)) ?_)
  rintro _ wc8 ⟨rfl, hBc8⟩
  replace hS := hS.grow hBc8
  refine l_pure rfl (s_build  rfl (built_Z _ _) ?_)
  refine l_heavy rfl (s_alloc  vi_68 hS ?_)
  intro b11 wz9 hS hBz9
  refine l_heavy rfl (s_sta (k := 0)  rfl rfl vi_68 hS rfl rfl rfl (Nat.le_of_ble_eq_true rfl) rfl ?_)
  intro wz10 hS
  refine l_nil ?_
  repeat (with_reducible first | refine c_seq ?_ | refine c_block ?_ | refine c_skip ?_ | refine x_then ?_ | refine x_block ?_)
  replace hS : St w _ ([(b11, 68, encZ ⟨false, 1⟩)] ++ mB encZ 68 63 bw RW []) := hS
  repeat (with_reducible first | refine c_seq ?_ | refine c_block ?_ | refine c_skip ?_ | refine x_then ?_ | refine x_block ?_)
  refine c_reg ?_
  refine l_pure rfl (s_move  h7 ?_)
  refine l_pure rfl (s_move  rfl ?_)
  refine l_nil ?_
  repeat (with_reducible first | refine c_seq ?_ | refine c_skip ?_ | refine x_then ?_ | refine x_block ?_)
  refine c_cut1 (fun ρ w' => (rdc n Bm n).P.length = n ∧ ρ 7 = .int .i64 n ∧ ρ 8 = .slice (some ⟨bw, 0, none⟩) n n ∧ ∃ RW f, MatG RW n (n + 1) f ∧ RepZ n (n + 1) Bm n (fun i j => zv (f i j)) ∧ (∀ i, i < n → ∀ j, j < n + 1 → zSz (f i j) ≤ SS S0 n) ∧ St w w' (mB encZ 68 63 bw RW [])) ?_ ?_
  · repeat (with_reducible first | refine c_seq ?_ | refine c_block ?_ | refine c_skip ?_ | refine x_then ?_ | refine x_block ?_)
    refine c_loop (σ := Nat) (fun k ρ w' => k ≤ n ∧ (rdc n Bm k).P.length = k ∧ ρ 7 = .int .i64 n ∧ ρ 8 = .slice (some ⟨bw, 0, none⟩) n n ∧ ρ 11 = .pointer (some ⟨b11, 0, none⟩) ∧ ρ 56 = .int .i64 n ∧ ρ 57 = .int .i64 k ∧ ∃ RW f last, MatG RW n (n + 1) f ∧ RepZ n (n + 1) Bm k (fun i j => zv (f i j)) ∧ (∀ i, i < n → ∀ j, j < n + 1 → zSz (f i j) ≤ SS S0 k) ∧ ((zv last : Int) : Rat) = dd n Bm k ∧ zSz last ≤ SS S0 k ∧
      St w w' ([(b11, 68, encZ last)] ++ mB encZ 68 63 bw RW [])) (fun k => n - k) 0
      ⟨Nat.zero_le _, rfl, by assumption, by assumption, rfl, rfl, rfl, RW, _, ⟨false, 1⟩, hRW, hrep0, hsz0, rfl, (by show (natS 1).size ≤ S0; rw [natS_one_size]; omega), hS⟩ ?_
    clear hS hRW hrep0 hsz0
    rintro k ρ w4 ⟨hk, hkP, h7, h8, h11, h56, h57, RW, f, last, hRW, hrep, hsz, hlv, hlz, hS⟩
    have hSk := hSS k hk
    repeat (with_reducible first | refine c_seq ?_ | refine c_block ?_ | refine c_skip ?_ | refine x_then ?_ | refine x_block ?_)
    refine c_reg ?_
    refine l_pure rfl (s_lss  h57 h56 ?_)
    refine l_nil ?_
    repeat (with_reducible first | refine c_seq ?_ | refine c_block ?_ | refine c_skip ?_ | refine x_then ?_ | refine x_block ?_)
    by_cases hkn : k < n
    · refine c_yes rfl (decide_eq_true (by omega)) ?_
      repeat (with_reducible first | refine c_seq ?_ | refine c_block ?_ | refine c_skip ?_ | refine x_then ?_ | refine x_block ?_)
      have hlk : k < RW.length := by rw [hRW.len]; exact hkn
      repeat (with_reducible first | refine c_seq ?_ | refine c_block ?_ | refine c_skip ?_ | refine x_then ?_ | refine x_block ?_)
      refine c_reg ?_
      refine l_pure rfl (s_move  h57 ?_)
      refine l_heavy rfl (s_alloc  vi_3 hS ?_)
      intro b12 wz11 hS hBz11
      refine l_heavy rfl (s_stc (k := 0)  rfl rfl vi_3 hS rfl (Nat.le_of_ble_eq_true rfl) rfl ?_)
      intro wz12 hS
      refine l_nil ?_
      repeat (with_reducible first | refine c_seq ?_ | refine c_block ?_ | refine c_skip ?_ | refine x_then ?_ | refine x_block ?_)
      have hmB := hS.drop (List.sublist_append_right [(b12, 3, [Value.int .i64 k]), (b11, 68, encZ last)] (mB encZ 68 63 bw RW []))
      have hO := hRW.outer hmB (Nat.le_refl n) (by omega)
      have hmap : (RW.map Rw.v).length = n := by rw [List.length_map, hRW.len]
      have hp : At _ ⟨b12, 0, none⟩ [.int .i64 k] := hS.at (k := 0) rfl 0 1
      have hO2 := hO.sub (fun _ => rfl) (by decide) (lo := k) (hi := (RW.map Rw.v).length) (by omega) (Nat.le_refl _)
      rw [List.take_of_length_le (by rw [List.length_drop]; exact Nat.le_refl _)] at hO2
      have hrows : ∀ i, i < n - k → Sl encZ 2 _ (((RW.map Rw.v).drop k).getD i undef) (tab (n + 1) (f (k + i))) := fun i hi => by
        have := hRW.sl hmB encZ_len (i := k + i) (by omega)
        have e : ((RW.map Rw.v).drop k).getD i undef = (RW.getD (k + i) zRw).v := by
          rw [List.getD_eq_getElem?_getD, List.getElem?_drop, mB_row (by rw [hRW.len]; omega)]; rfl
        rw [e]; exact this
      repeat (with_reducible first | refine c_seq ?_ | refine c_block ?_ | refine c_skip ?_ | refine x_then ?_ | refine x_block ?_)
      refine c_reg ?_
      refine l_pure rfl (s_move  h8 ?_)
      refine l_read rfl (s_ldo (k := 0)  rfl vi_3 hS rfl rfl rfl (.inr rfl) ?_)
      refine l_pure rfl (s_subrl  rfl rfl hO rfl (by omega) si_62 ?_)
      refine l_pure rfl (s_mkf1  rfl ?_)
      refine l_heavy rfl (s_call Tryd.call39 rfl (IndexZ_ok b12 k (n - k) (n + 1) _ _ (fun i j => f (k + i) j) _ hp hO2 (by rw [List.length_drop, hmap]) hrows (by omega)) ?_)
      rintro r w5 ⟨rfl, hB5⟩
      replace hS := hS.grow hB5
      have hpr := repMst hrep hkP (by omega : k < n + 1)
      obtain ⟨p, hpp⟩ : ∃ p, p = pv (rdc n Bm k).M k n k := ⟨_, rfl⟩
      have hps := pv_spec (rdc n Bm k).M k (n := n) (r := k) (by omega)
      rw [← hpp] at hps
      obtain ⟨hkp, _, _, _⟩ := hps
      have hfst : fstB (fun i => decide ((f (k + i) k).mag ≠ 0)) (n - k) 0 = if p < n then ((p - k : Nat) : Int) else -1 := by
        have hpf : pvF (rdc n Bm k).M k (n - k) k = p := hpp.symm
        have hcong : ∀ d i, i + d = n - k → fstB (fun i => decide ((f (k + i) k).mag ≠ 0)) d i = if pvF (rdc n Bm k).M k d (k + i) < k + i + d then ((pvF (rdc n Bm k).M k d (k + i) - k : Nat) : Int) else -1 := by
          intro d
          induction d with
          | zero =>
            intro i _
            show (-1 : Int) = if k + i < k + i + 0 then _ else -1
            rw [if_neg (by omega)]
          | succ d ih =>
            intro i hid
            have hi := hpr (k + i) (by omega)
            show (if decide ((f (k + i) k).mag ≠ 0) = true then (i : Int) else fstB _ d (i + 1)) = _
            unfold pvF
            by_cases e : (rdc n Bm k).M (k + i) k = 0
            · rw [if_neg (fun q => hi.1 (of_decide_eq_true q) e), if_pos e, ih (i + 1) (by omega)]
              rw [show k + (i + 1) = k + i + 1 by omega, show k + i + 1 + d = k + i + (d + 1) by omega]
            · rw [if_pos (decide_eq_true (hi.2 e)), if_neg e, if_pos (by omega), show k + i - k = i by omega]
        have := hcong (n - k) 0 (by omega)
        rw [Nat.add_zero, hpf, show k + (n - k) = n by omega] at this
        exact this
      rw [hfst]
      refine l_pure rfl (s_asg  rfl ?_)
      refine l_nil ?_
      repeat (with_reducible first | refine c_seq ?_ | refine c_block ?_ | refine c_skip ?_ | refine x_then ?_ | refine x_block ?_)
      refine c_reg ?_
      refine l_pure rfl (s_move  rfl ?_)
      refine l_pure rfl (s_lss  rfl rfl ?_)
      refine l_nil ?_
      repeat (with_reducible first | refine c_seq ?_ | refine c_block ?_ | refine c_skip ?_ | refine x_then ?_ | refine x_block ?_)
      by_cases hpn : ¬ p < n
      · rw [if_neg hpn]
        refine c_yes rfl (decide_eq_true (by decide)) ?_
        repeat (with_reducible first | refine c_seq ?_ | refine c_block ?_ | refine c_skip ?_ | refine x_then ?_ | refine x_block ?_)
        have hnf : (rdc n q n).P.length ≠ n := fun g => rdc_stuck hkn (by rw [← hpp]; exact hpn) ((hfi n).2 g)
        have e5 : slE A B = 5 := by rw [e1, if_neg hnf]
        repeat (with_reducible first | refine c_seq ?_ | refine c_block ?_ | refine c_skip ?_ | refine x_then ?_ | refine x_block ?_)
        refine c_reg ?_
        refine l_pure rfl (s_asg  rfl ?_)
        refine l_pure rfl (s_asg  rfl ?_)
        refine l_nil ?_
        repeat (with_reducible first | refine c_seq ?_ | refine c_block ?_ | refine c_skip ?_ | refine x_then ?_ | refine x_block ?_)
        refine c_ret ?_
        repeat (with_reducible first | refine x_then_ret ?_ | refine x_block_ret ?_)
        refine r_two rfl rfl rfl ?_
        refine ⟨⟨_, by rw [e5]; rfl, ?_⟩, hS.below⟩
        rw [hno (by rw [e5]; decide)]; exact Sl.nil _ _ _
      replace hpn := Decidable.not_not.1 hpn
      rw [if_pos hpn]
      refine c_no rfl (decide_eq_false (by omega)) ?_
      repeat (with_reducible first | refine c_seq ?_ | refine c_block ?_ | refine c_skip ?_ | refine x_then ?_ | refine x_block ?_)
      have hlp : p < RW.length := by rw [hRW.len]; exact hpn
      replace hS : St w _ ([(b12, 3, [Value.int .i64 k]), (b11, 68, encZ last)] ++ mB encZ 68 63 bw RW []) := hS
      refine c_cut1 (fun ρ w' => ρ 7 = .int .i64 n ∧ ρ 8 = .slice (some ⟨bw, 0, none⟩) n n ∧ ρ 11 = .pointer (some ⟨b11, 0, none⟩) ∧ ρ 12 = .pointer (some ⟨b12, 0, none⟩) ∧ ρ 56 = .int .i64 n ∧ ρ 57 = .int .i64 k ∧ St w w' ([(b12, 3, [Value.int .i64 k]), (b11, 68, encZ last)] ++ mB encZ 68 63 bw (swpL RW k p) [])) ?_ ?_
      · repeat (with_reducible first | refine c_seq ?_ | refine c_block ?_ | refine c_skip ?_ | refine x_then ?_ | refine x_block ?_)
        refine c_all 20 [(0, .pure), (1, .read), (2, .pure), (3, .grow), (4, .pure), (5, .pure), (6, .pure), (7, .read), (8, .pure), (9, .pure), (10, .pure), (11, .read), (12, .pure), (13, .read), (14, .pure), (15, .read), (16, .pure), (17, .free), (18, .pure), (19, .free)] (by kernel_rfl) (by kernel_rfl) hS ?_
        intro wz13 hS hBz13
        refine z_pure (i := 0) (U' := [(1, .read), (2, .pure), (3, .grow), (4, .pure), (5, .pure), (6, .pure), (7, .read), (8, .pure), (9, .pure), (10, .pure), (11, .read), (12, .pure), (13, .read), (14, .pure), (15, .read), (16, .pure), (17, .free), (18, .pure), (19, .free)]) (by kernel_rfl) (by kernel_rfl) rfl rfl (s_move  h8 ?_)
        refine z_read (i := 1) (U' := [(2, .pure), (3, .grow), (4, .pure), (5, .pure), (6, .pure), (7, .read), (8, .pure), (9, .pure), (10, .pure), (11, .read), (12, .pure), (13, .read), (14, .pure), (15, .read), (16, .pure), (17, .free), (18, .pure), (19, .free)]) (by kernel_rfl) (by kernel_rfl) rfl rfl (s_ldo (k := 0)  rfl vi_3 hS rfl rfl rfl (.inr rfl) ?_)
        refine z_pure (i := 2) (U' := [(3, .grow), (4, .pure), (5, .pure), (6, .pure), (7, .read), (8, .pure), (9, .pure), (10, .pure), (11, .read), (12, .pure), (13, .read), (14, .pure), (15, .read), (16, .pure), (17, .free), (18, .pure), (19, .free)]) (by kernel_rfl) (by kernel_rfl) rfl rfl (s_move  h8 ?_)
        refine z_pure (i := 4) (U' := [(3, .grow), (5, .pure), (6, .pure), (7, .read), (8, .pure), (9, .pure), (10, .pure), (11, .read), (12, .pure), (13, .read), (14, .pure), (15, .read), (16, .pure), (17, .free), (18, .pure), (19, .free)]) (by kernel_rfl) (by kernel_rfl) rfl rfl (s_move  rfl ?_)
        refine z_pure (i := 6) (U' := [(3, .grow), (5, .pure), (7, .read), (8, .pure), (9, .pure), (10, .pure), (11, .read), (12, .pure), (13, .read), (14, .pure), (15, .read), (16, .pure), (17, .free), (18, .pure), (19, .free)]) (by kernel_rfl) (by kernel_rfl) rfl rfl (s_move  h8 ?_)
        refine z_read (i := 7) (U' := [(3, .grow), (5, .pure), (8, .pure), (9, .pure), (10, .pure), (11, .read), (12, .pure), (13, .read), (14, .pure), (15, .read), (16, .pure), (17, .free), (18, .pure), (19, .free)]) (by kernel_rfl) (by kernel_rfl) rfl rfl (s_ldo (k := 0)  rfl vi_3 hS rfl rfl rfl (.inr rfl) ?_)
        refine z_pure (i := 8) (U' := [(3, .grow), (5, .pure), (9, .pure), (10, .pure), (11, .read), (12, .pure), (13, .read), (14, .pure), (15, .read), (16, .pure), (17, .free), (18, .pure), (19, .free)]) (by kernel_rfl) (by kernel_rfl) rfl rfl (s_move  rfl ?_)
        refine z_pure (i := 9) (U' := [(3, .grow), (5, .pure), (10, .pure), (11, .read), (12, .pure), (13, .read), (14, .pure), (15, .read), (16, .pure), (17, .free), (18, .pure), (19, .free)]) (by kernel_rfl) (by kernel_rfl) rfl rfl (s_add  rfl rfl (IntWalk.i64_in _ (by omega)) ?_)
        refine z_pure (i := 10) (U' := [(3, .grow), (5, .pure), (11, .read), (12, .pure), (13, .read), (14, .pure), (15, .read), (16, .pure), (17, .free), (18, .pure), (19, .free)]) (by kernel_rfl) (by kernel_rfl) rfl rfl (s_ixo (i := p)  rfl rfl (by omega) (by first | omega | (simp; done) | (simp; omega)) si_62 ?_)
        refine z_read (i := 11) (U' := [(3, .grow), (5, .pure), (12, .pure), (13, .read), (14, .pure), (15, .read), (16, .pure), (17, .free), (18, .pure), (19, .free)]) (by kernel_rfl) (by kernel_rfl) rfl rfl (s_mrowP [_, _]  rfl vi_63 hS (by omega) hlp ?_)
        refine z_pure (i := 12) (U' := [(3, .grow), (5, .pure), (13, .read), (14, .pure), (15, .read), (16, .pure), (17, .free), (18, .pure), (19, .free)]) (by kernel_rfl) (by kernel_rfl) rfl rfl (s_move  h8 ?_)
        refine z_read (i := 13) (U' := [(3, .grow), (5, .pure), (14, .pure), (15, .read), (16, .pure), (17, .free), (18, .pure), (19, .free)]) (by kernel_rfl) (by kernel_rfl) rfl rfl (s_ldo (k := 0)  rfl vi_3 hS rfl rfl rfl (.inr rfl) ?_)
        refine z_pure (i := 14) (U' := [(3, .grow), (5, .pure), (15, .read), (16, .pure), (17, .free), (18, .pure), (19, .free)]) (by kernel_rfl) (by kernel_rfl) rfl rfl (s_ixo (i := k)  rfl rfl (by omega) (by first | omega | (simp; done) | (simp; omega)) si_62 ?_)
        refine z_read (i := 15) (U' := [(3, .grow), (5, .pure), (16, .pure), (17, .free), (18, .pure), (19, .free)]) (by kernel_rfl) (by kernel_rfl) rfl rfl (s_mrowP [_, _]  rfl vi_63 hS (by omega) hlk ?_)
        refine z_pure (i := 16) (U' := [(3, .grow), (5, .pure), (17, .free), (18, .pure), (19, .free)]) (by kernel_rfl) (by kernel_rfl) rfl rfl (s_ixo (i := k)  rfl rfl (by omega) (by first | omega | (simp; done) | (simp; omega)) si_62 ?_)
        refine z_two (x := (3, .grow)) (y := (17, .free)) (U' := [(5, .pure), (17, .free), (18, .pure), (19, .free)]) (U'' := [(3, .grow), (5, .pure), (18, .pure), (19, .free)]) (by kernel_rfl) (by kernel_rfl) (by kernel_rfl) ?_ ?_
        · refine z_grow rfl rfl (hup_read (s_ldo (k := 0)  rfl vi_3 hS rfl rfl rfl (.inr rfl) ?_))
          refine ⟨Below.refl _ _, ?_⟩
          refine z_pure (i := 5) (U' := [(17, .free), (18, .pure), (19, .free)]) (by kernel_rfl) (by kernel_rfl) rfl rfl (s_add  rfl rfl (IntWalk.i64_in _ (by omega)) ?_)
          refine z_one (x := (17, .free)) (U' := [(18, .pure), (19, .free)]) (by kernel_rfl) (by kernel_rfl) ?_
          refine z_free rfl rfl (s_mrowstP [_, _] (i := k)  rfl rfl vi_63 hS (by omega) (by rw [List.length_map]; exact hlk) (Rw_one _) ?_)
          intro wz14 hS
          refine z_pure (i := 18) (U' := [(19, .free)]) (by kernel_rfl) (by kernel_rfl) rfl rfl (s_ixo (i := p)  rfl rfl (by omega) (by first | omega | (simp; done) | (simp; omega)) si_62 ?_)
          refine z_one (x := (19, .free)) (U' := []) (by kernel_rfl) (by kernel_rfl) ?_
          refine z_free rfl rfl (s_mrowstP [_, _] (i := p)  rfl rfl vi_63 hS (by omega) (by rw [List.length_set, List.length_map]; exact hlp) (Rw_one _) ?_)
          intro wz15 hS
          refine z_end ?_
          repeat (with_reducible first | refine c_seq ?_ | refine c_block ?_ | refine c_skip ?_ | refine x_then ?_ | refine x_block ?_)
          exact ⟨_, rfl, by assumption, by assumption, by assumption, rfl, by assumption, by assumption, mB_swpP [_, _] hlk hlp hS⟩
        · refine z_free rfl rfl (s_mrowstP [_, _] (i := k)  rfl rfl vi_63 hS (by omega) (by rw [List.length_map]; exact hlk) (Rw_one _) ?_)
          intro wz16 hS
          refine z_one (x := (3, .grow)) (U' := [(5, .pure), (18, .pure), (19, .free)]) (by kernel_rfl) (by kernel_rfl) ?_
          refine z_grow rfl rfl (hup_read (s_ldo (k := 0)  rfl vi_3 hS rfl rfl rfl (.inr rfl) ?_))
          refine ⟨Below.refl _ _, ?_⟩
          refine z_pure (i := 5) (U' := [(18, .pure), (19, .free)]) (by kernel_rfl) (by kernel_rfl) rfl rfl (s_add  rfl rfl (IntWalk.i64_in _ (by omega)) ?_)
          refine z_pure (i := 18) (U' := [(19, .free)]) (by kernel_rfl) (by kernel_rfl) rfl rfl (s_ixo (i := p)  rfl rfl (by omega) (by first | omega | (simp; done) | (simp; omega)) si_62 ?_)
          refine z_one (x := (19, .free)) (U' := []) (by kernel_rfl) (by kernel_rfl) ?_
          refine z_free rfl rfl (s_mrowstP [_, _] (i := p)  rfl rfl vi_63 hS (by omega) (by rw [List.length_set, List.length_map]; exact hlp) (Rw_one _) ?_)
          intro wz17 hS
          refine z_end ?_
          repeat (with_reducible first | refine c_seq ?_ | refine c_block ?_ | refine c_skip ?_ | refine x_then ?_ | refine x_block ?_)
          exact ⟨_, rfl, by assumption, by assumption, by assumption, rfl, by assumption, by assumption, mB_swpP [_, _] hlk hlp hS⟩
      clear hS
      rintro ρ wsw ⟨h7, h8, h11, h12, h56, h57, hS⟩
      repeat (with_reducible first | refine c_seq ?_ | refine c_block ?_ | refine c_skip ?_ | refine x_then ?_ | refine x_block ?_)
      have hR2 : MatG (swpL RW k p) n (n + 1) (swpG f k p) := hRW.swp hkn hpn
      have hsz2 := swpG_size hkn hpn hsz
      have hl0 : last.mag ≠ 0 := fun g => dd_ne k hkP (by rw [← hlv, zv_ne.2 g]; rfl)
      have hrs := rep_step hWh hrep hkP (by omega) (by rw [← hpp]; exact hpn) hlv
      rw [← hpp, ← zv_swp] at hrs
      have hnx := (rdc_next hkP (by rw [← hpp]; exact hpn)).1
      have hel := fun wx h => leliminate_ok (H := [(b12, 3, [Value.int .i64 k]), (b11, 68, encZ last)] ++ []) (w0 := w) (bo := bw) k last (SS S0 k) wx hR2 (by omega) (by omega) hkn (by omega) hsz2 hlz hl0 (by omega) h
      repeat (with_reducible first | refine c_seq ?_ | refine c_block ?_ | refine c_skip ?_ | refine x_then ?_ | refine x_block ?_)
      refine c_reg ?_
      refine l_pure rfl (s_move  h8 ?_)
      refine l_read rfl (s_ldo (k := 0)  h12 vi_3 hS rfl rfl rfl (.inr rfl) ?_)
      refine l_read rfl (s_ldo (k := 1)  h11 vi_68 hS rfl rfl rfl (.inl rfl) ?_)
      refine l_heavy rfl (s_call Tryd.call41 rfl (hel _ (hS.perm (mB_pull _ _))) ?_)
      rintro u w6 ⟨rfl, R', hR', hS'⟩
      clear hS
      have hS := hS'.perm (mB_pull _ _).symm
      clear hS'
      have hlk' : k < R'.length := by rw [hR'.len]; exact hkn
      have hxk' := hR'.xlen hkn
      have hgk' : (R'.getD k zRw).X.getD k zZZ = zStep (swpG f k p) k last k k := hR'.get hkn (by omega) _
      have hsz3 := zStep_size hsz2 last hkn (by omega : k < n + 1)
      refine l_nil ?_
      repeat (with_reducible first | refine c_seq ?_ | refine c_block ?_ | refine c_skip ?_ | refine x_then ?_ | refine x_block ?_)
      refine c_draw [(0, .pure), (1, .read), (2, .pure), (3, .read), (4, .read), (5, .pure), (6, .read), (7, .free)] (by kernel_rfl) (by kernel_rfl) hS ?_
      intro wz18 hS hBz18
      refine w_pure rfl rfl (s_move  h8 ?_)
      refine w_read rfl rfl (s_ldo (k := 0)  h12 vi_3 hS rfl rfl rfl (.inr rfl) ?_)
      refine w_pure rfl rfl (s_ixo (i := k)  rfl rfl (by omega) (by first | omega | (simp; done) | (simp; omega)) si_62 ?_)
      refine w_read rfl rfl (s_mrowP [_, _]  rfl vi_63 hS (by omega) hlk' ?_)
      refine w_read rfl rfl (s_ldo (k := 0)  h12 vi_3 hS rfl rfl rfl (.inr rfl) ?_)
      refine w_pure rfl rfl (s_ixo (i := k)  rfl rfl (by omega) (by first | omega | (simp; done) | (simp; omega)) si_63 ?_)
      refine w_read rfl rfl (s_mldP [_, _] (i := k) (j := k) zZZ encZ_len  rfl vi_68 hS rfl hlk' (by omega) (by omega) (congrArg _ (congrArg _ hgk')) (.inl rfl) ?_)
      refine w_free rfl rfl (s_sta (k := 1)  h11 rfl vi_68 hS rfl rfl rfl (Nat.le_of_ble_eq_true rfl) rfl ?_)
      intro wz19 hS
      refine w_end ?_
      repeat (with_reducible first | refine c_seq ?_ | refine c_block ?_ | refine c_skip ?_ | refine x_then ?_ | refine x_block ?_)
      replace hS : St w _ ([(b12, 3, [Value.int .i64 k]), (b11, 68, encZ (zStep (swpG f k p) k last k k))] ++ mB encZ 68 63 bw R' []) := hS
      repeat (with_reducible first | refine c_seq ?_ | refine c_block ?_ | refine c_skip ?_ | refine x_then ?_ | refine x_block ?_)
      refine c_reg ?_
      refine l_pure rfl (s_add  h57 rfl (IntWalk.i64_in _ (by omega)) ?_)
      refine l_pure rfl (s_move  rfl ?_)
      refine l_nil ?_
      repeat (with_reducible first | refine c_seq ?_ | refine c_block ?_ | refine c_skip ?_ | refine x_then ?_ | refine x_block ?_)
      refine ⟨k + 1, _, rfl, ⟨hkn, hnx, by assumption, by assumption, by assumption, by assumption, vi rfl (by omega), R', _, _, hR', ?_, hsz3, ?_, hsz3 k hkn k (by omega), hS.drop (List.sublist_cons_self _ _)⟩, by omega⟩
      · intro i hi j hj
        show ((zv (zStep (swpG f k p) k last i j) : Int) : Rat) = _
        rw [zv_step]; exact hrs.1 i hi j hj
      · rw [zv_step]; exact hrs.2
    · refine c_no rfl (decide_eq_false (by omega)) ?_
      repeat (with_reducible first | refine c_seq ?_ | refine c_block ?_ | refine c_skip ?_ | refine x_then ?_ | refine x_block ?_)
      refine c_exit ?_
      repeat (with_reducible first | refine x_then_exit ?_ | refine x_block_exit ?_ | refine x_block_pass rfl ?_)
      repeat (with_reducible first | refine c_seq ?_ | refine c_block ?_ | refine c_skip ?_ | refine x_then ?_ | refine x_block ?_)
      obtain rfl : n = k := by omega
      exact ⟨_, rfl, hkP, h7, h8, RW, f, hRW, hrep, hsz, hS.drop (List.sublist_cons_self _ _)⟩
  clear hS hRW
  rintro ρ w4 ⟨hfull, h7, h8, RW, f, hRW, hrep, hsz, hS⟩
  have hqf := (hfi n).1 hfull
  have hIn := rinv n Bm n
  have hdn := dd_ne n hfull
  have hSn := hSS n (Nat.le_refl _)
  have e0 : slE A B = 0 := by rw [e1, if_pos hqf]
  rw [hslL e0, e0]
  have hval : ∀ i, i < n → (f i i).mag ≠ 0 ∧ ((zv (f i n) : Int) : Rat) / ((zv (f i i) : Int) : Rat) = (rdc n q n).M i n := by
    intro i hi
    have g1 : ((zv (f i i) : Int) : Rat) = dd n Bm n * (rdc n Bm n).M i i := hrep i hi i (by omega)
    have g2 : ((zv (f i n) : Int) : Rat) = dd n Bm n * (rdc n Bm n).M i n := hrep i hi n (by omega)
    rw [full_unit hIn hfull hi hi, dlt_self, Rat.mul_one] at g1
    rw [hfs hqf i hi n] at g2
    refine ⟨fun g => hdn (by rw [← g1, zv_ne.2 g]; rfl), ?_⟩
    rw [g1, g2, Rat.div_def]
    have := Rat.mul_inv_cancel _ hdn
    grind
  obtain ⟨gM, hgM⟩ : ∃ gM : Nat → Rat, gM = fun i => (rdc n q n).M i n := ⟨_, rfl⟩
  rw [show (tab n fun i => ofQ ((rdc n q n).M i n)) = tab n fun i => ofQ (gM i) by rw [hgM]]
  replace hval : ∀ i, i < n → (f i i).mag ≠ 0 ∧ ((zv (f i n) : Int) : Rat) / ((zv (f i i) : Int) : Rat) = gM i := by rw [hgM]; exact hval
  repeat (with_reducible first | refine c_seq ?_ | refine c_block ?_ | refine c_skip ?_ | refine x_then ?_ | refine x_block ?_)
  refine c_reg ?_
  refine l_pure rfl (s_move  h7 ?_)
  refine l_heavy rfl (s_makeE (enc := encR) (n := n) zRR  rfl rfl si_30 rfl (by omega) (by omega) (by omega) (by omega) hS ?_)
  intro b98 wz20 hS hBz20
  refine l_pure rfl (s_asg  rfl ?_)
  refine l_nil ?_
  repeat (with_reducible first | refine c_seq ?_ | refine c_block ?_ | refine c_skip ?_ | refine x_then ?_ | refine x_block ?_)
  replace hS : St w _ ([(b98, 27, (List.replicate n zRR).flatMap encR)] ++ mB encZ 68 63 bw RW []) := hS
  rw [oF_zero gM] at hS
  repeat (with_reducible first | refine c_seq ?_ | refine c_block ?_ | refine c_skip ?_ | refine x_then ?_ | refine x_block ?_)
  refine c_reg ?_
  refine l_pure rfl (s_move  h8 ?_)
  refine l_pure rfl (s_leno  rfl ⟨_, Tryd.underlying62⟩ ?_)
  refine l_pure rfl (s_move  rfl ?_)
  refine l_nil ?_
  repeat (with_reducible first | refine c_seq ?_ | refine c_skip ?_ | refine x_then ?_ | refine x_block ?_)
  refine c_cut1 (fun ρ w' => ρ 14 = .slice (some ⟨b98, 0, none⟩) n n ∧ St w w' ([(b98, 27, (tab n fun a => ofQ (oF gM n a)).flatMap encR)] ++ mB encZ 68 63 bw RW [])) ?_ ?_
  · repeat (with_reducible first | refine c_seq ?_ | refine c_block ?_ | refine c_skip ?_ | refine x_then ?_ | refine x_block ?_)
    refine c_loop (σ := Nat) (fun i ρ w' => i ≤ n ∧ ρ 7 = .int .i64 n ∧ ρ 14 = .slice (some ⟨b98, 0, none⟩) n n ∧ ρ 99 = .slice (some ⟨bw, 0, none⟩) n n ∧ ρ 100 = .int .i64 n ∧ ρ 101 = .int .i64 i ∧ St w w' ([(b98, 27, (tab n fun a => ofQ (oF gM i a)).flatMap encR)] ++ mB encZ 68 63 bw RW [])) (fun i => n - i) 0
      ⟨Nat.zero_le _, by assumption, rfl, rfl, rfl, rfl, hS⟩ ?_
    clear hS
    rintro i ρ w5 ⟨hi, h7, h14, h99, h100, h101, hS⟩
    have hto := tab_len n fun a => ofQ (oF gM i a)
    repeat (with_reducible first | refine c_seq ?_ | refine c_block ?_ | refine c_skip ?_ | refine x_then ?_ | refine x_block ?_)
    refine c_reg ?_
    refine l_pure rfl (s_lss  h101 h100 ?_)
    refine l_nil ?_
    repeat (with_reducible first | refine c_seq ?_ | refine c_block ?_ | refine c_skip ?_ | refine x_then ?_ | refine x_block ?_)
    by_cases hlt : i < n
    · refine c_yes rfl (decide_eq_true (by omega)) ?_
      repeat (with_reducible first | refine c_seq ?_ | refine c_block ?_ | refine c_skip ?_ | refine x_then ?_ | refine x_block ?_)
      have hli : i < RW.length := by rw [hRW.len]; exact hlt
      have htr := tab_len (n + 1) (f i)
      have hgn : (tab (n + 1) (f i)).getD n zZZ = f i n := tab_get _ _ (by omega)
      have hgi : (tab (n + 1) (f i)).getD i zZZ = f i i := tab_get _ _ (by omega)
      have q1 := hsz i hlt n (by omega)
      have q2 := hsz i hlt i (by omega)
      unfold zSz at q1 q2
      obtain ⟨hm0, hqv⟩ := hval i hlt
      have hmk := fun w => QMake_ok ((f i n).neg != (f i i).neg) (natS (f i n).mag) (natS (f i i).mag) w (by omega) (by omega) (by rw [val_natS]; exact hm0)
      rw [val_natS, val_natS, mk_quot hm0] at hmk
      have hmk2 : ((sg (f i n).neg (f i n).mag : Int) : Rat) / ((sg (f i i).neg (f i i).mag : Int) : Rat) = gM i := hqv
      rw [hmk2] at hmk
      repeat (with_reducible first | refine c_seq ?_ | refine c_block ?_ | refine c_skip ?_ | refine x_then ?_ | refine x_block ?_)
      refine c_reg ?_
      refine l_pure rfl (s_move  h101 ?_)
      refine l_pure rfl (s_ixo (i := i)  h99 h101 (by omega) (by first | omega | (simp; done) | (simp; omega)) si_62 ?_)
      refine l_read rfl (s_mrowP [_]  rfl vi_63 hS (by omega) hli ?_)
      refine l_pure rfl (s_asg  rfl ?_)
      refine l_pure rfl (s_asg  rfl ?_)
      refine l_nil ?_
      repeat (with_reducible first | refine c_seq ?_ | refine c_block ?_ | refine c_skip ?_ | refine x_then ?_ | refine x_block ?_)
      have hrow := hRW.sl (hS.drop (List.sublist_cons_self _ _)) encZ_len hlt
      repeat (with_reducible first | refine c_seq ?_ | refine c_block ?_ | refine c_skip ?_ | refine x_then ?_ | refine x_block ?_)
      refine c_draw [(0, .pure), (1, .pure), (2, .pure), (3, .pure), (4, .pure), (5, .pure), (6, .read), (7, .pure), (8, .pure), (9, .pure), (10, .pure), (11, .read), (12, .pure), (13, .pure), (14, .pure), (15, .pure), (16, .pure), (17, .read), (18, .pure), (19, .pure), (20, .pure), (21, .pure), (22, .read), (23, .grow), (24, .pure), (25, .pure), (26, .pure), (27, .pure), (28, .free)] (by kernel_rfl) (by kernel_rfl) hS ?_
      intro wz21 hS hBz21
      refine w_pure rfl rfl (s_move  h14 ?_)
      refine w_pure rfl rfl (s_move  rfl ?_)
      refine w_pure rfl rfl (s_move  rfl ?_)
      refine w_pure rfl rfl (s_move  h7 ?_)
      refine w_pure rfl rfl (s_ixr (i := n)  rfl rfl (hRW.sl (hS.drop (List.sublist_cons_self _ _)) encZ_len hlt) (by omega) (by first | omega | (simp; done) | (simp; omega)) si_63 ?_)
      refine w_pure rfl rfl (s_fldr  rfl (spot_el (hRW.sl (hS.drop (List.sublist_cons_self _ _)) encZ_len hlt) (fun _ => rfl) (by decide) (by first | omega | (simp; done) | (simp; omega))) fo_68_0 ?_)
      refine w_read rfl rfl (s_ldfe (i := n) (off := 0) zZZ  rfl vi_4 (hRW.sl (hS.drop (List.sublist_cons_self _ _)) encZ_len hlt) (fun _ => rfl) (by decide) (by first | omega | (simp; done) | (simp; omega)) rfl rfl (.inr rfl) ?_)
      refine w_pure rfl rfl (s_move  rfl ?_)
      refine w_pure rfl rfl (s_move  rfl ?_)
      refine w_pure rfl rfl (s_ixr (i := i)  rfl rfl (hRW.sl (hS.drop (List.sublist_cons_self _ _)) encZ_len hlt) (by omega) (by first | omega | (simp; done) | (simp; omega)) si_63 ?_)
      refine w_pure rfl rfl (s_fldr  rfl (spot_el (hRW.sl (hS.drop (List.sublist_cons_self _ _)) encZ_len hlt) (fun _ => rfl) (by decide) (by first | omega | (simp; done) | (simp; omega))) fo_68_0 ?_)
      refine w_read rfl rfl (s_ldfe (i := i) (off := 0) zZZ  rfl vi_4 (hRW.sl (hS.drop (List.sublist_cons_self _ _)) encZ_len hlt) (fun _ => rfl) (by decide) (by first | omega | (simp; done) | (simp; omega)) rfl rfl (.inr rfl) ?_)
      refine w_pure rfl rfl (s_neb  rfl rfl Tryd.underlying4 ?_)
      refine w_pure rfl rfl (s_move  rfl ?_)
      refine w_pure rfl rfl (s_move  h7 ?_)
      refine w_pure rfl rfl (s_ixr (i := n)  rfl rfl (hRW.sl (hS.drop (List.sublist_cons_self _ _)) encZ_len hlt) (by omega) (by first | omega | (simp; done) | (simp; omega)) si_63 ?_)
      refine w_pure rfl rfl (s_fldr  rfl (spot_el (hRW.sl (hS.drop (List.sublist_cons_self _ _)) encZ_len hlt) (fun _ => rfl) (by decide) (by first | omega | (simp; done) | (simp; omega))) fo_68_1 ?_)
      refine w_read rfl rfl (s_ldfe (i := n) (off := 1) zZZ  rfl vi_9 (hRW.sl (hS.drop (List.sublist_cons_self _ _)) encZ_len hlt) (fun _ => rfl) (by decide) (by first | omega | (simp; done) | (simp; omega)) rfl rfl (.inr rfl) ?_)
      refine w_pure rfl rfl (s_move  rfl ?_)
      refine w_pure rfl rfl (s_move  rfl ?_)
      refine w_pure rfl rfl (s_ixr (i := i)  rfl rfl (hRW.sl (hS.drop (List.sublist_cons_self _ _)) encZ_len hlt) (by omega) (by first | omega | (simp; done) | (simp; omega)) si_63 ?_)
      refine w_pure rfl rfl (s_fldr  rfl (spot_el (hRW.sl (hS.drop (List.sublist_cons_self _ _)) encZ_len hlt) (fun _ => rfl) (by decide) (by first | omega | (simp; done) | (simp; omega))) fo_68_1 ?_)
      refine w_read rfl rfl (s_ldfe (i := i) (off := 1) zZZ  rfl vi_9 (hRW.sl (hS.drop (List.sublist_cons_self _ _)) encZ_len hlt) (fun _ => rfl) (by decide) (by first | omega | (simp; done) | (simp; omega)) rfl rfl (.inr rfl) ?_)
      rw [hgn, hgi]
      refine w_grow rfl rfl (s_call Tryd.call42 rfl (hmk _) ?_)
      rintro _ wc22 ⟨rfl, hBc22⟩
      replace hS := hS.grow hBc22
      refine ⟨hBc22, ?_⟩
      refine w_pure rfl rfl (s_move  rfl ?_)
      refine w_pure rfl rfl (s_ext  rfl rfl ?_)
      refine w_pure rfl rfl (s_ext  rfl rfl ?_)
      refine w_pure rfl rfl (s_ixo (i := i)  rfl rfl (by omega) (by first | omega | (simp; done) | (simp; omega)) si_30 ?_)
      refine w_free rfl rfl (s_stE (k := 0) (i := i) (enc := encR) (ofQ (gM i)) (fun _ => rfl)  rfl rfl vi_27 hS rfl (by first | omega | simp) (by first | omega | (simp; done) | (simp; omega)) rfl rfl ?_)
      intro wz23 hS
      refine w_end ?_
      repeat (with_reducible first | refine c_seq ?_ | refine c_block ?_ | refine c_skip ?_ | refine x_then ?_ | refine x_block ?_)
      replace hS : St w _ ([(b98, 27, ((tab n fun a => ofQ (oF gM i a)).set i (ofQ (gM i))).flatMap encR)] ++ mB encZ 68 63 bw RW []) := hS
      rw [oF_set] at hS
      repeat (with_reducible first | refine c_seq ?_ | refine c_block ?_ | refine c_skip ?_ | refine x_then ?_ | refine x_block ?_)
      refine c_reg ?_
      refine l_pure rfl (s_add  h101 rfl (IntWalk.i64_in _ (by omega)) ?_)
      refine l_pure rfl (s_move  rfl ?_)
      refine l_nil ?_
      repeat (with_reducible first | refine c_seq ?_ | refine c_block ?_ | refine c_skip ?_ | refine x_then ?_ | refine x_block ?_)
      exact ⟨i + 1, _, rfl, ⟨hlt, by assumption, by assumption, by assumption, by assumption, vi rfl (by omega), hS⟩, by omega⟩
    · refine c_no rfl (decide_eq_false (by omega)) ?_
      repeat (with_reducible first | refine c_seq ?_ | refine c_block ?_ | refine c_skip ?_ | refine x_then ?_ | refine x_block ?_)
      refine c_exit ?_
      repeat (with_reducible first | refine x_then_exit ?_ | refine x_block_exit ?_ | refine x_block_pass rfl ?_)
      repeat (with_reducible first | refine c_seq ?_ | refine c_block ?_ | refine c_skip ?_ | refine x_then ?_ | refine x_block ?_)
      obtain rfl : n = i := by omega
      exact ⟨_, rfl, h14, hS⟩
  clear hS
  rintro ρ w5 ⟨h14, hS⟩
  have e3 : (tab n fun a => ofQ (oF gM n a)) = tab n fun i => ofQ (gM i) := tab_congr fun a ha => by unfold oF; rw [if_pos ha]
  rw [e3] at hS
  repeat (with_reducible first | refine c_seq ?_ | refine c_block ?_ | refine c_skip ?_ | refine x_then ?_ | refine x_block ?_)
  refine c_reg ?_
  refine l_pure rfl (s_move  h14 ?_)
  refine l_pure rfl (s_asg  rfl ?_)
  refine l_pure rfl (s_asg  rfl ?_)
  refine l_nil ?_
  repeat (with_reducible first | refine c_seq ?_ | refine c_block ?_ | refine c_skip ?_ | refine x_then ?_ | refine x_block ?_)
  have hTT := hS.sle (k := 0) (n := n) (cap := n) rfl encR_len (by rw [tab_len]; omega) (by omega) (by omega)
  rw [List.take_of_length_le (by rw [tab_len]; omega)] at hTT
  refine c_ret ?_
  repeat (with_reducible first | refine x_then_ret ?_ | refine x_block_ret ?_)
  refine r_two rfl rfl rfl ?_
  exact ⟨⟨_, rfl, hTT⟩, hS.below⟩
end Go.Proofs.YtblfipdfklpmmaaDoor
namespace Go.Sx
open Go Go.RowKit Go.Proofs.YtblfipdfklpmmaaDoor
def mD {α : Type} (enc : α → List Value) (t tS : TypeId) (bo : Nat) (cs : List Value) (R : List (Rw α)) (H : List Blk) : List Blk := (bo, tS, cs) :: (R.map (Rw.blk enc t) ++ H)
section
variable {P : Program} {N : Nat} {ρ : Nat → Value} {w0 w w' : World} {d : Option Tmp} {ty : TypeId} {pos : String} {aft : Array Edge} {g : Option (Nat × Bool)} {x y z : Operand} {t t' e : TypeId} {H : List Blk} {k b o : Nat} {v : Value} {K : Value → Prop} {K2 : Value → World → Prop}
  {α : Type} {enc : α → List Value} {size : Nat} {R : List (Rw α)} {tR tS : TypeId} {bo : Nat} {cs : List Value} {zz : List Value}
theorem mD_at {i : Nat} (hi : i < R.length) : (mD enc tR tS bo cs R H)[i + 1]? = some ((R.getD i zRw).b, tR, (R.getD i zRw).X.flatMap enc ++ (R.getD i zRw).sp) := by
  unfold mD
  rw [List.getElem?_cons_succ, List.getElem?_append_left (by rw [List.length_map]; exact hi), List.getElem?_map, List.getElem?_eq_getElem hi, getD_ge R zRw hi]; rfl
theorem mD_put {i : Nat} (j : Nat) (u : α) (hi : i < R.length) :
    (mD enc tR tS bo cs R H).set (i + 1) ((R.getD i zRw).b, tR, ((R.getD i zRw).X.set j u).flatMap enc ++ (R.getD i zRw).sp) = mD enc tR tS bo cs (R.set i ((R.getD i zRw).put j u)) H := by
  unfold mD
  rw [List.set_cons_succ, List.set_append_left _ _ (by rw [List.length_map]; exact hi), List.map_set]; rfl
theorem s_mrowD (pre : List Blk) {i : Nat} (hx : ev N ρ x = .pointer (some ⟨bo, o, none⟩)) (ht : vinfo P t = some (1, false, zz)) (hS : St w0 w (pre ++ mD enc tR tS bo cs R H)) (ho : o = i) (hv : cs[i]? = some v) (h : K v) : Read1 P N ρ w ⟨d, .load t x, ty, pos, aft, g⟩ K := by
  subst ho
  exact s_ldc (k := pre.length + 0) hx ht hS (by rw [preAt]; rfl) hv h
theorem s_mstD (pre : List Blk) {i j : Nat} {agg : Bool} (u : α) (hu : ∀ x, (enc x).length = size) (hx : ev N ρ x = .pointer (some ⟨b, o, none⟩)) (hy : ev N ρ y = v) (ht : vinfo P t = some (size, agg, zz)) (hS : St w0 w (pre ++ mD enc tR tS bo cs R H)) (hb : (R.getD i zRw).b = b) (hi : i < R.length)
    (ho : o = j * size) (hj : j < (R.getD i zRw).X.length) (hv : v.cells.toList = enc u) (h1 : (enc u).all (·.oneCell') = true) (h : ∀ w', St w0 w' (pre ++ mD enc tR tS bo cs (R.set i ((R.getD i zRw).put j u)) H) → K2 undef w') : Hup1 P N ρ w ⟨d, .store t x y, ty, pos, aft, g⟩ K2 := by
  subst hb
  refine s_stS (k := pre.length + (i + 1)) u hu hx hy ht hS (by rw [preAt]; exact mD_at hi) ho hj hv h1 fun w' hS' => ?_
  rw [preSet, mD_put j u hi] at hS'
  exact h w' hS'
theorem MatG.slD {n m : Nat} {f : Nat → Nat → α} (pre : List Blk) (h : MatG R n m f) (hS : St w0 w (pre ++ mD enc tR tS bo cs R H)) (hu : ∀ x, (enc x).length = size) {i : Nat} (hi : i < n) : Sl enc size w (R.getD i zRw).v (tab m (f i)) := by
  have hl : i < R.length := by rw [h.len]; exact hi
  have := hS.slg (k := pre.length + (i + 1)) (by rw [preAt]; exact mD_at hl) hu (n := m) (cap := (R.getD i zRw).cap) (by rw [h.xlen hi]; omega) (h.cap i hi).1 (h.cap i hi).2
  rwa [h.row i hi, List.take_of_length_le (by rw [tab_len]; omega), ← h.v hi] at this
theorem MatG.mtsD {n m cap : Nat} {f : Nat → Nat → α} {so : List Value} (pre : List Blk) (h : MatG R n m f) (hS : St w0 w (pre ++ mD enc tR tS bo (R.map Rw.v ++ so) R H)) (hu : ∀ x, (enc x).length = size) (h1 : n ≤ cap) (h2 : cap ≤ 9223372036854775807) :
    Mts enc size w (.slice (some ⟨bo, 0, none⟩) n cap) (tabM n m f) (R.map Rw.v) := by
  have hk : (pre ++ mD enc tR tS bo (R.map Rw.v ++ so) R H)[pre.length + 0]? = some (bo, tS, (R.map Rw.v).flatMap enV ++ so) := by rw [preAt, enV_flat]; rfl
  have hsl := hS.slg hk (fun _ => rfl) (n := n) (cap := cap) (by rw [List.length_map, h.len]; omega) h1 h2
  rw [List.take_of_length_le (by rw [List.length_map, h.len]; omega)] at hsl
  refine ⟨by rw [List.length_map, h.len, tabM_len], hsl, fun i hi => ?_⟩
  rw [tabM_len] at hi
  rw [tabM_row f hi, List.getD_eq_getElem?_getD, mB_row (by rw [h.len]; exact hi)]
  exact h.slD pre hS hu hi
end
end Go.Sx
namespace Go.Proofs.YtblfipdfklpmmaaDoor
open Go Go.RowKit Go.Sx
end Go.Proofs.YtblfipdfklpmmaaDoor
namespace Go.Proofs.YtblfipdfklpmmaaDoor
open Go Go.RowKit Go.Sx
theorem mC_row {α : Type} {R : List (Rw α)} {so : List Value} {i : Nat} (hi : i < R.length) : (R.map Rw.v ++ so)[i]? = some (R.getD i zRw).v := by
  rw [List.getElem?_append_left (by rw [List.length_map]; exact hi)]; exact mB_row hi
theorem mC_swp {α : Type} {enc : α → List Value} {tR tS : TypeId} {bo : Nat} {R R0 : List (Rw α)} {so : List Value} {H pre : List Blk} {w0 w : World} {p r : Nat} (hv : R.map Rw.v = R0.map Rw.v) (hp : p < R.length) (hr : r < R.length)
    (h : St w0 w (pre ++ mD enc tR tS bo (((R0.map Rw.v ++ so).set p (R0.getD r zRw).v).set r (R0.getD p zRw).v) R H)) : St w0 w (pre ++ mD enc tR tS bo ((swpL R p r).map Rw.v ++ so) (swpL R p r) H) := by
  have hl : R0.length = R.length := by have := congrArg List.length hv; rw [List.length_map, List.length_map] at this; exact this.symm
  have hvi : ∀ i, i < R.length → (R0.getD i zRw).v = (R.getD i zRw).v := fun i hi => by
    have h1 := mB_row (R := R) hi
    rw [hv, mB_row (by rw [hl]; exact hi)] at h1
    exact Option.some.inj h1
  have e : ((R0.map Rw.v ++ so).set p (R0.getD r zRw).v).set r (R0.getD p zRw).v = (swpL R p r).map Rw.v ++ so := by
    rw [hvi r hr, hvi p hp, ← hv, List.set_append_left _ _ (by rw [List.length_map]; exact hp), List.set_append_left _ _ (by rw [List.length_set, List.length_map]; exact hr)]
    unfold swpL
    rw [List.map_set, List.map_set]
  rw [e] at h
  refine h.perm (List.Perm.append_left _ (List.Perm.cons _ (List.Perm.append_right _ (List.Perm.map _ ?_))))
  unfold swpL
  rw [getD_ge R zRw hp, getD_ge R zRw hr]
  exact (List.set_set_perm hp hr).symm
theorem perm_row {α : Type} (A B : List α) (z : α) : (A ++ B ++ [z]).Perm (z :: A ++ B) := List.perm_append_singleton _ _
end Go.Proofs.YtblfipdfklpmmaaDoor
namespace Go.Proofs.YtblfipdfklpmmaaDoor
open Go Go.RowKit Go.Sx
def q1 : Rat := ((1 : Int) : Rat)
def q2 : Rat := ((2 : Int) : Rat)
def q4 : Rat := ((4 : Int) : Rat)
def qm2 : Rat := ((-2 : Int) : Rat)
def Aw : List (List RR) := [[ofQ q1, ofQ q2], [ofQ q2, ofQ q4]]
def Bw : List RR := [zRR, zRR]
def aMx : Mx := fun i j => if j = 0 then (if i = 0 then q1 else q2) else if j = 1 then (if i = 0 then q2 else q4) else 0
theorem two_cases {i : Nat} (h : i < 2) : i = 0 ∨ i = 1 := by omega
theorem three_cases {i : Nat} (h : i < 3) : i = 0 ∨ i = 1 ∨ i = 2 := by omega
theorem RM_Aw : ∀ i, i < 2 → ∀ j, j < 2 → RM Aw i j = aMx i j := by
  intro i hi j hj
  rcases two_cases hi with rfl | rfl <;> rcases two_cases hj with rfl | rfl <;> exact toQ_ofQ _
theorem AUG_Aw : ∀ i, i < 2 → ∀ j, j < 3 → AUG Aw Bw i j = aMx i j := by
  intro i hi j hj
  rcases three_cases hj with rfl | rfl | rfl
  · show RM Aw i 0 = _; exact RM_Aw i hi 0 (by decide)
  · show RM Aw i 1 = _; exact RM_Aw i hi 1 (by decide)
  · show VX Bw i = 0
    rcases two_cases hi with rfl | rfl <;> exact toQ_zRR
theorem shp_Aw : shpE Aw = 0 := rfl
theorem slE_Aw : slE Aw Bw = 5 := by
  have h := (rdc_cols (n := 2) (m := 3) AUG_Aw 2 (by decide)).2.1
  have h2 : (rdc 2 aMx 2).P.length = 1 := by decide +kernel
  unfold slE slD
  show (if sqE Aw ≠ 0 then _ else if (2 : Nat) ≠ 2 then _ else if (rdc 2 (AUG Aw Bw) 2).P.length = 2 then _ else _) = _
  rw [if_neg (by decide), if_neg (by decide), h, h2]; rfl
theorem krL_Aw : krL Aw = [[ofQ qm2, ofQ q1]] := by
  obtain ⟨h1, h2, _⟩ := rdc_cols (n := 2) (m := 2) RM_Aw 2 (by decide)
  have hP : (rdc 2 aMx 2).P = [0] := by decide +kernel
  have hM : (rdc 2 aMx 2).M 0 1 = q2 := by decide +kernel
  have e : krL Aw = (frL (rdA Aw).P 2).map (krRow (rdA Aw).M (rdA Aw).P 2) := if_pos shp_Aw
  rw [e]
  show (frL (rdc 2 (RM Aw) 2).P 2).map (krRow (rdc 2 (RM Aw) 2).M (rdc 2 (RM Aw) 2).P 2) = _
  have hP2 : (rdc 2 (RM Aw) 2).P = [0] := by rw [← hP]; exact h2
  have hM2 : (rdc 2 (RM Aw) 2).M 0 1 = q2 := by rw [h1 0 (by decide) 1 (by decide), hM]
  rw [hP2]
  show [[ofQ (kv [0] _ 1 0), ofQ (kv [0] _ 1 1)]] = _
  have k0 : kv [0] (rdc 2 (RM Aw) 2).M 1 0 = qm2 := by
    show - (rdc 2 (RM Aw) 2).M 0 1 = _
    rw [hM2]; decide +kernel
  have k1 : kv [0] (rdc 2 (RM Aw) 2).M 1 1 = q1 := rfl
  rw [k0, k1]
theorem Aw_RB : RBM 1 Aw := by
  intro a ha r hr
  have hq : ∀ z : Int, z.natAbs < 256 → Lr (ofQ (z : Rat)) ≤ 1 := fun z hz => by rw [Lr_ofQ]; exact L_int _ (by simpa using hz) (by decide)
  simp only [Aw, List.mem_cons, List.not_mem_nil, or_false] at ha
  rcases ha with rfl | rfl
  · simp only [List.mem_cons, List.not_mem_nil, or_false] at hr
    rcases hr with rfl | rfl
    · exact hq 1 (by decide)
    · exact hq 2 (by decide)
  · simp only [List.mem_cons, List.not_mem_nil, or_false] at hr
    rcases hr with rfl | rfl
    · exact hq 2 (by decide)
    · exact hq 4 (by decide)
theorem Bw_RB : RB 1 Bw := fun r hr => by
  simp only [Bw, List.mem_cons, List.not_mem_nil, or_false] at hr
  rcases hr with rfl | rfl <;> exact Nat.le_refl _
theorem ex_mts {w0 w : World} {b12 b11 b8 : Nat} (hS : St w0 w [(b12, 30, ([.slice (some ⟨b8, 0, none⟩) 2 2, .slice (some ⟨b11, 0, none⟩) 2 2] : List Value).flatMap enV), (b11, 27, [ofQ q2, ofQ q4].flatMap encR), (b8, 27, [ofQ q1, ofQ q2].flatMap encR)]) :
    Mts encR 3 w (.slice (some ⟨b12, 0, none⟩) 2 2) Aw [.slice (some ⟨b8, 0, none⟩) 2 2, .slice (some ⟨b11, 0, none⟩) 2 2] := by
  refine ⟨rfl, hS.sle (k := 0) (n := 2) (cap := 2) rfl (fun _ => rfl) (Nat.le_refl _) (Nat.le_refl _) (by decide), fun i hi => ?_⟩
  rcases two_cases hi with rfl | rfl
  · exact hS.sle (k := 2) (L := [ofQ q1, ofQ q2]) (n := 2) (cap := 2) rfl encR_len (Nat.le_refl _) (Nat.le_refl _) (by decide)
  · exact hS.sle (k := 1) (L := [ofQ q2, ofQ q4]) (n := 2) (cap := 2) rfl encR_len (Nat.le_refl _) (Nat.le_refl _) (by decide)
set_option maxHeartbeats 2000000 in
theorem Lawake_ok (w : World) :
    Ret Tryd.prog 12 #[] w fun v w' => v = .bool true ∧ Below w.heap.size w w' := by
  have hM : MX = 1099511627776 := rfl
  have hS := St.init w
  refine enter Tryd.func12 rfl Tryd.ntmps12 rfl ?_
  repeat (with_reducible first | refine c_seq ?_ | refine c_block ?_ | refine c_skip ?_ | refine x_then ?_ | refine x_block ?_)
  refine c_reg ?_
  refine l_pure rfl (s_asg  rfl ?_)
  refine l_nil ?_
  repeat (with_reducible first | refine c_seq ?_ | refine c_block ?_ | refine c_skip ?_ | refine x_then ?_ | refine x_block ?_)
  refine c_reg ?_
  refine l_heavy rfl (s_call Tryd.call32 rfl (QInt_ok 1 _ (by decide) (by decide)) ?_)
  rintro r wa ⟨rfl, hBa⟩
  replace hS := hS.grow hBa
  refine l_heavy rfl (s_call Tryd.call32 rfl (QInt_ok 2 _ (by decide) (by decide)) ?_)
  rintro r wb ⟨rfl, hBb⟩
  replace hS := hS.grow hBb
  refine l_heavy rfl (s_bsl (vs := [aggR (ofQ q1), aggR (ofQ q2)])  rfl si_30 rfl (by decide) (by decide) (by decide) (by simp [Value.cells, aggR]) rfl hS ?_)
  intro b8 wz1 hS hBz1
  refine l_heavy rfl (s_call Tryd.call32 rfl (QInt_ok 2 _ (by decide) (by decide)) ?_)
  rintro r wc ⟨rfl, hBc⟩
  replace hS := hS.grow hBc
  refine l_heavy rfl (s_call Tryd.call32 rfl (QInt_ok 4 _ (by decide) (by decide)) ?_)
  rintro r wd ⟨rfl, hBd⟩
  replace hS := hS.grow hBd
  refine l_heavy rfl (s_bsl (vs := [aggR (ofQ q2), aggR (ofQ q4)])  rfl si_30 rfl (by decide) (by decide) (by decide) (by simp [Value.cells, aggR]) rfl hS ?_)
  intro b11 wz2 hS hBz2
  refine l_heavy rfl (s_bsl (vs := [.slice (some ⟨b8, 0, none⟩) 2 2, .slice (some ⟨b11, 0, none⟩) 2 2])  rfl si_24 rfl (by decide) (by decide) (by decide) (by simp [Value.cells]) rfl hS ?_)
  intro b12 wz3 hS hBz3
  refine l_pure rfl (s_asg  rfl ?_)
  refine l_nil ?_
  repeat (with_reducible first | refine c_seq ?_ | refine c_block ?_ | refine c_skip ?_ | refine x_then ?_ | refine x_block ?_)
  replace hS : St w _ [(b12, 30, ([.slice (some ⟨b8, 0, none⟩) 2 2, .slice (some ⟨b11, 0, none⟩) 2 2] : List Value).flatMap enV), (b11, 27, [ofQ q2, ofQ q4].flatMap encR), (b8, 27, [ofQ q1, ofQ q2].flatMap encR)] := hS
  have hm := ex_mts hS
  repeat (with_reducible first | refine c_seq ?_ | refine c_block ?_ | refine c_skip ?_ | refine x_then ?_ | refine x_block ?_)
  refine c_reg ?_
  refine l_pure rfl (s_move  rfl ?_)
  refine l_pure rfl (s_build  rfl bz_27 ?_)
  refine l_pure rfl (s_build  rfl bz_27 ?_)
  refine l_heavy rfl (s_bsl (vs := [aggR zRR, aggR zRR])  rfl si_30 rfl (by decide) (by decide) (by decide) (by simp [Value.cells, aggR]) rfl hS ?_)
  intro b17 wz4 hS hBz4
  replace hS : St w _ ((b17, 27, Bw.flatMap encR) :: [(b12, 30, ([.slice (some ⟨b8, 0, none⟩) 2 2, .slice (some ⟨b11, 0, none⟩) 2 2] : List Value).flatMap enV), (b11, 27, [ofQ q2, ofQ q4].flatMap encR), (b8, 27, [ofQ q1, ofQ q2].flatMap encR)]) := hS
  have hm2 := ex_mts (hS.drop (List.sublist_cons_self _ _))
  have hb := hS.sle (k := 0) (L := Bw) (n := 2) (cap := 2) rfl encR_len (Nat.le_refl _) (Nat.le_refl _) (by decide)
  refine l_heavy rfl (s_call Tryd.call19 rfl (lSolve_ok _ _ Aw _ Bw 1 _ hm2 hb Aw_RB Bw_RB (by decide)) ?_)
  rintro r w3 ⟨⟨vx, rfl, -⟩, hB3⟩
  rw [slE_Aw]
  replace hS := hS.grow hB3
  replace hm2 := hm2.below hB3
  refine l_pure rfl (s_move  rfl ?_)
  refine l_pure rfl (s_ext  rfl rfl ?_)
  refine l_pure rfl (s_ext  rfl rfl ?_)
  refine l_pure rfl (s_asg  rfl ?_)
  refine l_pure rfl (s_asg  rfl ?_)
  refine l_nil ?_
  repeat (with_reducible first | refine c_seq ?_ | refine c_block ?_ | refine c_skip ?_ | refine x_then ?_ | refine x_block ?_)
  refine c_reg ?_
  refine l_pure rfl (s_move  rfl ?_)
  refine l_heavy rfl (s_call Tryd.call18 rfl (lKernel_ok _ Aw _ 1 _ hm2 Aw_RB (by decide)) ?_)
  rintro r w4 ⟨⟨vk, vks, rfl, hk⟩, hB4⟩
  rw [krL_Aw] at hk
  rw [shp_Aw]
  replace hS := hS.grow hB4
  have hW := hS.below
  clear hm hm2 hb
  replace hS := St.init w4
  have hkl := hk.len
  have hk0 := hk.row 0 (by decide)
  refine l_pure rfl (s_move  rfl ?_)
  refine l_pure rfl (s_ext  rfl rfl ?_)
  refine l_pure rfl (s_ext  rfl rfl ?_)
  refine l_pure rfl (s_asg  rfl ?_)
  refine l_pure rfl (s_asg  rfl ?_)
  refine l_nil ?_
  repeat (with_reducible first | refine c_seq ?_ | refine c_block ?_ | refine c_skip ?_ | refine x_then ?_ | refine x_block ?_)
  refine c_drawM [0, 1, 3, 7, 15, 31, 63, 127, 255, 511, 1023, 2047, 4095, 8191, 16383, 32767, 65535, 131071, 262143, 524287, 1048575, 2097151, 4194303, 8388607, 524287, 33554431, 67108863, 134217727, 268435455, 536870911, 1073741823, 2147483647, 4294967295, 268435455, 17179869183, 34359738367, 68719476735] [(0, .pure), (1, .pure), (2, .pure), (3, .pure), (4, .pure), (5, .pure), (6, .pure), (7, .pure), (8, .pure), (9, .pure), (10, .pure), (11, .pure), (12, .pure), (13, .pure), (14, .read), (15, .pure), (16, .pure), (17, .pure), (18, .pure), (19, .pure), (20, .pure), (21, .read), (22, .pure), (23, .read), (24, .grow), (25, .pure), (26, .pure), (27, .pure), (28, .pure), (29, .pure), (30, .read), (31, .pure), (32, .read), (33, .grow), (34, .pure), (35, .pure), (36, .pure)] (by kernel_rfl) (by kernel_rfl) hS ?_
  intro wz5 hS hBz5
  refine w_pure rfl rfl (s_move  rfl ?_)
  refine w_pure rfl rfl (s_eql  rfl rfl ?_)
  refine w_pure rfl rfl (s_move  rfl ?_)
  refine w_pure rfl (gd_yes 28 (by kernel_rfl) rfl (decide_eq_true rfl)) (s_move  rfl ?_)
  refine w_pure rfl (gd_yes 28 (by kernel_rfl) rfl (decide_eq_true rfl)) (s_eql  rfl rfl ?_)
  refine w_pure rfl rfl (s_pick (vb rfl (decide_eq_true rfl)) rfl ?_)
  refine w_pure rfl rfl (s_move  rfl ?_)
  refine w_pure rfl (gd_yes 32 (by kernel_rfl) rfl (decide_eq_true rfl)) (s_move  rfl ?_)
  refine w_pure rfl (gd_yes 32 (by kernel_rfl) rfl (decide_eq_true rfl)) (s_lenr  rfl (hk.sl.below hS.below) ⟨_, Tryd.underlying24⟩ ?_)
  refine w_pure rfl (gd_yes 32 (by kernel_rfl) rfl (decide_eq_true rfl)) (s_eql  rfl rfl ?_)
  refine w_pure rfl rfl (s_pick (vb rfl (decide_eq_true rfl)) rfl ?_)
  refine w_pure rfl rfl (s_move  rfl ?_)
  refine w_pure rfl (gd_yes 37 (by kernel_rfl) rfl (decide_eq_true (by rw [hkl]; rfl))) (s_move  rfl ?_)
  refine w_pure rfl (gd_yes 37 (by kernel_rfl) rfl (decide_eq_true (by rw [hkl]; rfl))) (s_ixr (i := 0)  rfl rfl (hk.sl.below hS.below) (by omega) (by rw [hkl]; exact Nat.one_pos) si_24 ?_)
  refine w_read rfl (gd_yes 37 (by kernel_rfl) rfl (decide_eq_true (by rw [hkl]; rfl))) (s_lde (i := 0) undef  rfl vi_30 (hk.sl.below hS.below) (by rw [hkl]; exact Nat.one_pos) rfl rfl (.inr rfl) ?_)
  refine w_pure rfl (gd_yes 37 (by kernel_rfl) rfl (decide_eq_true (by rw [hkl]; rfl))) (s_lenr  rfl (hk0.below hS.below) ⟨_, Tryd.underlying30⟩ ?_)
  refine w_pure rfl (gd_yes 37 (by kernel_rfl) rfl (decide_eq_true (by rw [hkl]; rfl))) (s_eql  rfl rfl ?_)
  refine w_pure rfl rfl (s_pick (vb rfl (decide_eq_true (by rw [hkl]; rfl))) rfl ?_)
  refine w_pure rfl rfl (s_move  rfl ?_)
  refine w_pure rfl (gd_yes 44 (by kernel_rfl) rfl (decide_eq_true rfl)) (s_move  rfl ?_)
  refine w_pure rfl (gd_yes 44 (by kernel_rfl) rfl (decide_eq_true rfl)) (s_ixr (i := 0)  rfl rfl (hk.sl.below hS.below) (by omega) (by rw [hkl]; exact Nat.one_pos) si_24 ?_)
  refine w_read rfl (gd_yes 44 (by kernel_rfl) rfl (decide_eq_true rfl)) (s_lde (i := 0) undef  rfl vi_30 (hk.sl.below hS.below) (by rw [hkl]; exact Nat.one_pos) rfl rfl (.inr rfl) ?_)
  refine w_pure rfl (gd_yes 44 (by kernel_rfl) rfl (decide_eq_true rfl)) (s_ixr (i := 0)  rfl rfl (hk0.below hS.below) (by omega) (Nat.le_of_ble_eq_true rfl) si_30 ?_)
  refine w_read rfl (gd_yes 44 (by kernel_rfl) rfl (decide_eq_true rfl)) (s_lde (i := 0) zRR  rfl vi_27 (hk0.below hS.below) (Nat.le_of_ble_eq_true rfl) rfl rfl (.inl rfl) ?_)
  refine w_grow rfl (gd_yes 44 (by kernel_rfl) rfl (decide_eq_true rfl)) (s_call Tryd.call32 rfl (QInt_ok (-2) _ (by decide) (by decide)) ?_)
  rintro r we0 ⟨rfl, hBe0⟩
  refine ⟨hBe0, ?_⟩
  replace hS := hS.grow hBe0
  refine w_pure rfl (gd_yes 44 (by kernel_rfl) rfl (decide_eq_true rfl)) (s_eqR  rfl rfl ?_)
  refine w_pure rfl rfl (s_pick (vb rfl (decide_eq_true rfl)) rfl ?_)
  refine w_pure rfl rfl (s_move  rfl ?_)
  refine w_pure rfl (gd_yes 53 (by kernel_rfl) rfl (decide_eq_true rfl)) (s_move  rfl ?_)
  refine w_pure rfl (gd_yes 53 (by kernel_rfl) rfl (decide_eq_true rfl)) (s_ixr (i := 0)  rfl rfl (hk.sl.below hS.below) (by omega) (by rw [hkl]; exact Nat.one_pos) si_24 ?_)
  refine w_read rfl (gd_yes 53 (by kernel_rfl) rfl (decide_eq_true rfl)) (s_lde (i := 0) undef  rfl vi_30 (hk.sl.below hS.below) (by rw [hkl]; exact Nat.one_pos) rfl rfl (.inr rfl) ?_)
  refine w_pure rfl (gd_yes 53 (by kernel_rfl) rfl (decide_eq_true rfl)) (s_ixr (i := 1)  rfl rfl (hk0.below hS.below) (by omega) (Nat.le_of_ble_eq_true rfl) si_30 ?_)
  refine w_read rfl (gd_yes 53 (by kernel_rfl) rfl (decide_eq_true rfl)) (s_lde (i := 1) zRR  rfl vi_27 (hk0.below hS.below) (Nat.le_of_ble_eq_true rfl) rfl rfl (.inl rfl) ?_)
  refine w_grow rfl (gd_yes 53 (by kernel_rfl) rfl (decide_eq_true rfl)) (s_call Tryd.call32 rfl (QInt_ok 1 _ (by decide) (by decide)) ?_)
  rintro r we1 ⟨rfl, hBe1⟩
  refine ⟨hBe1, ?_⟩
  replace hS := hS.grow hBe1
  refine w_pure rfl (gd_yes 53 (by kernel_rfl) rfl (decide_eq_true rfl)) (s_eqR  rfl rfl ?_)
  refine w_pure rfl rfl (s_pick (vb rfl (decide_eq_true rfl)) rfl ?_)
  refine w_pure rfl rfl (s_asg  rfl ?_)
  refine w_end ?_
  repeat (with_reducible first | refine c_seq ?_ | refine c_block ?_ | refine c_skip ?_ | refine x_then ?_ | refine x_block ?_)
  refine c_ret ?_
  repeat (with_reducible first | refine x_then_ret ?_ | refine x_block_ret ?_)
  refine r_one rfl rfl ?_
  exact ⟨vb rfl (decide_eq_true rfl), hW.trans (hS.below.mono hW.size)⟩
end Go.Proofs.YtblfipdfklpmmaaDoor
