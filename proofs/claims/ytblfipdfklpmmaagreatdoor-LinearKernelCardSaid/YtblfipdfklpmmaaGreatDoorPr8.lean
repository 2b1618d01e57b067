/-
  Part 8 of the texts that the law's proof is made of: the framework and the walks.
-/
import Derived.Test.YtblfipdfklpmmaaGreatDoorPr7
namespace Go.Proofs.YtblfipdfklpmmaaGreatDoor
open Go Go.RowKit Go.Sx Go.ChangeShapes Go.WideShapes
section
variable {H : Type} {enc0 : TypeId × Value → H} {P : Program} {w : World} {sp : Nat → Bool} {held : Bool}
/-- A slice whose elements can be read: as a list. -/
theorem open_sl {α : Type} {enc : α → List Value} {size : Nat} {G : α → Prop} {t e : TypeId} {fuel base : Nat} {cs : List Value} {x : DataW H × List MemPlace} (ht : P.underlying t = some (.slice e)) (hce : P.cellsOf e = size)
    (hel : ∀ (n : Nat) (cs : List Value) (y : DataW H × List MemPlace), DataW.trod enc0 P w base sp held n e cs = some y → ∃ a, cs = enc a ∧ G a)
    (h : DataW.trod enc0 P w base sp held fuel t cs = some x) : ∃ v L, cs = [v] ∧ Sl enc size w v L ∧ ∀ y ∈ L, G y := by
  rcases DataW.trod_slice ht h with ⟨h1, _⟩ | ⟨a, len, cap, elems, rest, n, _, h1, _, _, hlc, hm, hlen, hel2, _, _⟩
  · exact ⟨_, [], h1, Sl.nil _ _ _, fun x hx => by cases hx⟩
  · have each : ∀ i, i < len → ∃ y : α, G y ∧ ∀ j u, (enc y)[j]? = some u → w.cell? (a.add (i * size + j)) = some u := by
      intro i hi
      have h2 := hel2 i hi
      rw [hce, List.getElem?_eq_getElem (by omega : i < elems.length), Option.bind_eq_some_iff] at h2
      obtain ⟨cs2, hcs, htr⟩ := h2
      obtain ⟨_, hcl, hcell⟩ := World.cells?_some hcs
      obtain ⟨y, rfl, hG⟩ := hel _ _ _ htr
      refine ⟨y, hG, fun j u hj => ?_⟩
      have hjl : j < size := by
        rw [← hcl]
        exact (List.getElem?_eq_some_iff.1 hj).1
      rw [← hj, ← hcell j hjl, add_add]
    refine ⟨_, (List.range len).pmap (fun i hi => Classical.choose (each i hi)) (fun i hi => List.mem_range.1 hi), h1, ⟨⟨some a, cap, by simp, by simp; exact hlc, hm, fun q => by cases q⟩, fun i hi => ?_⟩, fun y hy => ?_⟩
    · have hil : i < len := by simpa using hi
      intro j u hu2
      rw [List.getElem_pmap] at hu2
      simp only [List.getElem_range] at hu2
      show w.cell? ((a.add (i * size)).add j) = _
      rw [add_add]
      exact (Classical.choose_spec (each i hil)).2 j u hu2
    · obtain ⟨i, hi, rfl⟩ := List.mem_pmap.1 hy
      exact (Classical.choose_spec (each i (List.mem_range.1 hi))).1
end
section
variable {H : Type} {enc0 : TypeId × Value → H} {w : World} {sp : Nat → Bool} {held : Bool}
theorem list3 {α : Type} {l : List α} (h : l.length = 3) : ∃ a b c, l = [a, b, c] := by
  match l, h with
  | [a, b, c], _ => exact ⟨a, b, c, rfl⟩
theorem cb_bool : Tryz.prog.cellsOf 4 = 1 := by kernel_rfl
theorem cb_string : Tryz.prog.cellsOf 9 = 1 := by kernel_rfl
theorem cb_rat : Tryz.prog.cellsOf 49 = 3 := by kernel_rfl
/-- How long a number's texts can be. -/
def rok (r : RR) : Prop := r.num.size ≤ maxLen ∧ r.den.size ≤ maxLen
theorem open_ratc {n base : Nat} {cs : List Value} {y : DataW H × List MemPlace} (h : DataW.trod enc0 Tryz.prog w base sp held n 49 cs = some y) : ∃ r : RR, cs = encR r ∧ rok r := by
  obtain ⟨xs, m, _, _, hl, hxl, hf⟩ := DataW.trod_struct Tryz.underlying49 h
  rw [cb_rat] at hl
  obtain ⟨u0, u1, u2, rfl⟩ := list3 hl
  have h3 : xs.length = 3 := hxl
  have h0 : DataW.trod enc0 Tryz.prog w base sp held m 4 (([u0, u1, u2].drop 0).take (Tryz.prog.cellsOf 4)) = xs[0]? := hf 0 _ rfl
  have h1 : DataW.trod enc0 Tryz.prog w base sp held m 9 (([u0, u1, u2].drop 1).take (Tryz.prog.cellsOf 9)) = xs[1]? := hf 1 _ rfl
  have h2 : DataW.trod enc0 Tryz.prog w base sp held m 9 (([u0, u1, u2].drop 2).take (Tryz.prog.cellsOf 9)) = xs[2]? := hf 2 _ rfl
  rw [cb_bool, List.getElem?_eq_getElem (by omega)] at h0
  rw [cb_string, List.getElem?_eq_getElem (by omega)] at h1 h2
  obtain ⟨b, e0, _⟩ := DataW.trod_bool Tryz.underlying4 h0
  obtain ⟨s, e1, _, hs⟩ := DataW.trod_string Tryz.underlying9 h1
  obtain ⟨d, e2, _, hd⟩ := DataW.trod_string Tryz.underlying9 h2
  obtain rfl : u0 = .bool b := (List.cons.inj e0).1
  obtain rfl : u1 = .string s := (List.cons.inj e1).1
  obtain rfl : u2 = .string d := (List.cons.inj e2).1
  exact ⟨⟨b, s, d⟩, rfl, hs, hd⟩
/-- An argument of type []api.Rat. -/
theorem open_rats {v : Value} {d : DataW H} {ps : List MemPlace} (hval : ∃ a n c, v = .slice a n c) (h : DataW.Trod enc0 Tryz.prog w 0 (fun _ => true) true 23 v d ps) : ∃ L : List RR, Sl encR 3 w v L ∧ ∀ r ∈ L, rok r := by
  obtain ⟨a, n, c, rfl⟩ := hval
  obtain ⟨fuel, hf⟩ := h
  obtain ⟨v, L, e, hS, hG⟩ := open_sl (enc := encR) (G := rok) Tryz.underlying23 cb_rat (fun _ _ _ h => open_ratc h) hf
  simp only [Value.cells, List.cons.injEq, and_true] at e
  rw [e]
  exact ⟨L, hS, hG⟩
end
end Go.Proofs.YtblfipdfklpmmaaGreatDoor
namespace Go.Proofs.YtblfipdfklpmmaaGreatDoor
open Go Go.RowKit Go.Sx Go.ChangeShapes Go.WideShapes
section
variable {H : Type} {enc0 : TypeId × Value → H} {w : World} {sp : Nat → Bool} {held : Bool}
theorem cb_rats : Tryz.prog.cellsOf 23 = 1 := by kernel_rfl
theorem open_ratsc {n base : Nat} {cs : List Value} {y : DataW H × List MemPlace} (h : DataW.trod enc0 Tryz.prog w base sp held n 23 cs = some y) : ∃ p : List RR × Value, cs = enV p.2 ∧ Sl encR 3 w p.2 p.1 := by
  obtain ⟨v, L, e, hS, _⟩ := open_sl (enc := encR) (G := rok) Tryz.underlying23 cb_rat (fun _ _ _ h => open_ratc h) h
  exact ⟨(L, v), e, hS⟩
/-- An argument of type [][]api.Rat. -/
theorem open_mats {v : Value} {d : DataW H} {ps : List MemPlace} (hval : ∃ a n c, v = .slice a n c) (h : DataW.Trod enc0 Tryz.prog w 0 (fun _ => true) true 22 v d ps) : ∃ (A : List (List RR)) (vs : List Value), Mts encR 3 w v A vs := by
  obtain ⟨a, n, c, rfl⟩ := hval
  obtain ⟨fuel, hf⟩ := h
  obtain ⟨v, L, e, hS, hG⟩ := open_sl (enc := fun p : List RR × Value => enV p.2) (size := 1) (G := fun p => Sl encR 3 w p.2 p.1) Tryz.underlying22 cb_rats (fun _ _ _ h => open_ratsc h) hf
  simp only [Value.cells, List.cons.injEq, and_true] at e
  rw [e]
  have hS2 : Sl enV 1 w v (L.map (·.2)) := by
    refine ⟨by rw [List.length_map]; exact hS.form, fun i hi => ?_⟩
    rw [List.length_map] at hi
    rw [List.getElem_map]
    exact hS.elt i hi
  refine ⟨L.map (·.1), L.map (·.2), by rw [List.length_map, List.length_map], hS2, fun i hi => ?_⟩
  rw [List.length_map] at hi
  have := hG L[i] (List.getElem_mem hi)
  rw [List.getD_eq_getElem?_getD, List.getD_eq_getElem?_getD, List.getElem?_map, List.getElem?_map, List.getElem?_eq_getElem hi]
  exact this
end
end Go.Proofs.YtblfipdfklpmmaaGreatDoor
namespace Go.Proofs.YtblfipdfklpmmaaGreatDoor
open Go Go.RowKit Go.Sx
theorem sol_iff {n : Nat} {q : Mx} (hn : 1 ≤ n) : ((rdc n q (n + 1)).P.length < n ∨ n ≤ (rdc n q (n + 1)).P.getD ((rdc n q (n + 1)).P.length - 1) 0) ↔ (rdc n q n).P.length ≠ n := by
  have hI := rinv n q n
  have hI1 := rinv n q (n + 1)
  have hl1 := hI1.len
  constructor
  · intro h hf
    have e : rdc n q (n + 1) = rdc n q n := rdc_full (by omega) 1
    rw [e] at h
    rcases h with h | h
    · omega
    · have := hI.lt _ (getD_mem (rdc n q n).P ((rdc n q n).P.length - 1) 0 (by omega))
      omega
  · intro h
    by_cases h1 : (rdc n q (n + 1)).P.length < n
    · exact .inl h1
    · right
      have hP := rdc_P n n q
      by_cases g : pv (rdc n q n).M n n (rdc n q n).P.length < n
      · rw [if_pos g] at hP
        rw [hP, List.length_append, List.length_singleton, Nat.add_sub_cancel, getD_app, if_neg (Nat.lt_irrefl _), if_pos rfl]
        exact Nat.le_refl _
      · rw [if_neg g] at hP
        rw [hP] at h1
        have := rdc_len n q n
        omega
theorem sol_val {n : Nat} {q : Mx} (h : (rdc n q n).P.length = n) : rdc n q (n + 1) = rdc n q n := rdc_full (by omega) 1
set_option maxHeartbeats 4000000 in
theorem rSolution_ok (v vb_ : Value) (n : Nat) (M : Mx) (vs : List Value) (x : Nat → Rat) (K : Nat) (w : World) (hA : Mts encR 3 w v (tabM n n (qM M)) vs) (hX : Sl encR 3 w vb_ (tab n fun j => ofQ (x j))) (hn1 : 1 ≤ n) (hn : n ≤ 16) (hL : ∀ i, i < n → ∀ j, j < n → L (M i j) ≤ K) (hLx : ∀ i, i < n → L (x i) ≤ K) (hK : 8 * BB K 16 ≤ MX) (q : Mx) (hq : q = fun i j => if j < n then M i j else if j = n then x i else 0) :
    Ret Tryz.prog 39 #[v, vb_] w fun r w' => (∃ v', r = .tuple #[v', .bool (decide ((rdc n q n).P.length = n))] ∧ ((rdc n q n).P.length = n → Sl encR 3 w' v' (tab n fun i => ofQ ((rdc n q n).M i n)))) ∧ Below w.heap.size w w' := by
  have hM : MX = 1099511627776 := rfl
  have hlen := hA.len
  rw [tabM_len] at hlen
  have hxl := tab_len n fun j => ofQ (x j)
  have hS := St.init w
  have hrow : ∀ i, (tab n (qM M i)) ++ [ofQ (x i)] = tab (n + 1) (qM q i) := fun i => by
    rw [tab_succ, hq]
    congr 1
    · exact tab_congr fun j hj => by show ofQ (M i j) = ofQ (if j < n then M i j else _); rw [if_pos hj]
    · show [ofQ (x i)] = [ofQ (if n < n then _ else if n = n then x i else 0)]
      rw [if_neg (Nat.lt_irrefl _), if_pos rfl]
  have hLq : ∀ i, i < n → ∀ j, j < n + 1 → L (q i j) ≤ K := fun i hi j hj => by
    rw [hq]
    show L (if j < n then M i j else if j = n then x i else 0) ≤ K
    by_cases h : j < n
    · rw [if_pos h]; exact hL i hi j h
    · rw [if_neg h, if_pos (by omega)]; exact hLx i hi
  refine enter Tryz.func39 rfl Tryz.ntmps39 rfl ?_
  repeat (with_reducible first | refine c_seq ?_ | refine c_block ?_ | refine c_skip ?_ | refine x_then ?_ | refine x_block ?_)
  refine c_reg ?_
  refine l_pure rfl (s_asg  rfl ?_)
  refine l_pure rfl (s_asg  rfl ?_)
  refine l_nil ?_
  repeat (with_reducible first | refine c_seq ?_ | refine c_block ?_ | refine c_skip ?_ | refine x_then ?_ | refine x_block ?_)
  refine c_reg ?_
  refine l_pure rfl (s_asg  rfl ?_)
  refine l_nil ?_
  repeat (with_reducible first | refine c_seq ?_ | refine c_block ?_ | refine c_skip ?_ | refine x_then ?_ | refine x_block ?_)
  refine c_reg ?_
  refine l_pure rfl (s_asg  rfl ?_)
  refine l_nil ?_
  repeat (with_reducible first | refine c_seq ?_ | refine c_skip ?_ | refine x_then ?_ | refine x_block ?_)
  refine c_cut1 (fun ρ w' => ρ 0 = v ∧ ∃ bo cap so R, ρ 6 = .slice (some ⟨bo, 0, none⟩) n cap ∧ n ≤ cap ∧ cap ≤ 9223372036854775807 ∧ MatG R n (n + 1) (qM q) ∧ St w w' (mD encR 49 23 bo (R.map Rw.v ++ so) R [])) ?_ ?_
  · repeat (with_reducible first | refine c_seq ?_ | refine c_block ?_ | refine c_skip ?_ | refine x_then ?_ | refine x_block ?_)
    refine c_loop (σ := Nat) (fun i ρ w' => i ≤ n ∧ ρ 0 = v ∧ ρ 1 = vb_ ∧ ρ 7 = .int .i64 i ∧ ∃ vo LO R, ρ 6 = vo ∧ MatG R i (n + 1) (qM q) ∧ Gl enV 23 1 vo (R.map Rw.v) LO ∧ St w w' (R.map (Rw.blk encR 49) ++ LO)) (fun i => n - i) 0
      ⟨Nat.zero_le _, rfl, rfl, rfl, _, [], [], rfl, ⟨rfl, fun i hi => absurd hi (Nat.not_lt_zero _), fun i hi => absurd hi (Nat.not_lt_zero _)⟩, Gl.nil _ _ _, hS⟩ ?_
    clear hS
    rintro i ρ w2 ⟨hi, h0, h1, h7, vo, LO, R, h6, hR, hG, hS⟩
    have hvl : (R.map Rw.v).length = i := by rw [List.length_map, hR.len]
    repeat (with_reducible first | refine c_seq ?_ | refine c_block ?_ | refine c_skip ?_ | refine x_then ?_ | refine x_block ?_)
    refine c_reg ?_
    refine l_pure rfl (s_move  h7 ?_)
    refine l_pure rfl (s_move  h0 ?_)
    refine l_pure rfl (s_lenr  rfl (hA.sl.below hS.below) ⟨_, Tryz.underlying22⟩ ?_)
    refine l_pure rfl (s_lss  rfl rfl ?_)
    refine l_nil ?_
    repeat (with_reducible first | refine c_seq ?_ | refine c_block ?_ | refine c_skip ?_ | refine x_then ?_ | refine x_block ?_)
    by_cases hlt : i < n
    · refine c_yes rfl (decide_eq_true (by omega)) ?_
      repeat (with_reducible first | refine c_seq ?_ | refine c_block ?_ | refine c_skip ?_ | refine x_then ?_ | refine x_block ?_)
      have hri := hA.row i (by rw [tabM_len]; exact hlt)
      rw [tabM_row _ hlt] at hri
      have hrl := tab_len n (qM M i)
      have hgx : (tab n fun j => ofQ (x j)).getD i zRR = ofQ (x i) := tab_get _ _ hlt
      repeat (with_reducible first | refine c_seq ?_ | refine c_block ?_ | refine c_skip ?_ | refine x_then ?_ | refine x_block ?_)
      refine c_all 15 [(0, .pure), (1, .pure), (2, .pure), (3, .pure), (4, .read), (5, .grow), (6, .pure), (7, .pure), (8, .pure), (9, .read), (10, .grow), (11, .free), (12, .grow), (13, .free), (14, .pure)] (by kernel_rfl) (by kernel_rfl) hS ?_
      intro wz1 hS hBz1
      refine z_pure (i := 0) (U' := [(1, .pure), (2, .pure), (3, .pure), (4, .read), (5, .grow), (6, .pure), (7, .pure), (8, .pure), (9, .read), (10, .grow), (11, .free), (12, .grow), (13, .free), (14, .pure)]) (by kernel_rfl) (by kernel_rfl) rfl rfl (s_move  h6 ?_)
      refine z_pure (i := 1) (U' := [(2, .pure), (3, .pure), (4, .read), (5, .grow), (6, .pure), (7, .pure), (8, .pure), (9, .read), (10, .grow), (11, .free), (12, .grow), (13, .free), (14, .pure)]) (by kernel_rfl) (by kernel_rfl) rfl rfl (s_move  h0 ?_)
      refine z_pure (i := 2) (U' := [(3, .pure), (4, .read), (5, .grow), (6, .pure), (7, .pure), (8, .pure), (9, .read), (10, .grow), (11, .free), (12, .grow), (13, .free), (14, .pure)]) (by kernel_rfl) (by kernel_rfl) rfl rfl (s_move  h7 ?_)
      refine z_pure (i := 3) (U' := [(4, .read), (5, .grow), (6, .pure), (7, .pure), (8, .pure), (9, .read), (10, .grow), (11, .free), (12, .grow), (13, .free), (14, .pure)]) (by kernel_rfl) (by kernel_rfl) rfl rfl (s_ixr (i := i)  rfl rfl (hA.sl.below hS.below) (by omega) (by first | omega | (simp; done) | (simp; omega)) si_22 ?_)
      refine z_read (i := 4) (U' := [(5, .grow), (6, .pure), (7, .pure), (8, .pure), (9, .read), (10, .grow), (11, .free), (12, .grow), (13, .free), (14, .pure)]) (by kernel_rfl) (by kernel_rfl) rfl rfl (s_lde (i := i) undef  rfl vi_23 (hA.sl.below hS.below) (by first | omega | (simp; done) | (simp; omega)) rfl rfl (.inr rfl) ?_)
      refine z_pure (i := 6) (U' := [(5, .grow), (7, .pure), (8, .pure), (9, .read), (10, .grow), (11, .free), (12, .grow), (13, .free), (14, .pure)]) (by kernel_rfl) (by kernel_rfl) rfl rfl (s_move  h1 ?_)
      refine z_pure (i := 7) (U' := [(5, .grow), (8, .pure), (9, .read), (10, .grow), (11, .free), (12, .grow), (13, .free), (14, .pure)]) (by kernel_rfl) (by kernel_rfl) rfl rfl (s_move  h7 ?_)
      refine z_pure (i := 8) (U' := [(5, .grow), (9, .read), (10, .grow), (11, .free), (12, .grow), (13, .free), (14, .pure)]) (by kernel_rfl) (by kernel_rfl) rfl rfl (s_ixr (i := i)  rfl rfl (hX.below hS.below) (by omega) (by first | omega | (simp; done) | (simp; omega)) si_23 ?_)
      refine z_read (i := 9) (U' := [(5, .grow), (10, .grow), (11, .free), (12, .grow), (13, .free), (14, .pure)]) (by kernel_rfl) (by kernel_rfl) rfl rfl (s_lde (i := i) zRR  rfl vi_49 (hX.below hS.below) (by first | omega | (simp; done) | (simp; omega)) rfl rfl (.inl rfl) ?_)
      rw [hgx]
      refine z_two (x := (5, .grow)) (y := (10, .grow)) (U' := [(10, .grow), (11, .free), (12, .grow), (13, .free), (14, .pure)]) (U'' := [(5, .grow), (11, .free), (12, .grow), (13, .free), (14, .pure)]) (by kernel_rfl) (by kernel_rfl) (by kernel_rfl) ?_ ?_
      · refine z_grow rfl rfl (s_appn  rfl rfl si_23 (by decide) hS (hri.below hS.below) encR_len (encR_one _) (by first | omega | (simp only [List.length_cons, List.length_nil]; omega)) (by first | omega | (simp only [List.length_cons, List.length_nil]; omega)) ?_)
        intro va2 La2 wa2 hGa hS hBa2
        refine ⟨hBa2, ?_⟩
        refine z_one (x := (10, .grow)) (U' := [(11, .free), (12, .grow), (13, .free), (14, .pure)]) (by kernel_rfl) (by kernel_rfl) ?_
        refine z_grow rfl rfl (s_bsl (vs := [aggR (ofQ (x i))])  rfl si_23 rfl (by decide) (by decide) (by decide) (by simp [Value.cells, aggR]) rfl hS ?_)
        intro b28 wz3 hS hBz3
        refine ⟨hBz3, ?_⟩
        refine z_one (x := (11, .free)) (U' := [(12, .grow), (13, .free), (14, .pure)]) (by kernel_rfl) (by kernel_rfl) ?_
        refine z_free rfl rfl (s_appl [ofQ (x i)]  rfl rfl si_23 (by decide) hGa hS rfl rfl encR_len (encR_one [ofQ (x i)]) (by first | omega | (simp only [List.length_cons, List.length_nil]; omega)) (by first | omega | (simp only [List.length_cons, List.length_nil]; omega)) ?_)
        intro va4 La4 wa4 hGa hS hga4
        rw [hrow i] at hGa
        obtain ⟨nr, hX', rfl, rfl, hc1, hc2, _⟩ := Gl_blk hGa (by intro e; have := congrArg List.length e; rw [tab_len] at this; simp at this)
        replace hS := hS.perm (perm_row (R.map (Rw.blk encR 49)) LO (nr.blk encR 49))
        have hR2 := MatG_snoc hR hX' ⟨by rw [hX', tab_len] at hc1; exact hc1, hc2⟩
        refine z_one (x := (12, .grow)) (U' := [(13, .free), (14, .pure)]) (by kernel_rfl) (by kernel_rfl) ?_
        refine z_grow rfl rfl (s_bsl (vs := [nr.v])  rfl si_22 rfl (by decide) (by decide) (by decide) (by simp [Value.cells, Rw.v]) rfl hS ?_)
        intro b30 wz5 hS hBz5
        refine ⟨hBz5, ?_⟩
        refine z_one (x := (13, .free)) (U' := [(14, .pure)]) (by kernel_rfl) (by kernel_rfl) ?_
        refine z_free rfl rfl (s_appl [nr.v]  rfl rfl si_22 (by decide) hG hS rfl rfl (fun _ => rfl) (fun u hu => by rw [List.mem_singleton.1 (show u ∈ [nr.v] from hu)]; rfl) (by first | omega | (simp only [List.length_cons, List.length_nil]; omega)) (by first | omega | (simp only [List.length_cons, List.length_nil]; omega)) ?_)
        intro va6 La6 wa6 hG hS hga6
        refine z_pure (i := 14) (U' := []) (by kernel_rfl) (by kernel_rfl) rfl rfl (s_asg  rfl ?_)
        refine z_end ?_
        repeat (with_reducible first | refine c_seq ?_ | refine c_block ?_ | refine c_skip ?_ | refine x_then ?_ | refine x_block ?_)
        rw [show R.map Rw.v ++ [nr.v] = (R ++ [nr]).map Rw.v by rw [List.map_append]; rfl] at hG
        have eb : ∀ T : List Blk, (nr.blk encR 49 :: R.map (Rw.blk encR 49) ++ T).Perm ((R ++ [nr]).map (Rw.blk encR 49) ++ T) := by
          intro T
          rw [List.map_append]
          exact List.Perm.append_right _ (List.perm_append_singleton _ _).symm
        replace hS := hS.perm (eb _)
        repeat (with_reducible first | refine c_seq ?_ | refine c_block ?_ | refine c_skip ?_ | refine x_then ?_ | refine x_block ?_)
        refine c_reg ?_
        refine l_pure rfl (s_move  h7 ?_)
        refine l_pure rfl (s_add  rfl rfl (IntWalk.i64_in _ (by omega)) ?_)
        refine l_pure rfl (s_asg  rfl ?_)
        refine l_nil ?_
        repeat (with_reducible first | refine c_seq ?_ | refine c_block ?_ | refine c_skip ?_ | refine x_then ?_ | refine x_block ?_)
        exact ⟨i + 1, _, rfl, ⟨hlt, by assumption, by assumption, vi rfl (by omega), _, _, R ++ [nr], rfl, hR2, hG, hS⟩, by omega⟩
      · refine z_grow rfl rfl (s_bsl (vs := [aggR (ofQ (x i))])  rfl si_23 rfl (by decide) (by decide) (by decide) (by simp [Value.cells, aggR]) rfl hS ?_)
        intro b28 wz7 hS hBz7
        refine ⟨hBz7, ?_⟩
        refine z_one (x := (5, .grow)) (U' := [(11, .free), (12, .grow), (13, .free), (14, .pure)]) (by kernel_rfl) (by kernel_rfl) ?_
        refine z_grow rfl rfl (s_appn  rfl rfl si_23 (by decide) hS (hri.below hS.below) encR_len (encR_one _) (by first | omega | (simp only [List.length_cons, List.length_nil]; omega)) (by first | omega | (simp only [List.length_cons, List.length_nil]; omega)) ?_)
        intro va8 La8 wa8 hGa hS hBa8
        refine ⟨hBa8, ?_⟩
        refine z_one (x := (11, .free)) (U' := [(12, .grow), (13, .free), (14, .pure)]) (by kernel_rfl) (by kernel_rfl) ?_
        refine z_free rfl rfl (s_appl [ofQ (x i)]  rfl rfl si_23 (by decide) hGa hS rfl rfl encR_len (encR_one [ofQ (x i)]) (by first | omega | (simp only [List.length_cons, List.length_nil]; omega)) (by first | omega | (simp only [List.length_cons, List.length_nil]; omega)) ?_)
        intro va9 La9 wa9 hGa hS hga9
        rw [hrow i] at hGa
        obtain ⟨nr, hX', rfl, rfl, hc1, hc2, _⟩ := Gl_blk hGa (by intro e; have := congrArg List.length e; rw [tab_len] at this; simp at this)
        replace hS := hS.perm (perm_row (R.map (Rw.blk encR 49)) LO (nr.blk encR 49))
        have hR2 := MatG_snoc hR hX' ⟨by rw [hX', tab_len] at hc1; exact hc1, hc2⟩
        refine z_one (x := (12, .grow)) (U' := [(13, .free), (14, .pure)]) (by kernel_rfl) (by kernel_rfl) ?_
        refine z_grow rfl rfl (s_bsl (vs := [nr.v])  rfl si_22 rfl (by decide) (by decide) (by decide) (by simp [Value.cells, Rw.v]) rfl hS ?_)
        intro b30 wz10 hS hBz10
        refine ⟨hBz10, ?_⟩
        refine z_one (x := (13, .free)) (U' := [(14, .pure)]) (by kernel_rfl) (by kernel_rfl) ?_
        refine z_free rfl rfl (s_appl [nr.v]  rfl rfl si_22 (by decide) hG hS rfl rfl (fun _ => rfl) (fun u hu => by rw [List.mem_singleton.1 (show u ∈ [nr.v] from hu)]; rfl) (by first | omega | (simp only [List.length_cons, List.length_nil]; omega)) (by first | omega | (simp only [List.length_cons, List.length_nil]; omega)) ?_)
        intro va11 La11 wa11 hG hS hga11
        refine z_pure (i := 14) (U' := []) (by kernel_rfl) (by kernel_rfl) rfl rfl (s_asg  rfl ?_)
        refine z_end ?_
        repeat (with_reducible first | refine c_seq ?_ | refine c_block ?_ | refine c_skip ?_ | refine x_then ?_ | refine x_block ?_)
        rw [show R.map Rw.v ++ [nr.v] = (R ++ [nr]).map Rw.v by rw [List.map_append]; rfl] at hG
        have eb : ∀ T : List Blk, (nr.blk encR 49 :: R.map (Rw.blk encR 49) ++ T).Perm ((R ++ [nr]).map (Rw.blk encR 49) ++ T) := by
          intro T
          rw [List.map_append]
          exact List.Perm.append_right _ (List.perm_append_singleton _ _).symm
        replace hS := hS.perm (eb _)
        repeat (with_reducible first | refine c_seq ?_ | refine c_block ?_ | refine c_skip ?_ | refine x_then ?_ | refine x_block ?_)
        refine c_reg ?_
        refine l_pure rfl (s_move  h7 ?_)
        refine l_pure rfl (s_add  rfl rfl (IntWalk.i64_in _ (by omega)) ?_)
        refine l_pure rfl (s_asg  rfl ?_)
        refine l_nil ?_
        repeat (with_reducible first | refine c_seq ?_ | refine c_block ?_ | refine c_skip ?_ | refine x_then ?_ | refine x_block ?_)
        exact ⟨i + 1, _, rfl, ⟨hlt, by assumption, by assumption, vi rfl (by omega), _, _, R ++ [nr], rfl, hR2, hG, hS⟩, by omega⟩
    · refine c_no rfl (decide_eq_false (by omega)) ?_
      repeat (with_reducible first | refine c_seq ?_ | refine c_block ?_ | refine c_skip ?_ | refine x_then ?_ | refine x_block ?_)
      refine c_exit ?_
      repeat (with_reducible first | refine x_then_exit ?_ | refine x_block_exit ?_ | refine x_block_pass rfl ?_)
      repeat (with_reducible first | refine c_seq ?_ | refine c_block ?_ | refine c_skip ?_ | refine x_then ?_ | refine x_block ?_)
      obtain rfl : n = i := by omega
      obtain ⟨_, ⟨_, h2, _⟩ | ⟨bo, cap, so, rfl, rfl, h5', h6', _⟩⟩ := hG
      · omega
      · rw [enV_flat] at hS
        rw [hvl] at h6 h5'
        refine ⟨_, rfl, h0, bo, cap, so, R, h6, h5', by unfold Go.maxLen at h6'; omega, hR, hS.perm ?_⟩
        unfold mD
        rw [List.append_nil]
        exact List.perm_append_singleton _ _
  clear hS
  rintro ρ w2 ⟨h0, bo, cap, so, R, h6, hc1, hc2, hR, hS⟩
  have hmt := hR.mtsD [] hS encR_len hc1 hc2
  repeat (with_reducible first | refine c_seq ?_ | refine c_block ?_ | refine c_skip ?_ | refine x_then ?_ | refine x_block ?_)
  refine c_reg ?_
  refine l_pure rfl (s_move  h6 ?_)
  refine l_pure rfl (s_leno  rfl ⟨_, Tryz.underlying22⟩ ?_)
  refine l_pure rfl (s_eql  rfl rfl ?_)
  refine l_nil ?_
  repeat (with_reducible first | refine c_seq ?_ | refine c_block ?_ | refine c_skip ?_ | refine x_then ?_ | refine x_block ?_)
  refine c_no rfl (decide_eq_false (by omega)) ?_
  repeat (with_reducible first | refine c_seq ?_ | refine c_block ?_ | refine c_skip ?_ | refine x_then ?_ | refine x_block ?_)
  refine c_reg ?_
  refine l_pure rfl (s_move  h6 ?_)
  refine l_heavy rfl (s_call Tryz.call47 rfl (rechelon_ok _ n (n + 1) q _ K _ hmt hn1 (by omega) (by omega) (by omega) hLq (BB_ok hK hn)) ?_)
  rintro r w3 ⟨⟨vm, vs', vp, rfl, hm, hp⟩, hB3⟩
  replace hS := hS.grow hB3
  refine l_pure rfl (s_move  rfl ?_)
  refine l_pure rfl (s_ext  rfl rfl ?_)
  refine l_pure rfl (s_ext  rfl rfl ?_)
  refine l_pure rfl (s_asg  rfl ?_)
  refine l_pure rfl (s_asg  rfl ?_)
  refine l_nil ?_
  repeat (with_reducible first | refine c_seq ?_ | refine c_block ?_ | refine c_skip ?_ | refine x_then ?_ | refine x_block ?_)
  have hI1 := rinv n q (n + 1)
  have hl1 := hI1.len
  have hsol := sol_iff (q := q) hn1
  obtain ⟨s, hs⟩ : ∃ s, s = rdc n q (n + 1) := ⟨_, rfl⟩
  rw [← hs] at hm hp hI1 hl1 hsol
  have hpl := nI_len s.P
  by_cases hlt : s.P.length < n
  · have hnf : (rdc n q n).P.length ≠ n := hsol.1 (.inl hlt)
    repeat (with_reducible first | refine c_seq ?_ | refine c_block ?_ | refine c_skip ?_ | refine x_then ?_ | refine x_block ?_)
    refine c_reg ?_
    refine l_pure rfl (s_move  rfl ?_)
    refine l_pure rfl (s_lenr  rfl (hp.below (Below.refl _ _)) ⟨_, Tryz.underlying40⟩ ?_)
    refine l_pure rfl (s_move  h0 ?_)
    refine l_pure rfl (s_lenr  rfl (hA.sl.below hS.below) ⟨_, Tryz.underlying22⟩ ?_)
    refine l_pure rfl (s_lss  rfl rfl ?_)
    refine l_pure rfl (s_move  rfl ?_)
    refine l_no (gno_yes 45 (by kernel_rfl) rfl (decide_eq_true (by omega))) ?_
    refine l_no (gno_yes 45 (by kernel_rfl) rfl (decide_eq_true (by omega))) ?_
    refine l_no (gno_yes 45 (by kernel_rfl) rfl (decide_eq_true (by omega))) ?_
    refine l_no (gno_yes 45 (by kernel_rfl) rfl (decide_eq_true (by omega))) ?_
    refine l_no (gno_yes 45 (by kernel_rfl) rfl (decide_eq_true (by omega))) ?_
    refine l_no (gno_yes 45 (by kernel_rfl) rfl (decide_eq_true (by omega))) ?_
    refine l_no (gno_yes 45 (by kernel_rfl) rfl (decide_eq_true (by omega))) ?_
    refine l_no (gno_yes 45 (by kernel_rfl) rfl (decide_eq_true (by omega))) ?_
    refine l_no (gno_yes 45 (by kernel_rfl) rfl (decide_eq_true (by omega))) ?_
    refine l_pure rfl (s_pick (vb rfl (decide_eq_true (by omega))) rfl ?_)
    refine l_nil ?_
    repeat (with_reducible first | refine c_seq ?_ | refine c_block ?_ | refine c_skip ?_ | refine x_then ?_ | refine x_block ?_)
    refine c_yes rfl (rfl) ?_
    repeat (with_reducible first | refine c_seq ?_ | refine c_block ?_ | refine c_skip ?_ | refine x_then ?_ | refine x_block ?_)
    refine c_reg ?_
    refine l_pure rfl (s_asg  rfl ?_)
    refine l_pure rfl (s_asg  rfl ?_)
    refine l_nil ?_
    repeat (with_reducible first | refine c_seq ?_ | refine c_block ?_ | refine c_skip ?_ | refine x_then ?_ | refine x_block ?_)
    refine c_ret ?_
    repeat (with_reducible first | refine x_then_ret ?_ | refine x_block_ret ?_)
    refine r_two rfl rfl rfl ?_
    exact ⟨⟨_, by rw [decide_eq_false hnf]; rfl, fun h => absurd h hnf⟩, hS.below⟩
  have hpv : (nI s.P).getD (s.P.length - 1) 0 = ((s.P.getD (s.P.length - 1) 0 : Nat) : Int) := by
    unfold nI
    rw [getD_ge _ _ (by rw [List.length_map]; omega), List.getElem_map, getD_ge s.P 0 (by omega)]
  repeat (with_reducible first | refine c_seq ?_ | refine c_block ?_ | refine c_skip ?_ | refine x_then ?_ | refine x_block ?_)
  refine c_reg ?_
  refine l_pure rfl (s_move  rfl ?_)
  refine l_pure rfl (s_lenr  rfl (hp.below (Below.refl _ _)) ⟨_, Tryz.underlying40⟩ ?_)
  refine l_pure rfl (s_move  h0 ?_)
  refine l_pure rfl (s_lenr  rfl (hA.sl.below hS.below) ⟨_, Tryz.underlying22⟩ ?_)
  refine l_pure rfl (s_lss  rfl rfl ?_)
  refine l_pure rfl (s_move  rfl ?_)
  refine l_pure (gd_yes 45 (by kernel_rfl) rfl (decide_eq_false (by omega))) (s_move  rfl ?_)
  refine l_pure (gd_yes 45 (by kernel_rfl) rfl (decide_eq_false (by omega))) (s_move  rfl ?_)
  refine l_pure (gd_yes 45 (by kernel_rfl) rfl (decide_eq_false (by omega))) (s_lenr  rfl (hp.below (Below.refl _ _)) ⟨_, Tryz.underlying40⟩ ?_)
  refine l_pure (gd_yes 45 (by kernel_rfl) rfl (decide_eq_false (by omega))) (s_sub  rfl rfl (IntWalk.i64_in _ (by omega)) ?_)
  refine l_pure (gd_yes 45 (by kernel_rfl) rfl (decide_eq_false (by omega))) (s_ixr (i := (s.P.length - 1))  rfl rfl (hp.below (Below.refl _ _)) (by omega) (by first | omega | (simp; done) | (simp; omega)) si_40 ?_)
  refine l_read (gd_yes 45 (by kernel_rfl) rfl (decide_eq_false (by omega))) (s_lde (i := (s.P.length - 1)) 0  rfl vi_3 (hp.below (Below.refl _ _)) (by first | omega | (simp; done) | (simp; omega)) rfl rfl (.inr rfl) ?_)
  refine l_pure (gd_yes 45 (by kernel_rfl) rfl (decide_eq_false (by omega))) (s_move  h0 ?_)
  refine l_pure (gd_yes 45 (by kernel_rfl) rfl (decide_eq_false (by omega))) (s_lenr  rfl (hA.sl.below hS.below) ⟨_, Tryz.underlying22⟩ ?_)
  refine l_pure (gd_yes 45 (by kernel_rfl) rfl (decide_eq_false (by omega))) (s_geq  rfl rfl ?_)
  refine l_pure rfl (s_pick (vb rfl (decide_eq_false (by omega))) rfl ?_)
  refine l_nil ?_
  repeat (with_reducible first | refine c_seq ?_ | refine c_block ?_ | refine c_skip ?_ | refine x_then ?_ | refine x_block ?_)
  rw [hpv]
  by_cases hge : n ≤ s.P.getD (s.P.length - 1) 0
  · have hnf : (rdc n q n).P.length ≠ n := hsol.1 (.inr hge)
    refine c_yes rfl (decide_eq_true (by omega)) ?_
    repeat (with_reducible first | refine c_seq ?_ | refine c_block ?_ | refine c_skip ?_ | refine x_then ?_ | refine x_block ?_)
    refine c_reg ?_
    refine l_pure rfl (s_asg  rfl ?_)
    refine l_pure rfl (s_asg  rfl ?_)
    refine l_nil ?_
    repeat (with_reducible first | refine c_seq ?_ | refine c_block ?_ | refine c_skip ?_ | refine x_then ?_ | refine x_block ?_)
    refine c_ret ?_
    repeat (with_reducible first | refine x_then_ret ?_ | refine x_block_ret ?_)
    refine r_two rfl rfl rfl ?_
    exact ⟨⟨_, by rw [decide_eq_false hnf]; rfl, fun h => absurd h hnf⟩, hS.below⟩
  have hfull : (rdc n q n).P.length = n := Decidable.not_not.1 fun h => (hsol.2 h).elim hlt hge
  rw [hs, sol_val hfull] at hm
  rw [decide_eq_true hfull]
  refine c_no rfl (decide_eq_false (by omega)) ?_
  repeat (with_reducible first | refine c_seq ?_ | refine c_block ?_ | refine c_skip ?_ | refine x_then ?_ | refine x_block ?_)
  refine c_reg ?_
  refine l_pure rfl (s_asg  rfl ?_)
  refine l_nil ?_
  repeat (with_reducible first | refine c_seq ?_ | refine c_block ?_ | refine c_skip ?_ | refine x_then ?_ | refine x_block ?_)
  refine c_reg ?_
  refine l_pure rfl (s_asg  rfl ?_)
  refine l_nil ?_
  repeat (with_reducible first | refine c_seq ?_ | refine c_block ?_ | refine c_skip ?_ | refine x_then ?_ | refine x_block ?_)
  refine c_loop (σ := Nat) (fun i ρ w' => i ≤ n ∧ ρ 0 = v ∧ ρ 8 = vm ∧ ρ 11 = .int .i64 i ∧ ∃ vo LO, ρ 10 = vo ∧ Gl encR 49 3 vo (tab i fun i => ofQ ((rdc n q n).M i n)) LO ∧ St w3 w' ([] ++ LO)) (fun i => n - i) 0
    ⟨Nat.zero_le _, by assumption, rfl, rfl, _, [], rfl, Gl.nil _ _ _, St.init w3⟩ ?_
  have hW := hS.below
  clear hS
  rintro i ρ w4 ⟨hi, h0, h8, h11, vo, LO, h10, hG, hS⟩
  have htl := tab_len i fun i => ofQ ((rdc n q n).M i n)
  repeat (with_reducible first | refine c_seq ?_ | refine c_block ?_ | refine c_skip ?_ | refine x_then ?_ | refine x_block ?_)
  have hml := hm.len
  rw [tabM_len] at hml
  repeat (with_reducible first | refine c_seq ?_ | refine c_block ?_ | refine c_skip ?_ | refine x_then ?_ | refine x_block ?_)
  refine c_reg ?_
  refine l_pure rfl (s_move  h11 ?_)
  refine l_pure rfl (s_move  h0 ?_)
  refine l_pure rfl (s_lenr  rfl (hA.sl.below (hW.trans (hS.below.mono hW.size))) ⟨_, Tryz.underlying22⟩ ?_)
  refine l_pure rfl (s_lss  rfl rfl ?_)
  refine l_nil ?_
  repeat (with_reducible first | refine c_seq ?_ | refine c_block ?_ | refine c_skip ?_ | refine x_then ?_ | refine x_block ?_)
  by_cases hin : i < n
  · refine c_yes rfl (decide_eq_true (by omega)) ?_
    repeat (with_reducible first | refine c_seq ?_ | refine c_block ?_ | refine c_skip ?_ | refine x_then ?_ | refine x_block ?_)
    have hri := hm.row i (by rw [tabM_len]; exact hin)
    rw [tabM_row _ hin] at hri
    have hrl := tab_len (n + 1) (qM (rdc n q n).M i)
    have hgi : (tab (n + 1) (qM (rdc n q n).M i)).getD n zRR = ofQ ((rdc n q n).M i n) := tab_get _ _ (by omega)
    repeat (with_reducible first | refine c_seq ?_ | refine c_block ?_ | refine c_skip ?_ | refine x_then ?_ | refine x_block ?_)
    refine c_reg ?_
    refine l_pure rfl (s_move  h10 ?_)
    refine l_pure rfl (s_move  h8 ?_)
    refine l_pure rfl (s_move  h11 ?_)
    refine l_pure rfl (s_ixr (i := i)  rfl rfl (hm.sl.below hS.below) (by omega) (by first | omega | (simp; done) | (simp; omega)) si_22 ?_)
    refine l_read rfl (s_lde (i := i) undef  rfl vi_23 (hm.sl.below hS.below) (by first | omega | (simp; done) | (simp; omega)) rfl rfl (.inr rfl) ?_)
    refine l_pure rfl (s_move  h0 ?_)
    refine l_pure rfl (s_lenr  rfl (hA.sl.below (hW.trans (hS.below.mono hW.size))) ⟨_, Tryz.underlying22⟩ ?_)
    refine l_pure rfl (s_ixr (i := n)  rfl rfl (hri.below hS.below) (by omega) (by first | omega | (simp; done) | (simp; omega)) si_23 ?_)
    refine l_read rfl (s_lde (i := n) zRR  rfl vi_49 (hri.below hS.below) (by first | omega | (simp; done) | (simp; omega)) rfl rfl (.inl rfl) ?_)
    rw [hgi]
    refine l_heavy rfl (s_bsl (vs := [aggR (ofQ ((rdc n q n).M i n))])  rfl si_23 rfl (by decide) (by decide) (by decide) (by simp [Value.cells, aggR]) rfl hS ?_)
    intro b71 wz12 hS hBz12
    refine l_heavy rfl (s_appl [ofQ ((rdc n q n).M i n)]  rfl rfl si_23 (by decide) hG hS rfl rfl encR_len (encR_one [ofQ ((rdc n q n).M i n)]) (by first | omega | (simp only [List.length_cons, List.length_nil]; omega)) (by first | omega | (simp only [List.length_cons, List.length_nil]; omega)) ?_)
    intro va13 La13 wa13 hG hS hga13
    refine l_pure rfl (s_asg  rfl ?_)
    refine l_nil ?_
    repeat (with_reducible first | refine c_seq ?_ | refine c_block ?_ | refine c_skip ?_ | refine x_then ?_ | refine x_block ?_)
    rw [← tab_succ (f := fun i => ofQ ((rdc n q n).M i n))] at hG
    repeat (with_reducible first | refine c_seq ?_ | refine c_block ?_ | refine c_skip ?_ | refine x_then ?_ | refine x_block ?_)
    refine c_reg ?_
    refine l_pure rfl (s_move  h11 ?_)
    refine l_pure rfl (s_add  rfl rfl (IntWalk.i64_in _ (by omega)) ?_)
    refine l_pure rfl (s_asg  rfl ?_)
    refine l_nil ?_
    repeat (with_reducible first | refine c_seq ?_ | refine c_block ?_ | refine c_skip ?_ | refine x_then ?_ | refine x_block ?_)
    exact ⟨i + 1, _, rfl, ⟨hin, by assumption, by assumption, vi rfl (by omega), _, _, rfl, hG, hS⟩, by omega⟩
  · refine c_no rfl (decide_eq_false (by omega)) ?_
    repeat (with_reducible first | refine c_seq ?_ | refine c_block ?_ | refine c_skip ?_ | refine x_then ?_ | refine x_block ?_)
    refine c_exit ?_
    repeat (with_reducible first | refine x_then_exit ?_ | refine x_block_exit ?_ | refine x_block_pass rfl ?_)
    repeat (with_reducible first | refine c_seq ?_ | refine c_block ?_ | refine c_skip ?_ | refine x_then ?_ | refine x_block ?_)
    obtain rfl : n = i := by omega
    repeat (with_reducible first | refine c_seq ?_ | refine c_block ?_ | refine c_skip ?_ | refine x_then ?_ | refine x_block ?_)
    refine c_reg ?_
    refine l_pure rfl (s_move  h10 ?_)
    refine l_pure rfl (s_asg  rfl ?_)
    refine l_pure rfl (s_asg  rfl ?_)
    refine l_nil ?_
    repeat (with_reducible first | refine c_seq ?_ | refine c_block ?_ | refine c_skip ?_ | refine x_then ?_ | refine x_block ?_)
    refine c_ret ?_
    repeat (with_reducible first | refine x_then_ret ?_ | refine x_block_ret ?_)
    refine r_two rfl rfl rfl ?_
    exact ⟨⟨vo, rfl, fun _ => hG.sl (H := []) hS encR_len⟩, hW.trans (hS.below.mono hW.size)⟩
set_option maxHeartbeats 1000000 in
theorem rSolve_ok (v vb_ : Value) (A : List (List RR)) (vs : List Value) (B : List RR) (K : Nat) (w : World) (hA : Mts encR 3 w v A vs) (hBv : Sl encR 3 w vb_ B) (hB : RBM K A) (hBB : RB K B) (hK : 8 * BB K 16 ≤ MX) :
    Ret Tryz.prog 13 #[v, vb_] w fun r w' => (∃ v', r = .tuple #[v', .int .i64 (slE A B)] ∧ Sl encR 3 w' v' (slL A B)) ∧ Below w.heap.size w w' := by
  have hM : MX = 1099511627776 := rfl
  have hBK := BB_K K 16
  have hno : slE A B ≠ 0 → slL A B = [] := fun h => if_neg h
  have hS := St.init w
  have hlen := hA.len
  have hmx := hBv.maxLen
  refine enter Tryz.func13 rfl Tryz.ntmps13 rfl ?_
  repeat (with_reducible first | refine c_seq ?_ | refine c_block ?_ | refine c_skip ?_ | refine x_then ?_ | refine x_block ?_)
  refine c_reg ?_
  refine l_pure rfl (s_asg  rfl ?_)
  refine l_pure rfl (s_asg  rfl ?_)
  refine l_nil ?_
  repeat (with_reducible first | refine c_seq ?_ | refine c_block ?_ | refine c_skip ?_ | refine x_then ?_ | refine x_block ?_)
  refine c_reg ?_
  refine l_pure rfl (s_move  rfl ?_)
  refine l_heavy rfl (s_call Tryz.call38 rfl (rshape_ok v A vs _ (hA.below hS.below)) ?_)
  rintro _ wc1 ⟨rfl, hBc1⟩
  replace hS := hS.grow hBc1
  refine l_pure rfl (s_asg  rfl ?_)
  refine l_nil ?_
  repeat (with_reducible first | refine c_seq ?_ | refine c_block ?_ | refine c_skip ?_ | refine x_then ?_ | refine x_block ?_)
  refine c_reg ?_
  refine l_pure rfl (s_move  rfl ?_)
  refine l_pure rfl (s_neq  rfl rfl ?_)
  refine l_nil ?_
  repeat (with_reducible first | refine c_seq ?_ | refine c_block ?_ | refine c_skip ?_ | refine x_then ?_ | refine x_block ?_)
  by_cases hs0 : shpE A ≠ 0
  · have he : sqE A = shpE A := if_pos hs0
    have e1 : slE A B = shpE A := by unfold slE; rw [if_pos (by rw [he]; exact hs0), he]
    refine c_yes rfl (decide_eq_true (by omega)) ?_
    repeat (with_reducible first | refine c_seq ?_ | refine c_block ?_ | refine c_skip ?_ | refine x_then ?_ | refine x_block ?_)
    refine c_reg ?_
    refine l_pure rfl (s_move  rfl ?_)
    refine l_pure rfl (s_asg  rfl ?_)
    refine l_pure rfl (s_asg  rfl ?_)
    refine l_nil ?_
    repeat (with_reducible first | refine c_seq ?_ | refine c_block ?_ | refine c_skip ?_ | refine x_then ?_ | refine x_block ?_)
    refine c_ret ?_
    repeat (with_reducible first | refine x_then_ret ?_ | refine x_block_ret ?_)
    refine r_two rfl rfl rfl ?_
    refine ⟨⟨_, by rw [e1]; rfl, ?_⟩, hS.below⟩
    rw [hno (by rw [e1]; exact hs0)]; exact Sl.nil _ _ _
  replace hs0 := Decidable.not_not.1 hs0
  obtain ⟨h1, h2, h3, h4, h5⟩ := shpE_zero hs0
  have hr0 := hA.row 0 (by omega)
  have hc0 : colsA A = (A.getD 0 []).length := rfl
  refine c_no rfl (decide_eq_false (by omega)) ?_
  repeat (with_reducible first | refine c_seq ?_ | refine c_block ?_ | refine c_skip ?_ | refine x_then ?_ | refine x_block ?_)
  by_cases hsq : A.length ≠ colsA A
  · have he : sqE A = 4 := by unfold sqE; rw [if_neg (by omega), if_pos hsq]
    have e1 : slE A B = 4 := by unfold slE; rw [if_pos (by rw [he]; decide), he]
    repeat (with_reducible first | refine c_seq ?_ | refine c_block ?_ | refine c_skip ?_ | refine x_then ?_ | refine x_block ?_)
    refine c_reg ?_
    refine l_pure rfl (s_move  rfl ?_)
    refine l_pure rfl (s_lenr  rfl (hA.sl.below hS.below) ⟨_, Tryz.underlying22⟩ ?_)
    refine l_pure rfl (s_move  rfl ?_)
    refine l_pure rfl (s_ixr (i := 0)  rfl rfl (hA.sl.below hS.below) (by omega) (by first | omega | (simp; done) | (simp; omega)) si_22 ?_)
    refine l_read rfl (s_lde (i := 0) undef  rfl vi_23 (hA.sl.below hS.below) (by first | omega | (simp; done) | (simp; omega)) rfl rfl (.inr rfl) ?_)
    refine l_pure rfl (s_lenr  rfl (hr0.below hS.below) ⟨_, Tryz.underlying23⟩ ?_)
    refine l_pure rfl (s_neq  rfl rfl ?_)
    refine l_pure rfl (s_move  rfl ?_)
    refine l_no (gno_yes 21 (by kernel_rfl) rfl (decide_eq_true (by omega))) ?_
    refine l_no (gno_yes 21 (by kernel_rfl) rfl (decide_eq_true (by omega))) ?_
    refine l_no (gno_yes 21 (by kernel_rfl) rfl (decide_eq_true (by omega))) ?_
    refine l_no (gno_yes 21 (by kernel_rfl) rfl (decide_eq_true (by omega))) ?_
    refine l_no (gno_yes 21 (by kernel_rfl) rfl (decide_eq_true (by omega))) ?_
    refine l_pure rfl (s_pick (vb rfl (decide_eq_true (by omega))) rfl ?_)
    refine l_nil ?_
    repeat (with_reducible first | refine c_seq ?_ | refine c_block ?_ | refine c_skip ?_ | refine x_then ?_ | refine x_block ?_)
    refine c_yes rfl (rfl) ?_
    repeat (with_reducible first | refine c_seq ?_ | refine c_block ?_ | refine c_skip ?_ | refine x_then ?_ | refine x_block ?_)
    refine c_reg ?_
    refine l_pure rfl (s_asg  rfl ?_)
    refine l_pure rfl (s_asg  rfl ?_)
    refine l_nil ?_
    repeat (with_reducible first | refine c_seq ?_ | refine c_block ?_ | refine c_skip ?_ | refine x_then ?_ | refine x_block ?_)
    refine c_ret ?_
    repeat (with_reducible first | refine x_then_ret ?_ | refine x_block_ret ?_)
    refine r_two rfl rfl rfl ?_
    refine ⟨⟨_, by rw [e1]; rfl, ?_⟩, hS.below⟩
    rw [hno (by rw [e1]; decide)]; exact Sl.nil _ _ _
  replace hsq := Decidable.not_not.1 hsq
  have he : sqE A = 0 := by unfold sqE; rw [if_neg (by omega), if_neg (by omega)]
  repeat (with_reducible first | refine c_seq ?_ | refine c_block ?_ | refine c_skip ?_ | refine x_then ?_ | refine x_block ?_)
  refine c_reg ?_
  refine l_pure rfl (s_move  rfl ?_)
  refine l_pure rfl (s_lenr  rfl (hA.sl.below hS.below) ⟨_, Tryz.underlying22⟩ ?_)
  refine l_pure rfl (s_move  rfl ?_)
  refine l_pure rfl (s_ixr (i := 0)  rfl rfl (hA.sl.below hS.below) (by omega) (by first | omega | (simp; done) | (simp; omega)) si_22 ?_)
  refine l_read rfl (s_lde (i := 0) undef  rfl vi_23 (hA.sl.below hS.below) (by first | omega | (simp; done) | (simp; omega)) rfl rfl (.inr rfl) ?_)
  refine l_pure rfl (s_lenr  rfl (hr0.below hS.below) ⟨_, Tryz.underlying23⟩ ?_)
  refine l_pure rfl (s_neq  rfl rfl ?_)
  refine l_pure rfl (s_move  rfl ?_)
  refine l_pure (gd_yes 21 (by kernel_rfl) rfl (decide_eq_false (by omega))) (s_move  rfl ?_)
  refine l_pure (gd_yes 21 (by kernel_rfl) rfl (decide_eq_false (by omega))) (s_lenr  rfl (hBv.below hS.below) ⟨_, Tryz.underlying23⟩ ?_)
  refine l_pure (gd_yes 21 (by kernel_rfl) rfl (decide_eq_false (by omega))) (s_move  rfl ?_)
  refine l_pure (gd_yes 21 (by kernel_rfl) rfl (decide_eq_false (by omega))) (s_lenr  rfl (hA.sl.below hS.below) ⟨_, Tryz.underlying22⟩ ?_)
  refine l_pure (gd_yes 21 (by kernel_rfl) rfl (decide_eq_false (by omega))) (s_neq  rfl rfl ?_)
  refine l_pure rfl (s_pick (vb rfl (decide_eq_false (by omega))) rfl ?_)
  refine l_nil ?_
  repeat (with_reducible first | refine c_seq ?_ | refine c_block ?_ | refine c_skip ?_ | refine x_then ?_ | refine x_block ?_)
  by_cases hx : B.length ≠ A.length
  · have e1 : slE A B = 4 := by unfold slE; rw [if_neg (by omega), if_pos hx]
    refine c_yes rfl (decide_eq_true (by omega)) ?_
    repeat (with_reducible first | refine c_seq ?_ | refine c_block ?_ | refine c_skip ?_ | refine x_then ?_ | refine x_block ?_)
    refine c_reg ?_
    refine l_pure rfl (s_asg  rfl ?_)
    refine l_pure rfl (s_asg  rfl ?_)
    refine l_nil ?_
    repeat (with_reducible first | refine c_seq ?_ | refine c_block ?_ | refine c_skip ?_ | refine x_then ?_ | refine x_block ?_)
    refine c_ret ?_
    repeat (with_reducible first | refine x_then_ret ?_ | refine x_block_ret ?_)
    refine r_two rfl rfl rfl ?_
    refine ⟨⟨_, by rw [e1]; rfl, ?_⟩, hS.below⟩
    rw [hno (by rw [e1]; decide)]; exact Sl.nil _ _ _
  replace hx := Decidable.not_not.1 hx
  refine c_no rfl (decide_eq_false (by omega)) ?_
  repeat (with_reducible first | refine c_seq ?_ | refine c_block ?_ | refine c_skip ?_ | refine x_then ?_ | refine x_block ?_)
  have e1 : slE A B = if (slD A B).P.length = A.length then 0 else 5 := by unfold slE; rw [if_neg (by omega), if_neg (by omega)]
  have hslL : slE A B = 0 → slL A B = tab A.length fun i => ofQ ((slD A B).M i A.length) := fun h => if_pos h
  have hAL : ∀ i, i < A.length → ∀ j, j < A.length → L (RM A i j) ≤ K := fun i hi j hj => RM_L hB hi (by rw [h5 i hi]; omega)
  have hBL : ∀ i, i < A.length → L (VX B i) ≤ K := fun i hi => Nat.le_trans (L_toQ _) (hBB _ (getD_mem B i zRR (by omega)))
  repeat (with_reducible first | refine c_seq ?_ | refine c_block ?_ | refine c_skip ?_ | refine x_then ?_ | refine x_block ?_)
  refine c_reg ?_
  refine l_pure rfl (s_move  rfl ?_)
  refine l_heavy rfl (s_call Tryz.call40 rfl (lfixedRows_ok v A vs (colsA A) _ (hA.below hS.below) h1 (by omega) h3 (by omega) h5 (RBM_mono hB (by omega))) ?_)
  rintro r w2 ⟨⟨bo, cap, so, R, rfl, hc1, hc2, hR, hS2⟩, hB2⟩
  replace hS := hS.grow hB2
  have hmt := hR.mtsD [] hS2 encR_len hc1 hc2
  rw [← hsq] at hmt
  clear hS2
  refine l_pure rfl (s_move  rfl ?_)
  refine l_heavy rfl (s_call Tryz.call41 rfl (lFixed_ok vb_ B _ (hBv.below hS.below) (RB_mono hBB (by omega)) (by omega)) ?_)
  rintro vf w3 ⟨LF, hGF, hSF⟩
  have hsf := hGF.sl (H := []) hSF encR_len
  rw [hx] at hsf
  replace hmt := hmt.below hSF.below
  replace hS := hS.grow hSF.below
  clear hSF hGF
  refine l_heavy rfl (s_call Tryz.call39 rfl (rSolution_ok _ _ A.length (RM A) _ (VX B) K _ hmt hsf h1 h2 hAL hBL hK (AUG A B) rfl) ?_)
  rintro r w4 ⟨⟨v', rfl, hv'⟩, hB4⟩
  replace hS := hS.grow hB4
  have hSd : rdc A.length (AUG A B) A.length = slD A B := rfl
  rw [hSd] at hv'
  rw [hSd]
  clear hSd
  refine l_pure rfl (s_move  rfl ?_)
  refine l_pure rfl (s_ext  rfl rfl ?_)
  refine l_pure rfl (s_ext  rfl rfl ?_)
  refine l_pure rfl (s_asg  rfl ?_)
  refine l_pure rfl (s_asg  rfl ?_)
  refine l_nil ?_
  repeat (with_reducible first | refine c_seq ?_ | refine c_block ?_ | refine c_skip ?_ | refine x_then ?_ | refine x_block ?_)
  obtain ⟨bf, hbf⟩ : ∃ bf, bf = decide ((slD A B).P.length = A.length) := ⟨_, rfl⟩
  rw [← hbf]
  repeat (with_reducible first | refine c_seq ?_ | refine c_block ?_ | refine c_skip ?_ | refine x_then ?_ | refine x_block ?_)
  refine c_forget (fun ρ' => ρ' 7 = v' ∧ ρ' 8 = .bool bf ∧ True) ⟨rfl, rfl, trivial⟩ ?_
  rintro ρk2 ⟨hk2_7, hk2_8, -⟩
  repeat (with_reducible first | refine c_seq ?_ | refine c_block ?_ | refine c_skip ?_ | refine x_then ?_ | refine x_block ?_)
  refine c_reg ?_
  refine l_pure rfl (s_move  hk2_8 ?_)
  refine l_pure rfl (s_not  rfl ?_)
  refine l_nil ?_
  repeat (with_reducible first | refine c_seq ?_ | refine c_block ?_ | refine c_skip ?_ | refine x_then ?_ | refine x_block ?_)
  by_cases hf : (slD A B).P.length = A.length
  · have e0 : slE A B = 0 := by rw [e1, if_pos hf]
    refine c_no rfl (by rw [hbf, decide_eq_true hf]; rfl) ?_
    repeat (with_reducible first | refine c_seq ?_ | refine c_block ?_ | refine c_skip ?_ | refine x_then ?_ | refine x_block ?_)
    refine c_reg ?_
    refine l_pure rfl (s_move  hk2_7 ?_)
    refine l_pure rfl (s_asg  rfl ?_)
    refine l_pure rfl (s_asg  rfl ?_)
    refine l_nil ?_
    repeat (with_reducible first | refine c_seq ?_ | refine c_block ?_ | refine c_skip ?_ | refine x_then ?_ | refine x_block ?_)
    refine c_ret ?_
    repeat (with_reducible first | refine x_then_ret ?_ | refine x_block_ret ?_)
    refine r_two rfl rfl rfl ?_
    refine ⟨⟨_, by rw [e0]; rfl, ?_⟩, hS.below⟩
    rw [hslL e0]; exact hv' hf
  · have e5 : slE A B = 5 := by rw [e1, if_neg hf]
    refine c_yes rfl (by rw [hbf, decide_eq_false hf]; rfl) ?_
    repeat (with_reducible first | refine c_seq ?_ | refine c_block ?_ | refine c_skip ?_ | refine x_then ?_ | refine x_block ?_)
    refine c_reg ?_
    refine l_pure rfl (s_asg  rfl ?_)
    refine l_pure rfl (s_asg  rfl ?_)
    refine l_nil ?_
    repeat (with_reducible first | refine c_seq ?_ | refine c_block ?_ | refine c_skip ?_ | refine x_then ?_ | refine x_block ?_)
    refine c_ret ?_
    repeat (with_reducible first | refine x_then_ret ?_ | refine x_block_ret ?_)
    refine r_two rfl rfl rfl ?_
    refine ⟨⟨_, by rw [e5]; rfl, ?_⟩, hS.below⟩
    rw [hno (by rw [e5]; decide)]; exact Sl.nil _ _ _
theorem LinearSolve_ok (va vx : Value) (A : List (List RR)) (vs : List Value) (X : List RR) (w : World) (hA : Mts encR 3 w va A vs) (hX : Sl encR 3 w vx X) :
    Ret Tryz.prog 3 #[va, vx] w fun v w' => v = .bool true ∧ Below w.heap.size w w' := by
  have hM : MX = 1099511627776 := rfl
  have hS := St.init w
  refine enter Tryz.func3 rfl Tryz.ntmps3 rfl ?_
  repeat (with_reducible first | refine c_seq ?_ | refine c_block ?_ | refine c_skip ?_ | refine x_then ?_ | refine x_block ?_)
  refine c_reg ?_
  refine l_pure rfl (s_asg  rfl ?_)
  refine l_nil ?_
  repeat (with_reducible first | refine c_seq ?_ | refine c_block ?_ | refine c_skip ?_ | refine x_then ?_ | refine x_block ?_)
  refine c_reg ?_
  refine l_pure rfl (s_move  rfl ?_)
  refine l_heavy rfl (s_call Tryz.call9 rfl (FewRows_ok va A vs _ (hA.below hS.below)) ?_)
  rintro r w1 ⟨rfl, hB1⟩
  replace hS := hS.grow hB1
  cases hf : fewA A with
  | false =>
    refine l_pure rfl (s_not  rfl ?_)
    refine l_pure rfl (s_move  rfl ?_)
    refine l_no (gno_yes 12 (by kernel_rfl) rfl rfl) ?_
    refine l_no (gno_yes 12 (by kernel_rfl) rfl rfl) ?_
    refine l_no (gno_yes 12 (by kernel_rfl) rfl rfl) ?_
    refine l_pure rfl (s_pick (vb rfl rfl) rfl ?_)
    refine l_nil ?_
    repeat (with_reducible first | refine c_seq ?_ | refine c_block ?_ | refine c_skip ?_ | refine x_then ?_ | refine x_block ?_)
    refine c_yes rfl (rfl) ?_
    repeat (with_reducible first | refine c_seq ?_ | refine c_block ?_ | refine c_skip ?_ | refine x_then ?_ | refine x_block ?_)
    refine c_reg ?_
    refine l_heavy rfl (s_call Tryz.call11 rfl (Lawake_ok _) ?_)
    rintro _ wc1 ⟨rfl, hBc1⟩
    replace hS := hS.grow hBc1
    refine l_pure rfl (s_asg  rfl ?_)
    refine l_nil ?_
    repeat (with_reducible first | refine c_seq ?_ | refine c_block ?_ | refine c_skip ?_ | refine x_then ?_ | refine x_block ?_)
    refine c_ret ?_
    repeat (with_reducible first | refine x_then_ret ?_ | refine x_block_ret ?_)
    refine r_one rfl rfl ?_
    exact ⟨rfl, hS.below⟩
  | true =>
  obtain ⟨_, hRB, _⟩ := fewA_B hf
  refine l_pure rfl (s_not  rfl ?_)
  refine l_pure rfl (s_move  rfl ?_)
  refine l_pure (gd_yes 12 (by kernel_rfl) rfl rfl) (s_move  rfl ?_)
  refine l_heavy (gd_yes 12 (by kernel_rfl) rfl rfl) (s_call Tryz.call10 rfl (FewRats_ok vx X 6 _ (hX.below hS.below)) ?_)
  rintro r w1b ⟨rfl, hB1b⟩
  replace hS := hS.grow hB1b
  refine l_pure (gd_yes 12 (by kernel_rfl) rfl rfl) (s_not  rfl ?_)
  refine l_pure rfl (s_pick (vb rfl rfl) rfl ?_)
  refine l_nil ?_
  repeat (with_reducible first | refine c_seq ?_ | refine c_block ?_ | refine c_skip ?_ | refine x_then ?_ | refine x_block ?_)
  cases hg : decide ((X.length : Int) ≤ 6) && X.all few with
  | false =>
    refine c_yes rfl (rfl) ?_
    repeat (with_reducible first | refine c_seq ?_ | refine c_block ?_ | refine c_skip ?_ | refine x_then ?_ | refine x_block ?_)
    refine c_reg ?_
    refine l_heavy rfl (s_call Tryz.call11 rfl (Lawake_ok _) ?_)
    rintro _ wc2 ⟨rfl, hBc2⟩
    replace hS := hS.grow hBc2
    refine l_pure rfl (s_asg  rfl ?_)
    refine l_nil ?_
    repeat (with_reducible first | refine c_seq ?_ | refine c_block ?_ | refine c_skip ?_ | refine x_then ?_ | refine x_block ?_)
    refine c_ret ?_
    repeat (with_reducible first | refine x_then_ret ?_ | refine x_block_ret ?_)
    refine r_one rfl rfl ?_
    exact ⟨rfl, hS.below⟩
  | true =>
  rw [Bool.and_eq_true, decide_eq_true_eq] at hg
  have hRBX := RB_few hg.2
  refine c_no rfl (rfl) ?_
  repeat (with_reducible first | refine c_seq ?_ | refine c_block ?_ | refine c_skip ?_ | refine x_then ?_ | refine x_block ?_)
  refine c_reg ?_
  refine l_pure rfl (s_move  rfl ?_)
  refine l_pure rfl (s_move  rfl ?_)
  refine l_heavy rfl (s_call Tryz.call12 rfl (lSolve_ok va vx A vs X 24 _ (hA.below hS.below) (hX.below hS.below) hRB hRBX K24b) ?_)
  rintro r w2 ⟨⟨v1, rfl, hm1⟩, hB2⟩
  replace hS := hS.grow hB2
  refine l_pure rfl (s_move  rfl ?_)
  refine l_pure rfl (s_ext  rfl rfl ?_)
  refine l_pure rfl (s_ext  rfl rfl ?_)
  refine l_pure rfl (s_asg  rfl ?_)
  refine l_pure rfl (s_asg  rfl ?_)
  refine l_nil ?_
  repeat (with_reducible first | refine c_seq ?_ | refine c_block ?_ | refine c_skip ?_ | refine x_then ?_ | refine x_block ?_)
  refine c_reg ?_
  refine l_pure rfl (s_move  rfl ?_)
  refine l_pure rfl (s_move  rfl ?_)
  refine l_heavy rfl (s_call Tryz.call13 rfl (rSolve_ok va vx A vs X 24 _ (hA.below hS.below) (hX.below hS.below) hRB hRBX K24) ?_)
  rintro r w3 ⟨⟨v2, rfl, hm2⟩, hB3⟩
  replace hS := hS.grow hB3
  replace hm1 := hm1.below hB3
  refine l_pure rfl (s_move  rfl ?_)
  refine l_pure rfl (s_ext  rfl rfl ?_)
  refine l_pure rfl (s_ext  rfl rfl ?_)
  refine l_pure rfl (s_asg  rfl ?_)
  refine l_pure rfl (s_asg  rfl ?_)
  refine l_nil ?_
  repeat (with_reducible first | refine c_seq ?_ | refine c_block ?_ | refine c_skip ?_ | refine x_then ?_ | refine x_block ?_)
  refine c_reg ?_
  refine l_heavy rfl (s_call Tryz.call11 rfl (Lawake_ok _) ?_)
  rintro r wa ⟨rfl, hBa⟩
  replace hS := hS.grow hBa
  replace hm1 := hm1.below hBa
  replace hm2 := hm2.below hBa
  refine l_pure rfl (s_move  rfl ?_)
  refine l_pure (gd_yes 31 (by kernel_rfl) rfl rfl) (s_move  rfl ?_)
  refine l_pure (gd_yes 31 (by kernel_rfl) rfl rfl) (s_move  rfl ?_)
  refine l_heavy (gd_yes 31 (by kernel_rfl) rfl rfl) (s_call Tryz.call14 rfl (SameRats_eq _ _ _ _ hm1 hm2) ?_)
  rintro r w6 ⟨rfl, hB6⟩
  replace hS := hS.grow hB6
  refine l_pure rfl (s_pick (vb rfl rfl) rfl ?_)
  refine l_pure rfl (s_move  rfl ?_)
  refine l_pure (gd_yes 36 (by kernel_rfl) rfl rfl) (s_move  rfl ?_)
  refine l_pure (gd_yes 36 (by kernel_rfl) rfl rfl) (s_move  rfl ?_)
  refine l_pure (gd_yes 36 (by kernel_rfl) rfl rfl) (s_eql  rfl rfl ?_)
  refine l_pure rfl (s_pick (vb rfl rfl) rfl ?_)
  refine l_pure rfl (s_asg  rfl ?_)
  refine l_nil ?_
  repeat (with_reducible first | refine c_seq ?_ | refine c_block ?_ | refine c_skip ?_ | refine x_then ?_ | refine x_block ?_)
  refine c_ret ?_
  repeat (with_reducible first | refine x_then_ret ?_ | refine x_block_ret ?_)
  refine r_one rfl rfl ?_
  exact ⟨vb rfl (decide_eq_true rfl), hS.below⟩
end Go.Proofs.YtblfipdfklpmmaaGreatDoor
namespace Go.Proofs.YtblfipdfklpmmaaGreatDoor
open Go Go.RowKit Go.Sx
theorem rhas_ok (v : Value) (l : List Int) (x : Int) (w : World) (hv : Sl enI 1 w v l) :
    Ret Tryz.prog 74 #[v, .int .i64 x] w fun r w' => r = .bool (decide (x ∈ l)) ∧ w' = w := by
  have hmax := hv.maxLen
  refine enter Tryz.func74 rfl Tryz.ntmps74 rfl ?_
  repeat (with_reducible first | refine c_seq ?_ | refine c_block ?_ | refine c_skip ?_ | refine x_then ?_ | refine x_block ?_)
  refine c_reg ?_
  refine l_pure rfl (s_asg  rfl ?_)
  refine l_nil ?_
  repeat (with_reducible first | refine c_seq ?_ | refine c_block ?_ | refine c_skip ?_ | refine x_then ?_ | refine x_block ?_)
  refine c_reg ?_
  refine l_pure rfl (s_asg  rfl ?_)
  refine l_nil ?_
  repeat (with_reducible first | refine c_seq ?_ | refine c_block ?_ | refine c_skip ?_ | refine x_then ?_ | refine x_block ?_)
  refine c_loop (σ := Nat) (fun i ρ w' => i ≤ l.length ∧ x ∉ l.take i ∧ ρ 0 = v ∧ ρ 1 = .int .i64 x ∧ ρ 5 = .int .i64 i ∧ w' = w) (fun i => l.length - i) 0
    ⟨Nat.zero_le _, by simp, rfl, rfl, rfl, rfl⟩ ?_
  rintro i ρ w2 ⟨hi, hn, h0, h1, h5, rfl⟩
  repeat (with_reducible first | refine c_seq ?_ | refine c_block ?_ | refine c_skip ?_ | refine x_then ?_ | refine x_block ?_)
  refine c_reg ?_
  refine l_pure rfl (s_move  h5 ?_)
  refine l_pure rfl (s_move  h0 ?_)
  refine l_pure rfl (s_lenr  rfl hv ⟨_, Tryz.underlying40⟩ ?_)
  refine l_pure rfl (s_lss  rfl rfl ?_)
  refine l_nil ?_
  repeat (with_reducible first | refine c_seq ?_ | refine c_block ?_ | refine c_skip ?_ | refine x_then ?_ | refine x_block ?_)
  by_cases hlt : i < l.length
  · refine c_yes rfl (decide_eq_true (by omega)) ?_
    repeat (with_reducible first | refine c_seq ?_ | refine c_block ?_ | refine c_skip ?_ | refine x_then ?_ | refine x_block ?_)
    have ht := take_succ' l i 0 hlt
    repeat (with_reducible first | refine c_seq ?_ | refine c_block ?_ | refine c_skip ?_ | refine x_then ?_ | refine x_block ?_)
    refine c_reg ?_
    refine l_pure rfl (s_move  h0 ?_)
    refine l_pure rfl (s_move  h5 ?_)
    refine l_pure rfl (s_ixr (i := i)  rfl rfl hv (by omega) (by first | omega | (simp; done) | (simp; omega)) si_40 ?_)
    refine l_read rfl (s_lde (i := i) 0  rfl vi_3 hv (by first | omega | (simp; done) | (simp; omega)) rfl rfl (.inr rfl) ?_)
    refine l_pure rfl (s_move  h1 ?_)
    refine l_pure rfl (s_eql  rfl rfl ?_)
    refine l_nil ?_
    repeat (with_reducible first | refine c_seq ?_ | refine c_block ?_ | refine c_skip ?_ | refine x_then ?_ | refine x_block ?_)
    by_cases hx : l.getD i 0 = x
    · refine c_yes rfl (decide_eq_true hx) ?_
      repeat (with_reducible first | refine c_seq ?_ | refine c_block ?_ | refine c_skip ?_ | refine x_then ?_ | refine x_block ?_)
      refine c_reg ?_
      refine l_pure rfl (s_asg  rfl ?_)
      refine l_nil ?_
      repeat (with_reducible first | refine c_seq ?_ | refine c_block ?_ | refine c_skip ?_ | refine x_then ?_ | refine x_block ?_)
      refine c_ret ?_
      repeat (with_reducible first | refine x_then_ret ?_ | refine x_block_ret ?_)
      refine r_one rfl rfl ?_
      exact ⟨congrArg Value.bool (decide_eq_true (by rw [← hx]; exact getD_mem l i 0 hlt)).symm, rfl⟩
    · refine c_no rfl (decide_eq_false hx) ?_
      repeat (with_reducible first | refine c_seq ?_ | refine c_block ?_ | refine c_skip ?_ | refine x_then ?_ | refine x_block ?_)
      refine c_reg ?_
      refine l_pure rfl (s_move  h5 ?_)
      refine l_pure rfl (s_add  rfl rfl (IntWalk.i64_in _ (by omega)) ?_)
      refine l_pure rfl (s_asg  rfl ?_)
      refine l_nil ?_
      repeat (with_reducible first | refine c_seq ?_ | refine c_block ?_ | refine c_skip ?_ | refine x_then ?_ | refine x_block ?_)
      exact ⟨i + 1, _, rfl, ⟨hlt, by rw [ht, List.mem_append, List.mem_singleton]; exact fun g => g.elim hn fun e => hx e.symm, h0, h1, vi rfl (by omega), rfl⟩, by omega⟩
  · refine c_no rfl (decide_eq_false (by omega)) ?_
    repeat (with_reducible first | refine c_seq ?_ | refine c_block ?_ | refine c_skip ?_ | refine x_then ?_ | refine x_block ?_)
    refine c_exit ?_
    repeat (with_reducible first | refine x_then_exit ?_ | refine x_block_exit ?_ | refine x_block_pass rfl ?_)
    repeat (with_reducible first | refine c_seq ?_ | refine c_block ?_ | refine c_skip ?_ | refine x_then ?_ | refine x_block ?_)
    obtain rfl : i = l.length := by omega
    rw [List.take_length] at hn
    repeat (with_reducible first | refine c_seq ?_ | refine c_block ?_ | refine c_skip ?_ | refine x_then ?_ | refine x_block ?_)
    refine c_reg ?_
    refine l_pure rfl (s_asg  rfl ?_)
    refine l_nil ?_
    repeat (with_reducible first | refine c_seq ?_ | refine c_block ?_ | refine c_skip ?_ | refine x_then ?_ | refine x_block ?_)
    refine c_ret ?_
    repeat (with_reducible first | refine x_then_ret ?_ | refine x_block_ret ?_)
    refine r_one rfl rfl ?_
    exact ⟨congrArg Value.bool (decide_eq_false hn).symm, rfl⟩
theorem built_R1 : Tryz.prog.built 49 [(1, .string ⟨#[1]⟩)] = some #[.bool false, .string ⟨#[1]⟩, .string ⟨#[]⟩] := by kernel_rfl
theorem rOne_ok (w : World) : Ret Tryz.prog 48 #[] w fun v w' => v = aggR (ofQ ((1 : Int) : Rat)) ∧ Below w.heap.size w w' := by
  have hS := St.init w
  have h1 : aggR (ofQ ((1 : Int) : Rat)) = .agg #[.bool false, .string ⟨#[1]⟩, .string ⟨#[]⟩] := by
    have : ofQ ((1 : Int) : Rat) = ⟨false, natS 1, ⟨#[]⟩⟩ := rfl
    rw [this, natS_one]; rfl
  rw [h1]
  refine enter Tryz.func48 rfl Tryz.ntmps48 rfl ?_
  repeat (with_reducible first | refine c_seq ?_ | refine c_block ?_ | refine c_skip ?_ | refine x_then ?_ | refine x_block ?_)
  refine c_reg ?_
  refine l_heavy rfl (s_alloc  vi_49 hS ?_)
  intro b1 wz2 hS hBz2
  refine l_nil ?_
  repeat (with_reducible first | refine c_seq ?_ | refine c_block ?_ | refine c_skip ?_ | refine x_then ?_ | refine x_block ?_)
  refine c_reg ?_
  refine l_pure rfl (s_build  rfl (built_R1) ?_)
  refine l_heavy rfl (s_sta (k := 0)  rfl rfl vi_49 hS rfl rfl rfl (Nat.le_of_ble_eq_true rfl) rfl ?_)
  intro wz3 hS
  refine l_nil ?_
  repeat (with_reducible first | refine c_seq ?_ | refine c_block ?_ | refine c_skip ?_ | refine x_then ?_ | refine x_block ?_)
  refine c_ret ?_
  repeat (with_reducible first | refine x_then_ret ?_ | refine x_block_ret ?_)
  refine r_cell (k := 0) rfl rfl vi_49 hS rfl rfl ?_
  exact ⟨rfl, hS.below⟩
set_option maxHeartbeats 4000000 in
theorem rNullSpace_ok (v : Value) (n m : Nat) (M : Mx) (vs : List Value) (K : Nat) (w : World) (hA : Mts encR 3 w v (tabM n m (qM M)) vs) (hn1 : 1 ≤ n) (hn : n ≤ 16) (hm1 : 1 ≤ m) (hm16 : m ≤ 16) (hL : ∀ i, i < n → ∀ j, j < m → L (M i j) ≤ K) (hK : 8 * BB K n ≤ MX) :
    Ret Tryz.prog 44 #[v] w fun r w' => (∃ vs', Mts encR 3 w' r ((frL (rdc n M m).P m).map (krRow (rdc n M m).M (rdc n M m).P m)) vs') ∧ Below w.heap.size w w' := by
  have hM : MX = 1099511627776 := rfl
  have hlen := hA.len
  rw [tabM_len] at hlen
  have hS := St.init w
  refine enter Tryz.func44 rfl Tryz.ntmps44 rfl ?_
  repeat (with_reducible first | refine c_seq ?_ | refine c_block ?_ | refine c_skip ?_ | refine x_then ?_ | refine x_block ?_)
  refine c_reg ?_
  refine l_pure rfl (s_asg  rfl ?_)
  refine l_nil ?_
  repeat (with_reducible first | refine c_seq ?_ | refine c_block ?_ | refine c_skip ?_ | refine x_then ?_ | refine x_block ?_)
  refine c_reg ?_
  refine l_pure rfl (s_move  rfl ?_)
  refine l_heavy rfl (s_call Tryz.call47 rfl (rechelon_ok v n m M vs K _ (hA.below hS.below) hn1 (by omega) hm1 (by omega) hL hK) ?_)
  rintro r w2 ⟨⟨v', vs', vp, rfl, hm, hp⟩, hB2⟩
  replace hS := hS.grow hB2
  refine l_pure rfl (s_move  rfl ?_)
  refine l_pure rfl (s_ext  rfl rfl ?_)
  refine l_pure rfl (s_ext  rfl rfl ?_)
  refine l_pure rfl (s_asg  rfl ?_)
  refine l_pure rfl (s_asg  rfl ?_)
  refine l_nil ?_
  repeat (with_reducible first | refine c_seq ?_ | refine c_block ?_ | refine c_skip ?_ | refine x_then ?_ | refine x_block ?_)
  have hI := rinv n M m
  have hLs := (rdc_L hL m (Nat.le_refl _)).1
  have hbm := BB_mono K hI.len
  obtain ⟨s, hs⟩ : ∃ s, s = rdc n M m := ⟨_, rfl⟩
  rw [← hs] at hI hm hLs hp hbm
  rw [← hs]
  have hAw := hA.below hS.below
  have ha0 := hAw.row 0 (by rw [tabM_len]; omega)
  rw [tabM_row _ (by omega)] at ha0
  have hta0 := tab_len m (qM M 0)
  have hsl := hm.sl
  have hvl := hm.len
  rw [tabM_len] at hvl
  have hS0 := hS
  repeat (with_reducible first | refine c_seq ?_ | refine c_block ?_ | refine c_skip ?_ | refine x_then ?_ | refine x_block ?_)
  refine c_reg ?_
  refine l_pure rfl (s_asg  rfl ?_)
  refine l_nil ?_
  repeat (with_reducible first | refine c_seq ?_ | refine c_block ?_ | refine c_skip ?_ | refine x_then ?_ | refine x_block ?_)
  refine c_reg ?_
  refine l_pure rfl (s_asg  rfl ?_)
  refine l_nil ?_
  repeat (with_reducible first | refine c_seq ?_ | refine c_skip ?_ | refine x_then ?_ | refine x_block ?_)
  refine c_cut1 (fun ρ w' => ∃ vo LO R, ρ 5 = vo ∧ RwOk R ∧ R.map (·.X) = (frL s.P m).map (krRow s.M s.P m) ∧ Gl enV 23 1 vo (R.map Rw.v) LO ∧ St w2 w' (R.map (Rw.blk encR 49) ++ LO)) ?_ ?_
  · repeat (with_reducible first | refine c_seq ?_ | refine c_block ?_ | refine c_skip ?_ | refine x_then ?_ | refine x_block ?_)
    refine c_loop (σ := Nat) (fun f ρ w' => f ≤ m ∧ ρ 0 = v ∧ ρ 3 = v' ∧ ρ 4 = vp ∧ ρ 6 = .int .i64 f ∧ ∃ vo LO R, ρ 5 = vo ∧ RwOk R ∧ R.map (·.X) = (frL s.P f).map (krRow s.M s.P m) ∧ Gl enV 23 1 vo (R.map Rw.v) LO ∧ St w2 w' (R.map (Rw.blk encR 49) ++ LO)) (fun f => m - f) 0
      ⟨Nat.zero_le _, rfl, rfl, rfl, rfl, _, [], [], rfl, (fun _ h => by cases h), rfl, Gl.nil _ _ _, St.init w2⟩ ?_
    rintro f ρ w3 ⟨hf, h0', h3', h4', h6, vo, LO, R, h5, hok, hRX, hG, hT⟩
    clear hS
    have hS := hT
    clear hT
    repeat (with_reducible first | refine c_seq ?_ | refine c_block ?_ | refine c_skip ?_ | refine x_then ?_ | refine x_block ?_)
    refine c_reg ?_
    refine l_pure rfl (s_move  h6 ?_)
    refine l_pure rfl (s_move  h0' ?_)
    refine l_pure rfl (s_ixr (i := 0)  rfl rfl (hAw.sl.below hS.below) (by omega) (by first | omega | (simp; done) | (simp; omega)) si_22 ?_)
    refine l_read rfl (s_lde (i := 0) undef  rfl vi_23 (hAw.sl.below hS.below) (by first | omega | (simp; done) | (simp; omega)) rfl rfl (.inr rfl) ?_)
    refine l_pure rfl (s_lenr  rfl (ha0.below hS.below) ⟨_, Tryz.underlying23⟩ ?_)
    refine l_pure rfl (s_lss  rfl rfl ?_)
    refine l_nil ?_
    repeat (with_reducible first | refine c_seq ?_ | refine c_block ?_ | refine c_skip ?_ | refine x_then ?_ | refine x_block ?_)
    by_cases hlt : f < m
    · refine c_yes rfl (decide_eq_true (by omega)) ?_
      repeat (with_reducible first | refine c_seq ?_ | refine c_block ?_ | refine c_skip ?_ | refine x_then ?_ | refine x_block ?_)
      refine c_reg ?_
      refine l_pure rfl (s_move  h4' ?_)
      refine l_pure rfl (s_move  h6 ?_)
      refine l_heavy rfl (s_call Tryz.call74 rfl (rhas_ok vp (nI s.P) f _ (hp.below hS.below)) ?_)
      rintro _ wq1 ⟨rfl, hq1⟩
      replace hq1 := hq1.symm
      subst hq1
      refine l_nil ?_
      repeat (with_reducible first | refine c_seq ?_ | refine c_block ?_ | refine c_skip ?_ | refine x_then ?_ | refine x_block ?_)
      have hfs := frL_succ s.P f
      by_cases hfP : f ∈ s.P
      · rw [if_pos hfP] at hfs
        refine c_yes rfl (decide_eq_true (mem_nI.2 hfP)) ?_
        repeat (with_reducible first | refine c_seq ?_ | refine c_block ?_ | refine c_skip ?_ | refine x_then ?_ | refine x_block ?_)
        refine c_exit ?_
        repeat (with_reducible first | refine x_then_exit ?_ | refine x_block_exit ?_ | refine x_block_pass rfl ?_)
        repeat (with_reducible first | refine c_seq ?_ | refine c_block ?_ | refine c_skip ?_ | refine x_then ?_ | refine x_block ?_)
        refine c_reg ?_
        refine l_pure rfl (s_move  h6 ?_)
        refine l_pure rfl (s_add  rfl rfl (IntWalk.i64_in _ (by omega)) ?_)
        refine l_pure rfl (s_asg  rfl ?_)
        refine l_nil ?_
        repeat (with_reducible first | refine c_seq ?_ | refine c_block ?_ | refine c_skip ?_ | refine x_then ?_ | refine x_block ?_)
        exact ⟨f + 1, _, rfl, ⟨hlt, by assumption, by assumption, by assumption, vi rfl (by omega), vo, LO, R, by assumption, hok, by rw [hfs]; exact hRX, hG, hS⟩, by omega⟩
      · rw [if_neg hfP] at hfs
        refine c_no rfl (decide_eq_false (fun h => hfP (mem_nI.1 h))) ?_
        repeat (with_reducible first | refine c_seq ?_ | refine c_block ?_ | refine c_skip ?_ | refine x_then ?_ | refine x_block ?_)
        have hnl := nI_len s.P
        repeat (with_reducible first | refine c_seq ?_ | refine c_block ?_ | refine c_skip ?_ | refine x_then ?_ | refine x_block ?_)
        refine c_reg ?_
        refine l_pure rfl (s_move  h0' ?_)
        refine l_pure rfl (s_ixr (i := 0)  rfl rfl (hAw.sl.below hS.below) (by omega) (by first | omega | (simp; done) | (simp; omega)) si_22 ?_)
        refine l_read rfl (s_lde (i := 0) undef  rfl vi_23 (hAw.sl.below hS.below) (by first | omega | (simp; done) | (simp; omega)) rfl rfl (.inr rfl) ?_)
        refine l_pure rfl (s_lenr  rfl (ha0.below hS.below) ⟨_, Tryz.underlying23⟩ ?_)
        refine l_heavy rfl (s_makeE (enc := encR) (n := m) zRR  rfl rfl si_23 rfl (by omega) (by omega) (by omega) (by omega) hS ?_)
        intro b29 wz2 hS hBz2
        refine l_pure rfl (s_asg  rfl ?_)
        refine l_nil ?_
        repeat (with_reducible first | refine c_seq ?_ | refine c_block ?_ | refine c_skip ?_ | refine x_then ?_ | refine x_block ?_)
        refine c_reg ?_
        refine l_pure rfl (s_move  rfl ?_)
        refine l_pure rfl (s_move  h6 ?_)
        refine l_heavy rfl (s_call Tryz.call48 rfl (rOne_ok _) ?_)
        rintro _ wc3 ⟨rfl, hBc3⟩
        replace hS := hS.grow hBc3
        refine l_pure rfl (s_ixo (i := f)  rfl rfl (by omega) (by first | omega | (simp; done) | (simp; omega)) si_23 ?_)
        refine l_heavy rfl (s_stE (k := 0) (i := f) (enc := encR) (ofQ ((1 : Int) : Rat)) (fun _ => rfl)  rfl rfl vi_49 hS rfl (by first | omega | simp) (by first | omega | (simp; done) | (simp; omega)) rfl rfl ?_)
        intro wz4 hS
        refine l_nil ?_
        repeat (with_reducible first | refine c_seq ?_ | refine c_block ?_ | refine c_skip ?_ | refine x_then ?_ | refine x_block ?_)
        replace hS : St w2 _ ((b29, 49, ((List.replicate m zRR).set f (ofQ ((1 : Int) : Rat))).flatMap encR) :: (R.map (Rw.blk encR 49) ++ LO)) := hS
        rw [kvF_zero s.P s.M] at hS
        repeat (with_reducible first | refine c_seq ?_ | refine c_block ?_ | refine c_skip ?_ | refine x_then ?_ | refine x_block ?_)
        refine c_reg ?_
        refine l_pure rfl (s_asg  rfl ?_)
        refine l_nil ?_
        repeat (with_reducible first | refine c_seq ?_ | refine c_skip ?_ | refine x_then ?_ | refine x_block ?_)
        refine c_cut1 (fun ρ w' => ρ 0 = v ∧ ρ 3 = v' ∧ ρ 4 = vp ∧ ρ 5 = vo ∧ ρ 6 = .int .i64 f ∧ ρ 7 = .slice (some ⟨b29, 0, none⟩) m m ∧ St w2 w' ((b29, 49, (krRow s.M s.P m f).flatMap encR) :: (R.map (Rw.blk encR 49) ++ LO))) ?_ ?_
        · repeat (with_reducible first | refine c_seq ?_ | refine c_block ?_ | refine c_skip ?_ | refine x_then ?_ | refine x_block ?_)
          refine c_loop (σ := Nat) (fun k ρ w' => k ≤ s.P.length ∧ ρ 0 = v ∧ ρ 3 = v' ∧ ρ 4 = vp ∧ ρ 5 = vo ∧ ρ 6 = .int .i64 f ∧ ρ 7 = .slice (some ⟨b29, 0, none⟩) m m ∧ ρ 8 = .int .i64 k ∧ St w2 w' ((b29, 49, (tab m fun j => ofQ (kvF s.P s.M f k j)).flatMap encR) :: (R.map (Rw.blk encR 49) ++ LO))) (fun k => s.P.length - k) 0
            ⟨Nat.zero_le _, by assumption, by assumption, by assumption, by assumption, by assumption, rfl, rfl, hS⟩ ?_
          clear hS
          rintro k ρ w4 ⟨hk, h0', h3', h4', h5, h6, h7, h8, hS⟩
          have htl := tab_len m fun j => ofQ (kvF s.P s.M f k j)
          repeat (with_reducible first | refine c_seq ?_ | refine c_block ?_ | refine c_skip ?_ | refine x_then ?_ | refine x_block ?_)
          refine c_reg ?_
          refine l_pure rfl (s_move  h8 ?_)
          refine l_pure rfl (s_move  h4' ?_)
          refine l_pure rfl (s_lenr  rfl (hp.below hS.below) ⟨_, Tryz.underlying40⟩ ?_)
          refine l_pure rfl (s_lss  rfl rfl ?_)
          refine l_nil ?_
          repeat (with_reducible first | refine c_seq ?_ | refine c_block ?_ | refine c_skip ?_ | refine x_then ?_ | refine x_block ?_)
          by_cases hkl : k < s.P.length
          · refine c_yes rfl (decide_eq_true (by omega)) ?_
            repeat (with_reducible first | refine c_seq ?_ | refine c_block ?_ | refine c_skip ?_ | refine x_then ?_ | refine x_block ?_)
            have hkn : k < n := by have := hI.len; omega
            have hrk := hm.row k (by rw [tabM_len]; exact hkn)
            rw [tabM_row _ hkn] at hrk
            have htk := tab_len m (qM s.M k)
            have hgk : (tab m (qM s.M k)).getD f zRR = ofQ (s.M k f) := tab_get _ _ hlt
            have hpk : s.P.getD k 0 < m := hI.lt _ (getD_mem _ _ _ hkl)
            have hpv : (nI s.P).getD k 0 = ((s.P.getD k 0 : Nat) : Int) := by
              unfold nI
              rw [getD_ge _ _ (by rw [List.length_map]; exact hkl), List.getElem_map, getD_ge s.P 0 hkl]
            have hLk := hLs k hkn f hlt
            have hneg := fun w => rOpposite_ok (s.M k f) w
            repeat (with_reducible first | refine c_seq ?_ | refine c_block ?_ | refine c_skip ?_ | refine x_then ?_ | refine x_block ?_)
            refine c_draw [(0, .pure), (1, .pure), (2, .pure), (3, .pure), (4, .read), (5, .pure), (6, .pure), (7, .pure), (8, .read), (9, .pure), (10, .pure), (11, .read), (12, .grow), (13, .pure), (14, .free)] (by kernel_rfl) (by kernel_rfl) hS ?_
            intro wz5 hS hBz5
            refine w_pure rfl rfl (s_move  h7 ?_)
            refine w_pure rfl rfl (s_move  h4' ?_)
            refine w_pure rfl rfl (s_move  h8 ?_)
            refine w_pure rfl rfl (s_ixr (i := k)  rfl rfl (hp.below hS.below) (by omega) (by first | omega | (simp; done) | (simp; omega)) si_40 ?_)
            refine w_read rfl rfl (s_lde (i := k) 0  rfl vi_3 (hp.below hS.below) (by first | omega | (simp; done) | (simp; omega)) rfl rfl (.inr rfl) ?_)
            refine w_pure rfl rfl (s_move  h3' ?_)
            refine w_pure rfl rfl (s_move  h8 ?_)
            refine w_pure rfl rfl (s_ixr (i := k)  rfl rfl (hsl.below hS.below) (by omega) (by first | omega | (simp; done) | (simp; omega)) si_22 ?_)
            refine w_read rfl rfl (s_lde (i := k) undef  rfl vi_23 (hsl.below hS.below) (by first | omega | (simp; done) | (simp; omega)) rfl rfl (.inr rfl) ?_)
            refine w_pure rfl rfl (s_move  h6 ?_)
            refine w_pure rfl rfl (s_ixr (i := f)  rfl rfl (hrk.below hS.below) (by omega) (by first | omega | (simp; done) | (simp; omega)) si_23 ?_)
            refine w_read rfl rfl (s_lde (i := f) zRR  rfl vi_49 (hrk.below hS.below) (by first | omega | (simp; done) | (simp; omega)) rfl rfl (.inl rfl) ?_)
            rw [hgk, hpv]
            refine w_grow rfl rfl (s_call Tryz.call49 rfl (hneg _) ?_)
            rintro _ wc6 ⟨rfl, hBc6⟩
            replace hS := hS.grow hBc6
            refine ⟨hBc6, ?_⟩
            refine w_pure rfl rfl (s_ixo (i := (s.P.getD k 0))  rfl rfl (by omega) (by first | omega | (simp; done) | (simp; omega)) si_23 ?_)
            refine w_free rfl rfl (s_stE (k := 0) (i := (s.P.getD k 0)) (enc := encR) (ofQ (- s.M k f)) (fun _ => rfl)  rfl rfl vi_49 hS rfl (by first | omega | simp) (by first | omega | (simp; done) | (simp; omega)) rfl rfl ?_)
            intro wz7 hS
            refine w_end ?_
            repeat (with_reducible first | refine c_seq ?_ | refine c_block ?_ | refine c_skip ?_ | refine x_then ?_ | refine x_block ?_)
            replace hS : St w2 _ ((b29, 49, ((tab m fun j => ofQ (kvF s.P s.M f k j)).set (s.P.getD k 0) (ofQ (- s.M k f))).flatMap encR) :: (R.map (Rw.blk encR 49) ++ LO)) := hS
            rw [kvF_set hI.inc hfP hkl] at hS
            repeat (with_reducible first | refine c_seq ?_ | refine c_block ?_ | refine c_skip ?_ | refine x_then ?_ | refine x_block ?_)
            refine c_reg ?_
            refine l_pure rfl (s_move  h8 ?_)
            refine l_pure rfl (s_add  rfl rfl (IntWalk.i64_in _ (by omega)) ?_)
            refine l_pure rfl (s_asg  rfl ?_)
            refine l_nil ?_
            repeat (with_reducible first | refine c_seq ?_ | refine c_block ?_ | refine c_skip ?_ | refine x_then ?_ | refine x_block ?_)
            exact ⟨k + 1, _, rfl, ⟨hkl, by assumption, by assumption, by assumption, by assumption, by assumption, by assumption, vi rfl (by omega), hS⟩, by omega⟩
          · refine c_no rfl (decide_eq_false (by omega)) ?_
            repeat (with_reducible first | refine c_seq ?_ | refine c_block ?_ | refine c_skip ?_ | refine x_then ?_ | refine x_block ?_)
            refine c_exit ?_
            repeat (with_reducible first | refine x_then_exit ?_ | refine x_block_exit ?_ | refine x_block_pass rfl ?_)
            repeat (with_reducible first | refine c_seq ?_ | refine c_block ?_ | refine c_skip ?_ | refine x_then ?_ | refine x_block ?_)
            obtain rfl : k = s.P.length := by omega
            have ek : (tab m fun j => ofQ (kvF s.P s.M f s.P.length j)) = krRow s.M s.P m f := tab_congr fun j _ => by rw [kvF_all]
            rw [ek] at hS
            exact ⟨_, rfl, h0', h3', h4', h5, h6, h7, hS⟩
        clear hS
        rintro ρ w4 ⟨h0', h3', h4', h5, h6, h7, hS⟩
        have hkl := tab_len m fun j => ofQ (kv s.P s.M f j)
        have hvn : (R.map Rw.v).length = R.length := List.length_map _
        have hRl : R.length ≤ f := by
          have := congrArg List.length hRX
          rw [List.length_map, List.length_map] at this
          have h2 := List.length_filter_le (fun f => !decide (f ∈ s.P)) (List.range f)
          rw [List.length_range] at h2
          unfold frL at this
          omega
        repeat (with_reducible first | refine c_seq ?_ | refine c_block ?_ | refine c_skip ?_ | refine x_then ?_ | refine x_block ?_)
        rw [← List.cons_append] at hS
        repeat (with_reducible first | refine c_seq ?_ | refine c_block ?_ | refine c_skip ?_ | refine x_then ?_ | refine x_block ?_)
        refine c_reg ?_
        refine l_pure rfl (s_move  h5 ?_)
        refine l_pure rfl (s_move  h7 ?_)
        refine l_heavy rfl (s_bsl (vs := [.slice (some ⟨b29, 0, none⟩) m m])  rfl si_22 rfl (by decide) (by decide) (by decide) (by simp [Value.cells]) rfl hS ?_)
        intro b8 wz9 hS hBz9
        refine l_heavy rfl (s_appl [Value.slice (some ⟨b29, 0, none⟩) m m]  rfl rfl si_22 (by decide) hG hS rfl rfl (fun _ => rfl) (fun u hu => by rw [List.mem_singleton.1 (show u ∈ [Value.slice (some ⟨b29, 0, none⟩) m m] from hu)]; rfl) (by first | omega | (simp only [List.length_cons, List.length_nil]; omega)) (by first | omega | (simp only [List.length_cons, List.length_nil]; omega)) ?_)
        intro va10 La10 wa10 hG hS hga10
        refine l_pure rfl (s_asg  rfl ?_)
        refine l_nil ?_
        repeat (with_reducible first | refine c_seq ?_ | refine c_block ?_ | refine c_skip ?_ | refine x_then ?_ | refine x_block ?_)
        refine c_reg ?_
        refine l_pure rfl (s_move  h6 ?_)
        refine l_pure rfl (s_add  rfl rfl (IntWalk.i64_in _ (by omega)) ?_)
        refine l_pure rfl (s_asg  rfl ?_)
        refine l_nil ?_
        repeat (with_reducible first | refine c_seq ?_ | refine c_block ?_ | refine c_skip ?_ | refine x_then ?_ | refine x_block ?_)
        obtain ⟨nr, hnr⟩ : ∃ nr : Rw RR, nr = ⟨b29, m, krRow s.M s.P m f, []⟩ := ⟨_, rfl⟩
        have evv : R.map Rw.v ++ [Value.slice (some ⟨b29, 0, none⟩) m m] = (R ++ [nr]).map Rw.v := by
          rw [List.map_append, hnr]
          show _ = R.map Rw.v ++ [Value.slice (some ⟨b29, 0, none⟩) (krRow s.M s.P m f).length m]
          unfold krRow; rw [hkl]
        have eb : ∀ T : List Blk, ((b29, 49, (krRow s.M s.P m f).flatMap encR) :: R.map (Rw.blk encR 49) ++ T).Perm ((R ++ [nr]).map (Rw.blk encR 49) ++ T) := by
          intro T
          have : List.map (Rw.blk encR 49) [nr] = [(b29, 49, (krRow s.M s.P m f).flatMap encR)] := by
            rw [hnr]
            show [(b29, 49, (krRow s.M s.P m f).flatMap encR ++ [])] = _
            rw [List.append_nil]
          rw [List.map_append, this]
          exact List.Perm.append_right _ (List.perm_append_singleton _ _).symm
        rw [evv] at hG
        have hS2 := hS.perm (eb _)
        refine ⟨f + 1, _, rfl, ⟨hlt, by assumption, by assumption, by assumption, vi rfl (by omega), _, _, R ++ [nr], rfl, ?_, ?_, hG, hS2⟩, by omega⟩
        · intro r hr
          rcases List.mem_append.1 hr with g | g
          · exact hok r g
          · rw [List.mem_singleton.1 g, hnr]
            exact ⟨by show (krRow s.M s.P m f).length ≤ m; unfold krRow; omega, by show m ≤ _; omega⟩
        · rw [hfs, List.map_append, List.map_append, hRX, hnr]; rfl
    · refine c_no rfl (decide_eq_false (by omega)) ?_
      repeat (with_reducible first | refine c_seq ?_ | refine c_block ?_ | refine c_skip ?_ | refine x_then ?_ | refine x_block ?_)
      refine c_exit ?_
      repeat (with_reducible first | refine x_then_exit ?_ | refine x_block_exit ?_ | refine x_block_pass rfl ?_)
      repeat (with_reducible first | refine c_seq ?_ | refine c_block ?_ | refine c_skip ?_ | refine x_then ?_ | refine x_block ?_)
      obtain rfl : f = m := by omega
      exact ⟨_, rfl, vo, LO, R, h5, hok, hRX, hG, hS⟩
  clear hS
  rintro ρ w3 ⟨vo, LO, R, h5, hok, hRX, hG, hS⟩
  repeat (with_reducible first | refine c_seq ?_ | refine c_block ?_ | refine c_skip ?_ | refine x_then ?_ | refine x_block ?_)
  have hmt := rows_mts (size := 3) encR_len hok hG hS
  rw [hRX] at hmt
  repeat (with_reducible first | refine c_seq ?_ | refine c_block ?_ | refine c_skip ?_ | refine x_then ?_ | refine x_block ?_)
  refine c_reg ?_
  refine l_pure rfl (s_move  h5 ?_)
  refine l_pure rfl (s_asg  rfl ?_)
  refine l_nil ?_
  repeat (with_reducible first | refine c_seq ?_ | refine c_block ?_ | refine c_skip ?_ | refine x_then ?_ | refine x_block ?_)
  refine c_ret ?_
  repeat (with_reducible first | refine x_then_ret ?_ | refine x_block_ret ?_)
  refine r_one rfl rfl ?_
  exact ⟨⟨_, hmt⟩, hS0.below.trans (hS.below.mono hS0.below.size)⟩
theorem rKernel_ok (v : Value) (A : List (List RR)) (vs : List Value) (K : Nat) (w : World) (hA : Mts encR 3 w v A vs) (hB : RBM K A) (hK : 8 * BB K 16 ≤ MX) :
    Ret Tryz.prog 16 #[v] w fun r w' => (∃ v' vs', r = .tuple #[v', .int .i64 (shpE A)] ∧ Mts encR 3 w' v' (krL A) vs') ∧ Below w.heap.size w w' := by
  have hM : MX = 1099511627776 := rfl
  have hBK := BB_K K 16
  have hS := St.init w
  refine enter Tryz.func16 rfl Tryz.ntmps16 rfl ?_
  repeat (with_reducible first | refine c_seq ?_ | refine c_block ?_ | refine c_skip ?_ | refine x_then ?_ | refine x_block ?_)
  refine c_reg ?_
  refine l_pure rfl (s_asg  rfl ?_)
  refine l_pure rfl (s_asg  rfl ?_)
  refine l_nil ?_
  repeat (with_reducible first | refine c_seq ?_ | refine c_block ?_ | refine c_skip ?_ | refine x_then ?_ | refine x_block ?_)
  refine c_reg ?_
  refine l_pure rfl (s_move  rfl ?_)
  refine l_heavy rfl (s_call Tryz.call38 rfl (rshape_ok v A vs _ (hA.below hS.below)) ?_)
  rintro _ wc1 ⟨rfl, hBc1⟩
  replace hS := hS.grow hBc1
  refine l_pure rfl (s_asg  rfl ?_)
  refine l_nil ?_
  repeat (with_reducible first | refine c_seq ?_ | refine c_block ?_ | refine c_skip ?_ | refine x_then ?_ | refine x_block ?_)
  refine c_reg ?_
  refine l_pure rfl (s_move  rfl ?_)
  refine l_pure rfl (s_neq  rfl rfl ?_)
  refine l_nil ?_
  repeat (with_reducible first | refine c_seq ?_ | refine c_block ?_ | refine c_skip ?_ | refine x_then ?_ | refine x_block ?_)
  by_cases he : shpE A ≠ 0
  · have e1 : krL A = [] := if_neg he
    rw [e1]
    refine c_yes rfl (decide_eq_true (by omega)) ?_
    repeat (with_reducible first | refine c_seq ?_ | refine c_block ?_ | refine c_skip ?_ | refine x_then ?_ | refine x_block ?_)
    refine c_reg ?_
    refine l_pure rfl (s_move  rfl ?_)
    refine l_pure rfl (s_asg  rfl ?_)
    refine l_pure rfl (s_asg  rfl ?_)
    refine l_nil ?_
    repeat (with_reducible first | refine c_seq ?_ | refine c_block ?_ | refine c_skip ?_ | refine x_then ?_ | refine x_block ?_)
    refine c_ret ?_
    repeat (with_reducible first | refine x_then_ret ?_ | refine x_block_ret ?_)
    refine r_two rfl rfl rfl ?_
    exact ⟨⟨_, [], rfl, Mts.nil _ _ _⟩, hS.below⟩
  replace he := Decidable.not_not.1 he
  obtain ⟨h1, h2, h3, h4, h5⟩ := shpE_zero he
  have e1 : krL A = (frL (rdA A).P (colsA A)).map (krRow (rdA A).M (rdA A).P (colsA A)) := if_pos he
  rw [e1, he]
  refine c_no rfl (decide_eq_false (by omega)) ?_
  repeat (with_reducible first | refine c_seq ?_ | refine c_block ?_ | refine c_skip ?_ | refine x_then ?_ | refine x_block ?_)
  refine c_reg ?_
  refine l_pure rfl (s_move  rfl ?_)
  refine l_heavy rfl (s_call Tryz.call40 rfl (lfixedRows_ok v A vs (colsA A) _ (hA.below hS.below) h1 (by omega) h3 (by omega) h5 (RBM_mono hB (by omega))) ?_)
  rintro r w2 ⟨⟨bo, cap, so, R, rfl, hc1, hc2, hR, hS2⟩, hB2⟩
  replace hS := hS.grow hB2
  have hmt := hR.mtsD [] hS2 encR_len hc1 hc2
  clear hS2
  refine l_heavy rfl (s_call Tryz.call44 rfl (rNullSpace_ok _ A.length (colsA A) (RM A) _ K _ hmt h1 h2 h3 h4 (fun i hi j hj => RM_L hB hi (by rw [h5 i hi]; exact hj)) (BB_ok hK h2)) ?_)
  rintro vk w3 ⟨⟨vs', hk⟩, hB3⟩
  replace hS := hS.grow hB3
  refine l_pure rfl (s_asg  rfl ?_)
  refine l_pure rfl (s_asg  rfl ?_)
  refine l_nil ?_
  repeat (with_reducible first | refine c_seq ?_ | refine c_block ?_ | refine c_skip ?_ | refine x_then ?_ | refine x_block ?_)
  refine c_ret ?_
  repeat (with_reducible first | refine x_then_ret ?_ | refine x_block_ret ?_)
  refine r_two rfl rfl rfl ?_
  exact ⟨⟨_, _, rfl, hk⟩, hS.below⟩
theorem LinearKernel_ok (va : Value) (A : List (List RR)) (vs : List Value) (w : World) (hA : Mts encR 3 w va A vs) :
    Ret Tryz.prog 4 #[va] w fun v w' => v = .bool true ∧ Below w.heap.size w w' := by
  have hM : MX = 1099511627776 := rfl
  have hS := St.init w
  refine enter Tryz.func4 rfl Tryz.ntmps4 rfl ?_
  repeat (with_reducible first | refine c_seq ?_ | refine c_block ?_ | refine c_skip ?_ | refine x_then ?_ | refine x_block ?_)
  refine c_reg ?_
  refine l_pure rfl (s_asg  rfl ?_)
  refine l_nil ?_
  repeat (with_reducible first | refine c_seq ?_ | refine c_block ?_ | refine c_skip ?_ | refine x_then ?_ | refine x_block ?_)
  refine c_reg ?_
  refine l_pure rfl (s_move  rfl ?_)
  refine l_heavy rfl (s_call Tryz.call9 rfl (FewRows_ok va A vs _ (hA.below hS.below)) ?_)
  rintro _ wc1 ⟨rfl, hBc1⟩
  replace hS := hS.grow hBc1
  refine l_pure rfl (s_not  rfl ?_)
  refine l_nil ?_
  repeat (with_reducible first | refine c_seq ?_ | refine c_block ?_ | refine c_skip ?_ | refine x_then ?_ | refine x_block ?_)
  cases hf : fewA A with
  | false =>
    refine c_yes rfl (rfl) ?_
    repeat (with_reducible first | refine c_seq ?_ | refine c_block ?_ | refine c_skip ?_ | refine x_then ?_ | refine x_block ?_)
    refine c_reg ?_
    refine l_heavy rfl (s_call Tryz.call11 rfl (Lawake_ok _) ?_)
    rintro _ wc2 ⟨rfl, hBc2⟩
    replace hS := hS.grow hBc2
    refine l_pure rfl (s_asg  rfl ?_)
    refine l_nil ?_
    repeat (with_reducible first | refine c_seq ?_ | refine c_block ?_ | refine c_skip ?_ | refine x_then ?_ | refine x_block ?_)
    refine c_ret ?_
    repeat (with_reducible first | refine x_then_ret ?_ | refine x_block_ret ?_)
    refine r_one rfl rfl ?_
    exact ⟨rfl, hS.below⟩
  | true =>
  obtain ⟨_, hRB, _⟩ := fewA_B hf
  refine c_no rfl (rfl) ?_
  repeat (with_reducible first | refine c_seq ?_ | refine c_block ?_ | refine c_skip ?_ | refine x_then ?_ | refine x_block ?_)
  refine c_reg ?_
  refine l_pure rfl (s_move  rfl ?_)
  refine l_heavy rfl (s_call Tryz.call15 rfl (lKernel_ok va A vs 24 _ (hA.below hS.below) hRB K24) ?_)
  rintro r w2 ⟨⟨v1, vs1, rfl, hm1⟩, hB2⟩
  replace hS := hS.grow hB2
  refine l_pure rfl (s_move  rfl ?_)
  refine l_pure rfl (s_ext  rfl rfl ?_)
  refine l_pure rfl (s_ext  rfl rfl ?_)
  refine l_pure rfl (s_asg  rfl ?_)
  refine l_pure rfl (s_asg  rfl ?_)
  refine l_nil ?_
  repeat (with_reducible first | refine c_seq ?_ | refine c_block ?_ | refine c_skip ?_ | refine x_then ?_ | refine x_block ?_)
  refine c_reg ?_
  refine l_pure rfl (s_move  rfl ?_)
  refine l_heavy rfl (s_call Tryz.call16 rfl (rKernel_ok va A vs 24 _ (hA.below hS.below) hRB K24) ?_)
  rintro r w3 ⟨⟨v2, vs2, rfl, hm2⟩, hB3⟩
  replace hS := hS.grow hB3
  replace hm1 := hm1.below hB3
  refine l_pure rfl (s_move  rfl ?_)
  refine l_pure rfl (s_ext  rfl rfl ?_)
  refine l_pure rfl (s_ext  rfl rfl ?_)
  refine l_pure rfl (s_asg  rfl ?_)
  refine l_pure rfl (s_asg  rfl ?_)
  refine l_nil ?_
  repeat (with_reducible first | refine c_seq ?_ | refine c_block ?_ | refine c_skip ?_ | refine x_then ?_ | refine x_block ?_)
  refine c_reg ?_
  refine l_heavy rfl (s_call Tryz.call11 rfl (Lawake_ok _) ?_)
  rintro r wa ⟨rfl, hBa⟩
  replace hS := hS.grow hBa
  replace hm1 := hm1.below hBa
  replace hm2 := hm2.below hBa
  refine l_pure rfl (s_move  rfl ?_)
  refine l_pure (gd_yes 22 (by kernel_rfl) rfl rfl) (s_move  rfl ?_)
  refine l_pure (gd_yes 22 (by kernel_rfl) rfl rfl) (s_move  rfl ?_)
  refine l_heavy (gd_yes 22 (by kernel_rfl) rfl rfl) (s_call Tryz.call17 rfl (SameRows_eq _ _ _ _ _ _ hm1 hm2) ?_)
  rintro r w6 ⟨rfl, hB6⟩
  replace hS := hS.grow hB6
  refine l_pure rfl (s_pick (vb rfl rfl) rfl ?_)
  refine l_pure rfl (s_move  rfl ?_)
  refine l_pure (gd_yes 27 (by kernel_rfl) rfl rfl) (s_move  rfl ?_)
  refine l_pure (gd_yes 27 (by kernel_rfl) rfl rfl) (s_move  rfl ?_)
  refine l_pure (gd_yes 27 (by kernel_rfl) rfl rfl) (s_eql  rfl rfl ?_)
  refine l_pure rfl (s_pick (vb rfl rfl) rfl ?_)
  refine l_pure rfl (s_asg  rfl ?_)
  refine l_nil ?_
  repeat (with_reducible first | refine c_seq ?_ | refine c_block ?_ | refine c_skip ?_ | refine x_then ?_ | refine x_block ?_)
  refine c_ret ?_
  repeat (with_reducible first | refine x_then_ret ?_ | refine x_block_ret ?_)
  refine r_one rfl rfl ?_
  exact ⟨vb rfl (decide_eq_true rfl), hS.below⟩
end Go.Proofs.YtblfipdfklpmmaaGreatDoor
