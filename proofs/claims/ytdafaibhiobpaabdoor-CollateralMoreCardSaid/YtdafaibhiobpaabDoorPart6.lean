/-
  Part 6 of the texts that the laws' proofs share: the framework and the walks.
-/
import Derived.Test.YtdafaibhiobpaabDoorPart5
import Derived.ProofKit
import Derived.OpenShut
import Derived.LaidMore
import Derived.Lay
import Derived.ChangeSlices
import Derived.Carry
import Derived.WideShapes
import Derived.Test.YtdafaibhiobpaabDoorTie
import Derived.SevenTiedAt
import Derived.Stop.Joined
namespace Go.Sx
open Go Go.RowKit
section
variable {P : Program} {ops : Array Oper}
def maskOr (M : List Nat) : List Edge → Nat
  | [] => 0
  | e :: l => bif Region.binds .any e then (2 ^ e.on ||| M.getD e.on 0) ||| maskOr M l else maskOr M l
def lowEdges (i : Nat) : List Edge → Bool
  | [] => true
  | e :: l => (!Region.binds .any e || Nat.blt e.on i) && lowEdges i l
def masksOk (M : List Nat) : List Oper → Nat → Bool
  | [], _ => true
  | o :: l, i => lowEdges i o.after.toList && Nat.beq (M.getD i 0) (maskOr M o.after.toList) && masksOk M l (i + 1)
theorem tdep_succ : ∀ n i h, tdep ops n i h = true → tdep ops (n + 1) i h = true
  | 0, i, h, ht => by cases ht
  | n + 1, i, h, ht => by
    unfold tdep at ht ⊢
    cases ho : ops[i]? with
    | none => rw [ho] at ht; cases ht
    | some o =>
      rw [ho] at ht
      simp only [Array.any_eq_true', Bool.and_eq_true, Bool.or_eq_true] at ht ⊢
      obtain ⟨e, he, hb, h1⟩ := ht
      exact ⟨e, he, hb, h1.imp id (tdep_succ n e.on h)⟩
theorem tdep_mono {n m i h : Nat} (hnm : n ≤ m) (ht : tdep ops n i h = true) : tdep ops m i h = true := by
  induction hnm with
  | refl => exact ht
  | step _ ih => exact tdep_succ _ _ _ ih
theorem maskOr_bit {M : List Nat} {h : Nat} : ∀ {l : List Edge}, (maskOr M l).testBit h = true → ∃ e ∈ l, Region.binds .any e = true ∧ (e.on = h ∨ (M.getD e.on 0).testBit h = true)
  | [], hb => by simp [maskOr] at hb
  | e :: l, hb => by
    unfold maskOr at hb
    cases hbi : Region.binds .any e with
    | false =>
      rw [hbi] at hb
      obtain ⟨e', he', h'⟩ := maskOr_bit hb
      exact ⟨e', List.mem_cons_of_mem _ he', h'⟩
    | true =>
      rw [hbi] at hb
      simp only [cond_true, Nat.testBit_or, Bool.or_eq_true] at hb
      rcases hb with (hb | hb) | hb
      · rw [Nat.testBit_two_pow] at hb
        exact ⟨e, List.mem_cons_self .., hbi, .inl (of_decide_eq_true hb)⟩
      · exact ⟨e, List.mem_cons_self .., hbi, .inr hb⟩
      · obtain ⟨e', he', h'⟩ := maskOr_bit hb
        exact ⟨e', List.mem_cons_of_mem _ he', h'⟩
theorem lowEdges_lt {i : Nat} : ∀ {l : List Edge}, lowEdges i l = true → ∀ e ∈ l, Region.binds .any e = true → e.on < i
  | [], _, e, he, _ => by cases he
  | x :: l, h, e, he, hb => by
    simp only [lowEdges, Bool.and_eq_true, Bool.or_eq_true] at h
    rcases List.mem_cons.1 he with rfl | he
    · rcases h.1 with q | q
      · rw [hb] at q; cases q
      · rwa [Nat.blt_eq] at q
    · exact lowEdges_lt h.2 e he hb
theorem masksOk_at {M : List Nat} : ∀ {l : List Oper} {k : Nat}, masksOk M l k = true → ∀ j o, l[j]? = some o → lowEdges (k + j) o.after.toList = true ∧ M.getD (k + j) 0 = maskOr M o.after.toList
  | [], k, _, j, o, ho => by simp at ho
  | x :: l, k, h, j, o, ho => by
    simp only [masksOk, Bool.and_eq_true] at h
    cases j with
    | zero =>
      simp only [List.getElem?_cons_zero, Option.some.injEq] at ho
      subst ho
      exact ⟨h.1.1, Nat.eq_of_beq_eq_true h.1.2⟩
    | succ j =>
      have := masksOk_at h.2 j o (by simpa using ho)
      rw [show k + (j + 1) = k + 1 + j by omega]
      exact this
theorem masks_sound {l : List Oper} {M : List Nat} (hM : masksOk M l 0 = true) (hML : M.length = l.length) : ∀ i h, (M.getD i 0).testBit h = true → tdep l.toArray (i + 1) i h = true := by
  intro i
  induction i using Nat.strongRecOn with
  | _ i ih =>
    intro h hb
    have hil : i < l.length := by
      rcases Nat.lt_or_ge i l.length with q | q
      · exact q
      · rw [List.getD_eq_getElem?_getD, List.getElem?_eq_none (by omega)] at hb
        simp at hb
    have ho : l[i]? = some l[i] := List.getElem?_eq_getElem hil
    have hat := masksOk_at hM i _ ho
    rw [Nat.zero_add] at hat
    rw [hat.2] at hb
    obtain ⟨e, he, hbi, h1⟩ := maskOr_bit hb
    have hlt := lowEdges_lt hat.1 e he hbi
    unfold tdep
    rw [List.getElem?_toArray, ho]
    simp only [Array.any_eq_true', Bool.and_eq_true, Bool.or_eq_true]
    refine ⟨e, by simpa using he, hbi, ?_⟩
    rcases h1 with q | q
    · exact .inl (by rw [q]; exact Nat.beq_refl h)
    · exact .inr (tdep_mono (by omega) (ih e.on hlt h q))
def pairsOkM (ops : Array Oper) (M : List Nat) : List (Nat × Md) → Bool
  | [] => true
  | i :: σ => (σ.all fun j => !Nat.beq i.1 j.1 && ((M.getD j.1 0).testBit i.1 || swapOk ops i j)) && pairsOkM ops M σ
theorem pairsOk_of_M {l : List Oper} {M : List Nat} (hM : masksOk M l 0 = true) (hML : M.length = l.length) : ∀ {σ : List (Nat × Md)}, (∀ x ∈ σ, x.1 < l.length) → pairsOkM l.toArray M σ = true → pairsOk l.toArray l.length σ = true
  | [], _, _ => rfl
  | i :: σ, hlt, h => by
    simp only [pairsOkM, Bool.and_eq_true, List.all_eq_true, Bool.or_eq_true] at h
    simp only [pairsOk, Bool.and_eq_true, List.all_eq_true, Bool.or_eq_true]
    refine ⟨fun j hj => ⟨(h.1 j hj).1, (h.1 j hj).2.imp (fun q => ?_) id⟩, pairsOk_of_M hM hML (fun x hx => hlt x (List.mem_cons_of_mem _ hx)) h.2⟩
    have := hlt j (List.mem_cons_of_mem _ hj)
    exact tdep_mono (by omega) (masks_sound hM hML _ _ q)
def drawOkM (l : List Oper) (M : List Nat) (σ : List (Nat × Md)) : Bool :=
  Nat.ble σ.length l.length && (List.range l.length).all (fun i => σ.any fun x => Nat.beq x.1 i) && σ.all (fun x => Nat.blt x.1 l.length) && (Nat.beq M.length l.length && masksOk M l 0 && pairsOkM l.toArray M σ) && topoOk l.toArray σ &&
  l.all fun o => match o.op with | .select .. => false | _ => true
theorem drawOk_of_M {l : List Oper} {M : List Nat} {σ : List (Nat × Md)} (h : drawOkM l M σ = true) : drawOk l.toArray σ = true := by
  simp only [drawOkM, Bool.and_eq_true] at h
  obtain ⟨⟨⟨⟨⟨h1, h2⟩, h3⟩, ⟨⟨h4, h5⟩, h6⟩⟩, h7⟩, h8⟩ := h
  have hs : l.toArray.size = l.length := by simp
  simp only [drawOk, Bool.and_eq_true, hs]
  refine ⟨⟨⟨⟨⟨h1, h2⟩, h3⟩, pairsOk_of_M h5 (Nat.eq_of_beq_eq_true h4) (fun x hx => ?_) h6⟩, h7⟩, ?_⟩
  · have := List.all_eq_true.1 h3 x hx
    rwa [Nat.blt_eq] at this
  · rw [← hs, Array.all_eq_true']
    intro x hx
    have hx := List.all_eq_true.1 h8 x (by simpa using hx)
    cases hop : x.op <;> first | rfl | (rw [hop] at hx; cases hx)
end
section
variable {P : Program} {N : Nat} {ρ : Nat → Value} {w0 w : World} {Q : Exit → Act → World → Prop} {H : List Blk}
theorem c_forget {C : Code} {ρ : Nat → Value} {w : World} (M : (Nat → Value) → Prop) (h0 : M ρ) (h : ∀ ρ, M ρ → C.wp P Q (act N ρ) w) : C.wp P Q (act N ρ) w := h ρ h0
theorem c_drawM {id : Nat} {l : List Oper} (M : List Nat) (σ : List (Nat × Md)) (hm : P.follows .mixedOrders = true) (hchk : drawOkM l M σ = true) (hS : St w0 w H)
    (h : ∀ w', St w0 w' H → Below w.heap.size w w' → Wr P l.toArray (Q .normal) σ N ρ w') : (Code.region id l.toArray true).wp P Q (act N ρ) w :=
  c_draw σ hm (drawOk_of_M hchk) hS h
end
end Go.Sx
namespace Go.Proofs.YtdafaibhiobpaabDoor
open Go Go.RowKit Go.Sx

theorem built_It2 (p : RR) (a : Option Addr) (n c : Nat) : Tryd.prog.built 31 [(0, aggR p), (2, .slice a n c)] = some #[.bool p.neg, .string p.num, .string p.den, .bool false, .string ⟨#[]⟩, .string ⟨#[]⟩, .slice a n c] := by kernel_rfl
theorem built_Ch1 (a : Int) : Tryd.prog.built 45 [(0, .int .i64 a)] = some #[.int .i64 a, .int .i64 0, .bool false, .bool false, .string ⟨#[]⟩, .string ⟨#[]⟩] := by kernel_rfl
theorem its_X2 {w0 w : World} {H : List Blk} {T T2 : TypeId} {bi b0 b1 : Nat} (hS : St w0 w ((bi, T, (X2.zip [.slice (some ⟨b0, 0, none⟩) 2 2, .slice (some ⟨b1, 0, none⟩) 1 1]).flatMap encIt) :: (b1, T2, [c0_].flatMap encCh) :: (b0, T2, [c0_, c1_].flatMap encCh) :: H)) :
    Its w (.slice (some ⟨bi, 0, none⟩) 2 2) X2 [.slice (some ⟨b0, 0, none⟩) 2 2, .slice (some ⟨b1, 0, none⟩) 1 1] := by
  have h2 : Sl encCh 6 w (.slice (some ⟨b0, 0, none⟩) 2 2) [c0_, c1_] := hS.sle (k := 2) (L := [c0_, c1_]) (n := 2) (cap := 2) rfl encCh_len (Nat.le_refl _) (Nat.le_refl _) (by decide)
  have h1 : Sl encCh 6 w (.slice (some ⟨b1, 0, none⟩) 1 1) [c0_] := hS.sle (k := 1) (L := [c0_]) (n := 1) (cap := 1) rfl encCh_len (Nat.le_refl _) (Nat.le_refl _) (by decide)
  refine ⟨rfl, hS.sle (k := 0) (L := X2.zip [.slice (some ⟨b0, 0, none⟩) 2 2, .slice (some ⟨b1, 0, none⟩) 1 1]) (n := 2) (cap := 2) rfl encIt_len (Nat.le_refl _) (Nat.le_refl _) (by decide), fun i hi => ?_⟩
  match i, hi with
  | 0, _ => exact h2
  | 1, _ => exact h1
  | n + 2, h => exact absurd h (by show ¬ n + 2 < 2; omega)
theorem int50_ok (w : World) : Ret Tryd.prog 21 #[.int .i64 50] w fun v w' => v = aggR Q50 ∧ Below w.heap.size w w' := QInt_ok 50 w (by decide) (by decide)
theorem int00_ok (w : World) : Ret Tryd.prog 21 #[.int .i64 0] w fun v w' => v = aggR Q00 ∧ Below w.heap.size w w' := QInt_ok 0 w (by decide) (by decide)
end Go.Proofs.YtdafaibhiobpaabDoor
namespace Go.Proofs.YtdafaibhiobpaabDoor
open Go Go.RowKit Go.Sx

theorem toQ_nat {n : Nat} : ¬ toQ (ofQ ((n : Int) : Rat)) < 0 := by
  rw [toQ_ofQ]
  exact Rat.not_lt.2 (Rat.intCast_nonneg.2 (Int.natCast_nonneg _))
theorem toQ_amR {x : Nat} : ¬ toQ (amR x) < 0 := by
  unfold amR
  rw [toQ_ofQ]
  exact Rat.not_lt.2 (amtQ_nonneg x)
theorem chs_mem {m : Nat} {x : Nat → Nat} {k : Nat} {c : Ch} (h : c ∈ chs m x k) : m ≠ 0 ∧ ∃ y, c = chOf m y := by
  unfold chs at h
  split at h
  · cases h
  · next hm =>
    obtain ⟨j, _, rfl⟩ := List.mem_map.1 h
    exact ⟨hm, _, rfl⟩
theorem Lr_chOf (m y : Nat) : Lr (chOf m y).limit ≤ 1 := by
  unfold chOf
  simp only
  split
  · rw [Lr_ofQ]; exact L_small (by omega)
  · rw [Lr_zRR]; exact Nat.le_refl _
theorem chErr_of {m y : Nat} (hm : m ≠ 0) : chErr m (chOf m y) = 0 := by
  unfold chErr
  have h1 : ¬ ((chOf m y).claim < 0 ∨ (m : Int) ≤ (chOf m y).claim) := by
    show ¬ (((y / 4 % m : Nat) : Int) < 0 ∨ (m : Int) ≤ ((y / 4 % m : Nat) : Int))
    have := Nat.mod_lt (y / 4) (Nat.pos_of_ne_zero hm)
    omega
  have h2 : ¬ ((chOf m y).lim = true ∧ toQ (chOf m y).limit < 0) := by
    rintro ⟨h, g⟩
    have hy : y % 4 = 1 := of_decide_eq_true h
    unfold chOf at g
    simp only [if_pos hy] at g
    exact toQ_nat g
  rw [if_neg h1, if_neg h2]
theorem firstE_none {α : Type} {f : α → Int} {l : List α} (h : ∀ x ∈ l, f x = 0) : firstE f l = 0 := by
  induction l with
  | nil => rfl
  | cons x l ih =>
    rw [firstE, if_pos (h x (List.mem_cons_self ..))]
    exact ih fun y hy => h y (List.mem_cons_of_mem _ hy)
theorem items_B (l : List (Nat → Nat)) (m n : Nat) : ItB 1 (itemsL l m n) := by
  intro x hx
  obtain ⟨y, _, rfl⟩ := List.mem_map.1 hx
  refine ⟨?_, ?_, fun c hc => ?_⟩
  · show Lr (amR (y 0)) ≤ 1
    unfold amR
    rw [Lr_ofQ]; exact L_amtQ _
  · show Lr (ofQ (((y 1 % 4 : Nat) : Int) : Rat)) ≤ 1
    rw [Lr_ofQ]; exact L_small (by omega)
  · obtain ⟨_, z, rfl⟩ := chs_mem hc
    exact Lr_chOf m z
theorem items_check (l : List (Nat → Nat)) (a : List Nat) (n k : Nat) (hn : n ≤ 8) (hk : k ≤ 24) : checkE (itemsL l (amts a k).length n) (amts a k) = 0 := by
  have h1 := itemsL_len l (amts a k).length n
  have h2 := amts_len a k
  unfold checkE
  rw [if_neg (by omega), if_neg]
  · refine firstE_none fun x hx => ?_
    obtain ⟨y, _, rfl⟩ := List.mem_map.1 hx
    unfold itErr
    have h3 := chs_len (amts a k).length y 4
    rw [if_neg (by show ¬ 8 < (chs (amts a k).length y 4).length; omega), if_neg]
    · refine firstE_none fun c hc => ?_
      obtain ⟨hm, z, rfl⟩ := chs_mem (show c ∈ chs (amts a k).length y 4 from hc)
      exact chErr_of hm
    · rintro (g | g)
      · exact toQ_amR g
      · exact toQ_nat g
  · rw [negs, List.any_eq_true]
    rintro ⟨r, hr, h⟩
    obtain ⟨y, _, rfl⟩ := List.mem_map.1 hr
    exact toQ_amR (of_decide_eq_true h)

end Go.Proofs.YtdafaibhiobpaabDoor
namespace Go.Sx
open Go Go.RowKit Go.ChangeShapes Go.WideShapes Go.Proofs.YtdafaibhiobpaabDoor
section
variable {H : Type} {enc : TypeId × Value → H} {P : Program} {w : World}
theorem add_add (a : Addr) (m n : Nat) : (a.add m).add n = a.add (m + n) := by
  obtain ⟨b, o, s⟩ := a
  unfold Addr.add
  by_cases hn : n = 0
  · subst hn; simp
  · by_cases hm : m = 0
    · subst hm; simp [hn]
    · simp [hn, hm, Nat.add_assoc]
theorem at_one {a : Addr} {u : Value} (h : w.cell? a = some u) : At w a [u] := At.one h
/-- An argument of type []uint16, read as a list of numbers. -/
theorem open_u16s {t e : TypeId} {v : Value} {d : DataW H} {ps : List MemPlace} {b0 : Nat} (ht : P.underlying t = some (.slice e)) (he : P.underlying e = some (.int .u16)) (hc : P.cellsOf e = 1)
    (hval : Value.okWide P w .any b0 t v) (h : DataW.Trod enc P w 0 (fun _ => true) true t v d ps) : ∃ l : List Nat, Sl (uk .u16) 1 w v l ∧ ∀ x ∈ l, x < 65536 := by
  obtain ⟨a0, len0, cap0, rfl⟩ := okWide_slice ht hval
  obtain ⟨fuel, hf⟩ := h
  rcases open_ints ht he hc hf with ⟨h1, _⟩ | ⟨a, len, cap, zs, h1, _, hlc, hm, hz, _, hcell, hw⟩
  · simp only [Value.cells, List.cons.injEq, and_true] at h1
    rw [h1]
    exact ⟨[], Sl.nil _ _ _, fun x hx => by cases hx⟩
  · simp only [Value.cells, List.cons.injEq, and_true] at h1
    rw [h1]
    have hzl : zs.length = cap := by simpa using hz
    have hb : ∀ n ∈ zs, 0 ≤ n ∧ n ≤ 65535 := fun n hn => bounds_u16 (hw n hn)
    have hl : ((zs.take len).map Int.toNat).length = len := by rw [List.length_map, List.length_take]; omega
    refine ⟨(zs.take len).map Int.toNat, ⟨⟨some a, cap, by rw [hl], by rw [hl]; exact hlc, hm, fun q => by cases q⟩, fun i hi => ?_⟩, fun x hx => ?_⟩
    · rw [hl] at hi
      have hi2 : i < zs.length := by omega
      have h2 := hcell i hi2
      have h3 : zs.getD i 0 = zs[i] := by rw [List.getD_eq_getElem?_getD, List.getElem?_eq_getElem hi2]; rfl
      have h4 := hb _ (List.getElem_mem hi2)
      rw [Nat.mul_one]
      refine at_one ?_
      show w.cell? (a.add i) = _
      rw [h2, h3, List.getElem_map, List.getElem_take, Int.toNat_of_nonneg h4.1]
    · obtain ⟨z, hz2, rfl⟩ := List.mem_map.1 hx
      have := hb z (List.mem_of_mem_take hz2)
      omega
/-- An argument of type [][6]uint16, read as a list of rows. -/
theorem open_u16rows {t e q : TypeId} {v : Value} {d : DataW H} {ps : List MemPlace} {b0 : Nat} (ht : P.underlying t = some (.slice e)) (he : P.underlying e = some (.array 6 q)) (hq : P.underlying q = some (.int .u16)) (hce : P.cellsOf e = 6) (hcq : P.cellsOf q = 1)
    (hval : Value.okWide P w .any b0 t v) (h : DataW.Trod enc P w 0 (fun _ => true) true t v d ps) : ∃ l : List (Nat → Nat), Sl enc6 6 w v l ∧ ∀ x ∈ l, ∀ i, i < 6 → x i < 65536 := by
  obtain ⟨a0, len0, cap0, rfl⟩ := okWide_slice ht hval
  obtain ⟨fuel, hf⟩ := h
  rcases DataW.trod_slice ht hf with ⟨h1, _⟩ | ⟨a, len, cap, elems, rest, n, _, h1, _, _, hlc, hm, hlen, hel, _, _⟩
  · simp only [Value.cells, List.cons.injEq, and_true] at h1
    rw [h1]
    exact ⟨[], Sl.nil _ _ _, fun x hx => by cases hx⟩
  · simp only [Value.cells, List.cons.injEq, and_true] at h1
    rw [h1]
    have each : ∀ i, i < len → ∃ x : Nat → Nat, (∀ j, j < 6 → x j < 65536) ∧ ∀ j, j < 6 → w.cell? (a.add (i * 6 + j)) = some (.int .u16 (x j)) := by
      intro i hi
      have h2 := hel i hi
      rw [hce, List.getElem?_eq_getElem (by omega : i < elems.length), Option.bind_eq_some_iff] at h2
      obtain ⟨cs, hcs, htr⟩ := h2
      obtain ⟨_, hcl, hcell⟩ := World.cells?_some hcs
      obtain ⟨xs, m, _, _, _, hxl, hxs⟩ := DataW.trod_array he htr
      have hone : ∀ j, j < 6 → ∃ z : Nat, z < 65536 ∧ cs[j]? = some (.int .u16 (z : Int)) := by
        intro j hj
        have h3 := hxs j hj
        rw [hcq, Nat.mul_one, List.getElem?_eq_getElem (by omega)] at h3
        obtain ⟨z, e1, _, hw⟩ := DataW.trod_int hq h3
        have hb := bounds_u16 hw
        refine ⟨z.toNat, by omega, ?_⟩
        have h0 : ((cs.drop j).take 1)[0]? = some (.int .u16 z) := by rw [e1]; rfl
        rw [Int.toNat_of_nonneg hb.1]
        simpa using h0
      refine ⟨fun j => if hj : j < 6 then Classical.choose (hone j hj) else 0, fun j hj => ?_, fun j hj => ?_⟩
      · simp only [hj, dite_true]
        exact (Classical.choose_spec (hone j hj)).1
      · simp only [hj, dite_true]
        rw [← (Classical.choose_spec (hone j hj)).2, ← hcell j hj, add_add]
    refine ⟨(List.range len).map fun i => if hi : i < len then Classical.choose (each i hi) else fun _ => 0, ⟨⟨some a, cap, by simp, by simp; exact hlc, hm, fun q => by cases q⟩, fun i hi => ?_⟩, fun x hx i hi => ?_⟩
    · have hil : i < len := by simpa using hi
      intro j u hu
      rw [List.getElem_map, List.getElem_range] at hu
      simp only [hil, dite_true] at hu
      have hj : j < 6 := by
        rcases Nat.lt_or_ge j 6 with q | q
        · exact q
        · rw [List.getElem?_eq_none (by rw [enc6_len]; exact q)] at hu; cases hu
      unfold enc6 at hu
      rw [Kr_get _ _ (by rw [tab_len]; exact hj), tab_get _ _ hj] at hu
      rw [← Option.some.inj hu]
      show w.cell? ((a.add (i * 6)).add j) = _
      rw [add_add]
      exact (Classical.choose_spec (each i hil)).2 j hj
    · obtain ⟨k, hk, rfl⟩ := List.mem_map.1 hx
      have hkl := List.mem_range.1 hk
      simp only [hkl, dite_true]
      exact (Classical.choose_spec (each k hkl)).1 i hi
/-- The arguments read behind the call as they did before. -/
theorem args_kept (hl : laidOutB P = true) {w' : World} (hb : Below w.heap.size w w') : ∀ {ts : List TypeId} {vs : List Value} {ds : List (DataW H)} {ps : List MemPlace}, (∀ t ∈ ts, P.readableRec t = true ∧ t < P.types.size) → (∀ x ∈ ps, x.block < w.heap.size) →
    DataW.TrodAll enc P w 0 (fun _ => true) true ts vs ds ps → DataW.TrodAll enc P w' 0 (fun b => decide (b < w.heap.size)) true ts vs ds ps
  | [], [], [], _, _, _, h => h
  | t :: ts, v :: vs, d :: ds, ps, hT, hlt, ⟨p, q, h1, h2, e⟩ => by
    subst e
    exact ⟨p, q, Below.trod hl (hT t (List.mem_cons_self ..)).1 (hT t (List.mem_cons_self ..)).2 h1 hb (fun x hx => hlt x (List.mem_append_left _ hx)),
      args_kept hl hb (fun t ht => hT t (List.mem_cons_of_mem _ ht)) (fun x hx => hlt x (List.mem_append_right _ hx)) h2, rfl⟩
  | [], [], _ :: _, _, _, _, h => h.elim
  | [], _ :: _, [], _, _, _, h => h.elim
  | [], _ :: _, _ :: _, _, _, _, h => h.elim
  | _ :: _, [], [], _, _, _, h => h.elim
  | _ :: _, [], _ :: _, _, _, _, h => h.elim
  | _ :: _, _ :: _, [], _, _, _, h => h.elim
/-- A law's last step: the call answers, and what was there is as it was. -/
theorem law_post {f : Func} {s : ChangeSpec} {w' : World} {args : Array Value} {v : Value} {ds gs : List (DataW H)} {before : List MemPlace} (hl : laidOutB P = true)
    (hW : DataW.Whole enc P f.params.toList s.vars false w args.toList ds gs before) (hT : ∀ t ∈ f.params.toList, P.readableRec t = true ∧ t < P.types.size) (hv : s.vars = []) (hb : Below w.heap.size w w')
    (hres : DataW.TrodAll enc P w' w.heap.size (fun _ => false) false f.resultTypes.toList (v.resultList f.resultTypes.size) (s.fn H (ds ++ gs)).results []) (hargs : (s.fn H (ds ++ gs)).args = ds) (hvars : (s.fn H (ds ++ gs)).vars = []) :
    s.post enc P f false true false false w args v w' := by
  have hlt : ∀ x ∈ before, x.block < w.heap.size := fun x hx => hW.lt x hx
  have hW2 := hW
  obtain ⟨p, q, h1, h2, rfl, _, _⟩ := hW
  rw [hv] at h2
  obtain ⟨rfl, rfl⟩ := trodVars_none h2
  rw [List.append_nil] at hlt
  refine ⟨ds, [], _, [], p, [], hW2, hres, ?_, ?_, hb.frame _, fun q => by cases q⟩
  · rw [hargs]; exact args_kept hl hb hT hlt h1
  · rw [hvars, hv]; exact rfl
end
end Go.Sx
namespace Go.Proofs.YtdafaibhiobpaabDoor
open Go Go.RowKit Go.Sx Go.ChangeShapes Go.WideShapes Go.ChangeAt

theorem ownNone : ownKnob Tryd.prog.godebug = none := by kernel_rfl
theorem laidOut : laidOutB Tryd.prog = true := by kernel_rfl
def tzD : DataW Unit := .agg (tzTab.map fun n : Nat => .lit (.int .u8 (n : Int)))
end Go.Proofs.YtdafaibhiobpaabDoor
