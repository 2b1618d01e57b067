/-
  Walks: the library's stable sort of at most twenty indexes, whole.
-/
import Derived.Test.YtblfipdfklpmmabDoorPart4
namespace Go.Sx
open Go Go.RowKit

section
variable {P : Program} {N : Nat} {ρ : Nat → Value} {w0 w w' : World}
  {d : Option Tmp} {ty : TypeId} {pos : String} {aft : Array Edge} {g : Option (Nat × Bool)} {x y z : Operand} {t t' e : TypeId} {H : List Blk} {k b o : Nat} {v : Value} {K : Value → Prop} {K2 : Value → World → Prop}
theorem flat_elemG {α : Type} {enc : α → List Value} {size : Nat} (hu : ∀ x, (enc x).length = size) (L : List α) (sp : List Value) (d : α) {i : Nat} (hi : i < L.length) : ((L.flatMap enc ++ sp).drop (i * size)).take size = enc (L.getD i d) := by
  have h1 : (i + 1) * size ≤ L.length * size := Nat.mul_le_mul_right _ hi
  rw [Nat.add_mul] at h1
  have h2 := flat_len hu L
  rw [List.drop_append_of_le_length (by omega), List.take_append_of_le_length (by rw [List.length_drop]; omega)]
  exact flat_elem hu L d hi
theorem flat_setG {α : Type} {enc : α → List Value} {size : Nat} (hu : ∀ x, (enc x).length = size) (L : List α) (sp : List Value) (x : α) {i : Nat} (hi : i < L.length) : splice (L.flatMap enc ++ sp) (i * size) (enc x) = (L.set i x).flatMap enc ++ sp := by
  have h1 : (i + 1) * size ≤ L.length * size := Nat.mul_le_mul_right _ hi
  rw [Nat.add_mul] at h1
  have h2 := flat_len hu L
  rw [← flat_set hu L x hi]
  unfold splice
  rw [List.take_append_of_le_length (by omega), List.drop_append_of_le_length (by rw [hu]; omega)]
  simp
theorem s_ldS {α : Type} {enc : α → List Value} {size : Nat} {L : List α} {sp : List Value} {i : Nat} {zz : List Value} {agg : Bool} (dd : α) (hu : ∀ x, (enc x).length = size) (hx : ev N ρ x = .pointer (some ⟨b, o, none⟩)) (ht : vinfo P t = some (size, agg, zz)) (hS : St w0 w H) (hk : H[k]? = some (b, t', L.flatMap enc ++ sp))
    (ho : o = i * size) (hi : i < L.length) (hv : mkv agg (enc (L.getD i dd)) = v) (hagg : agg = true ∨ size = 1) (h : K v) : Read1 P N ρ w ⟨d, .load t x, ty, pos, aft, g⟩ K := by
  subst ho
  have hat := hS.at hk (i * size) size
  rw [flat_elemG hu L sp dd hi] at hat
  exact s_ld hx ht hat (hu _) hv hagg h
theorem s_stS {α : Type} {enc : α → List Value} {size : Nat} {L : List α} {sp : List Value} {i : Nat} {zz : List Value} {agg : Bool} (u : α) (hu : ∀ x, (enc x).length = size) (hx : ev N ρ x = .pointer (some ⟨b, o, none⟩)) (hy : ev N ρ y = v) (ht : vinfo P t = some (size, agg, zz)) (hS : St w0 w H) (hk : H[k]? = some (b, t', L.flatMap enc ++ sp))
    (ho : o = i * size) (hi : i < L.length) (hv : v.cells.toList = enc u) (h1 : (enc u).all (·.oneCell') = true)
    (h : ∀ w', St w0 w' (H.set k (b, t', (L.set i u).flatMap enc ++ sp)) → K2 undef w') : Hup1 P N ρ w ⟨d, .store t x y, ty, pos, aft, g⟩ K2 := by
  subst ho
  refine s_sta hx hy ht hS hk hv (hu u) ?_ h1 (fun w' hS' => ?_)
  · rw [List.length_append, flat_len hu]
    have : (i + 1) * size ≤ L.length * size := Nat.mul_le_mul_right _ hi
    rw [Nat.add_mul] at this; omega
  · rw [flat_setG hu L sp u hi] at hS'
    exact h w' hS'
theorem s_nilp {a : Addr} (hx : ev N ρ x = .pointer (some a)) (h : K (.pointer (some a))) : Pure1 P N ρ ⟨d, .nilCheck x, ty, pos, aft, g⟩ K :=
  ⟨_, fun w => (by simp [execOp, hx]), h⟩
theorem s_nilf {f : FuncId} {cap : Array Value} (hx : ev N ρ x = .func (.func f) #[] cap) (h : K (.func (.func f) #[] cap)) : Pure1 P N ρ ⟨d, .nilCheck x, ty, pos, aft, g⟩ K :=
  ⟨_, fun w => (by simp [execOp, hx]), h⟩
theorem s_mkf1 {fn : Fn} (hx : ev N ρ x = v) (h : K (.func fn #[] #[v])) : Pure1 P N ρ ⟨d, .makeFunc fn #[] #[x], ty, pos, aft, g⟩ K :=
  ⟨_, fun w => (by simp [execOp, hx, Instr.makeFunc]), h⟩
/-- The head of a block, read as a slice. -/
theorem St.slg {α : Type} {enc : α → List Value} {size : Nat} {L : List α} {sp : List Value} (h : St w0 w H) (hk : H[k]? = some (b, t, L.flatMap enc ++ sp)) (hu : ∀ x, (enc x).length = size) {n cap : Nat} (hn : n ≤ L.length) (h1 : n ≤ cap) (h2 : cap ≤ 9223372036854775807) :
    Sl enc size w (.slice (some ⟨b, 0, none⟩) n cap) (L.take n) := by
  have hl : (L.take n).length = n := by rw [List.length_take]; omega
  have e : L.flatMap enc ++ sp = (L.take n).flatMap enc ++ ((L.drop n).flatMap enc ++ sp) := by
    rw [← List.append_assoc, ← List.flatMap_append, List.take_append_drop]
  rw [e] at hk
  have := h.sl (enc := enc) (size := size) (L := L.take n) (spare := (L.drop n).flatMap enc ++ sp) (cap := cap) hk rfl hu (by rw [hl]; exact h1) (by unfold Go.maxLen; omega)
  rwa [hl] at this
end
end Go.Sx
namespace Go.Sx
open Go Go.RowKit

section
variable {α : Type}
/-- x behind a list, moved ahead of those at its end that it goes ahead of. -/
def insAt (lt : α → α → Bool) (S : List α) (x : α) : List α := (S.reverse.dropWhile (lt x)).reverse ++ x :: (S.reverse.takeWhile (lt x)).reverse
def isort (lt : α → α → Bool) (L : List α) : List α := L.foldl (insAt lt) []
theorem insAt_eq {lt : α → α → Bool} {A B : List α} {x : α} (hB : ∀ y ∈ B, lt x y = true) (hA : ∀ y, A.getLast? = some y → lt x y = false) : insAt lt (A ++ B) x = A ++ x :: B := by
  have h1 : A.reverse.takeWhile (lt x) = [] ∧ A.reverse.dropWhile (lt x) = A.reverse := by
    cases h : A.reverse with
    | nil => exact ⟨rfl, rfl⟩
    | cons y t =>
      have hy : A.getLast? = some y := by rw [← List.head?_reverse, h]; rfl
      have := hA y hy
      simp [this]
  unfold insAt
  rw [List.reverse_append, List.takeWhile_append_of_pos (fun y hy => hB y (List.mem_reverse.1 hy)), List.dropWhile_append_of_pos (fun y hy => hB y (List.mem_reverse.1 hy)), h1.1, h1.2]
  simp
theorem isort_snoc (lt : α → α → Bool) (L : List α) (x : α) : isort lt (L ++ [x]) = insAt lt (isort lt L) x := by unfold isort; rw [List.foldl_append]; rfl
theorem insAt_split (lt : α → α → Bool) (S : List α) (x : α) : ∃ A B, S = A ++ B ∧ insAt lt S x = A ++ x :: B ∧ (∀ y ∈ B, lt x y = true) ∧ ∀ y, A.getLast? = some y → lt x y = false := by
  refine ⟨(S.reverse.dropWhile (lt x)).reverse, (S.reverse.takeWhile (lt x)).reverse, ?_, rfl, fun y hy => ?_, fun y hy => ?_⟩
  · rw [← List.reverse_append, List.takeWhile_append_dropWhile, List.reverse_reverse]
  · rw [List.mem_reverse] at hy
    generalize S.reverse = T at hy
    induction T with
    | nil => cases hy
    | cons z T ih =>
      rw [List.takeWhile_cons] at hy
      split at hy
      · next h =>
        rcases List.mem_cons.1 hy with rfl | hy
        · exact h
        · exact ih hy
      · cases hy
  · rw [List.getLast?_reverse] at hy
    generalize S.reverse = T at hy
    induction T with
    | nil => cases hy
    | cons z T ih =>
      rw [List.dropWhile_cons] at hy
      split at hy
      · exact ih hy
      · next h =>
        obtain rfl : z = y := Option.some.inj hy
        exact Bool.eq_false_iff.2 h
theorem insAt_perm (lt : α → α → Bool) (S : List α) (x : α) : (insAt lt S x).Perm (x :: S) := by
  obtain ⟨A, B, rfl, e, _⟩ := insAt_split lt S x
  rw [e]
  exact List.perm_middle
theorem isort_perm (lt : α → α → Bool) (L : List α) : (isort lt L).Perm L := by
  have key : ∀ (L S : List α), (L.foldl (insAt lt) S).Perm (S ++ L) := by
    intro L
    induction L with
    | nil => intro S; simp
    | cons x L ih =>
      intro S
      rw [List.foldl_cons]
      refine (ih _).trans ?_
      refine ((insAt_perm lt S x).append_right L).trans ?_
      exact List.perm_middle.symm
  have := key L []
  rwa [List.nil_append] at this
theorem isort_len (lt : α → α → Bool) (L : List α) : (isort lt L).length = L.length := (isort_perm lt L).length_eq
/-- Sorted: nobody goes ahead of one that stands ahead of it; of two that go ahead of neither, the one that came first stands first. -/
theorem isort_sorted {lt : α → α → Bool} (hasym : ∀ a b, lt a b = true → lt b a = false) (hneg : ∀ a b c, lt a b = false → lt b c = false → lt a c = false) {L : List α} {R : α → α → Prop} (hL : L.Pairwise R) :
    (isort lt L).Pairwise fun a b => lt b a = false ∧ (lt a b = false → R a b) := by
  have key : ∀ k, k ≤ L.length → (isort lt (L.take k)).Pairwise fun a b => lt b a = false ∧ (lt a b = false → R a b) := by
    intro k
    induction k with
    | zero => intro _; exact List.Pairwise.nil
    | succ k ih =>
      intro hk
      have h0 := ih (by omega)
      have hkl : k < L.length := by omega
      rw [List.take_succ_eq_append_getElem hkl, isort_snoc]
      obtain ⟨A, B, e, e2, hB, hA⟩ := insAt_split lt (isort lt (L.take k)) L[k]
      have hmem : ∀ y ∈ isort lt (L.take k), R y L[k] := by
        intro y hy
        have hy' := (isort_perm lt (L.take k)).mem_iff.1 hy
        obtain ⟨i, hi, rfl⟩ := List.mem_iff_getElem.1 hy'
        rw [List.length_take] at hi
        rw [List.getElem_take]
        exact List.pairwise_iff_getElem.1 hL i k (by omega) hkl (by omega)
      rw [e] at h0 hmem
      rw [e2, List.pairwise_append]
      rw [List.pairwise_append] at h0
      obtain ⟨hA1, hB1, hAB⟩ := h0
      -- of the front: none of it is passed
      have hfront : ∀ y ∈ A, lt L[k] y = false := by
        intro y hy
        cases hl : A.getLast? with
        | none => rw [List.getLast?_eq_none_iff] at hl; subst hl; cases hy
        | some z =>
          have hz := hA z hl
          obtain ⟨A', rfl⟩ : ∃ A', A = A' ++ [z] := List.getLast?_eq_some_iff.1 hl
          rcases List.mem_append.1 hy with h | h
          · have := (List.pairwise_append.1 hA1).2.2 y h z (List.mem_singleton.2 rfl)
            exact hneg _ _ _ hz this.1
          · rw [List.mem_singleton] at h
            rw [h]; exact hz
      refine ⟨hA1, List.pairwise_cons.2 ⟨fun b hb => ?_, hB1⟩, fun a ha b hb => ?_⟩
      · have h1 := hB b hb
        exact ⟨hasym _ _ h1, fun h => by rw [h1] at h; cases h⟩
      · rcases List.mem_cons.1 hb with rfl | hb
        · exact ⟨hfront a ha, fun _ => hmem a (List.mem_append_left _ ha)⟩
        · exact hAB a ha b hb
  have := key L.length (Nat.le_refl _)
  rwa [List.take_length] at this
/-- The same order through a map. -/
theorem isort_map {β : Type} {lt : α → α → Bool} {lt' : β → β → Bool} {f : α → β} (h : ∀ x y, lt' (f x) (f y) = lt x y) (L : List α) : isort lt' (L.map f) = (isort lt L).map f := by
  have hins : ∀ (S : List α) (x : α), insAt lt' (S.map f) (f x) = (insAt lt S x).map f := by
    intro S x
    obtain ⟨A, B, e, e2, hB, hA⟩ := insAt_split lt S x
    rw [e2, e, List.map_append, insAt_eq (fun y hy => ?_) (fun y hy => ?_)]
    · simp
    · obtain ⟨z, hz, rfl⟩ := List.mem_map.1 hy
      rw [h]; exact hB z hz
    · rw [List.getLast?_map] at hy
      cases hl : A.getLast? with
      | none => rw [hl] at hy; cases hy
      | some z =>
        rw [hl] at hy
        obtain rfl : f z = y := Option.some.inj hy
        rw [h]; exact hA z hl
  have key : ∀ k, k ≤ L.length → isort lt' ((L.take k).map f) = (isort lt (L.take k)).map f := by
    intro k
    induction k with
    | zero => intro _; rfl
    | succ k ih =>
      intro hk
      rw [List.take_succ_eq_append_getElem (by omega), List.map_append, List.map_cons, List.map_nil, isort_snoc, isort_snoc, ih (by omega), hins]
  have := key L.length (Nat.le_refl _)
  rwa [List.take_length] at this
end
end Go.Sx
namespace Go.Proofs.YtblfipdfklpmmabDoor
open Go Go.RowKit Go.Sx

/-- What a comparing function is asked: on what is sorted, it answers c, and makes memory alone. -/
def CmpOk (f : FuncId) (cap : List Value) (c : Int → Int → Int) (D : List Int) (w0 : World) (b : Nat) (t : TypeId) (H : List Blk) : Prop :=
  (∀ args w, (callFunc f args).run Tryd.prog w = .ok (.enter f args) w) ∧
  ∀ cs x y w', St w0 w' ((b, t, cs) :: H) → x ∈ D → y ∈ D → Ret Tryd.prog f ([Value.int .i64 x, Value.int .i64 y] ++ cap).toArray w' fun v w'' => v = .int .i64 (c x y) ∧ Below w'.heap.size w' w''
def ltC (c : Int → Int → Int) (x y : Int) : Bool := decide (c x y < 0)
theorem getD_at {α : Type} (A B : List α) (x d : α) : (A ++ x :: B).getD A.length d = x := by
  rw [List.getD_eq_getElem?_getD, List.getElem?_append_right (Nat.le_refl _), Nat.sub_self]; rfl
theorem set_at {α : Type} (A B : List α) (x y : α) : (A ++ x :: B).set A.length y = A ++ y :: B := by
  rw [List.set_append_right _ _ (Nat.le_refl _), Nat.sub_self]; rfl
set_option maxHeartbeats 1000000 in
theorem insertionSort_ok {f : FuncId} {cap : List Value} {c : Int → Int → Int} {D : List Int} {w0 : World} {b : Nat} {t : TypeId} {H : List Blk} (hc : CmpOk f cap c D w0 b t H) (Pre M Suf : List Int) (sp : List Value) (n cp a e : Nat)
    (hn : Pre.length + M.length + Suf.length = n) (ha : a = Pre.length) (he : e = Pre.length + M.length) (hD : ∀ x ∈ M, x ∈ D) (hmax : n ≤ 1000000) (w : World) (hS : St w0 w ((b, t, (Pre ++ M ++ Suf).flatMap enI ++ sp) :: H)) :
    Ret Tryd.prog 47 #[.slice (some ⟨b, 0, none⟩) n cp, .int .i64 a, .int .i64 e, .func (.func f) #[] cap.toArray] w fun v w' => v = .tuple #[] ∧ St w0 w' ((b, t, (Pre ++ isort (ltC c) M ++ Suf).flatMap enI ++ sp) :: H) := by
  obtain ⟨hcall, hcmp⟩ := hc
  refine enter Tryd.func47 rfl Tryd.ntmps47 rfl ?_
  repeat (with_reducible first | refine c_seq ?_ | refine c_block ?_ | refine c_skip ?_ | refine x_then ?_ | refine x_block ?_)
  refine c_reg ?_
  refine l_pure rfl (s_move  rfl ?_)
  refine l_pure rfl (s_add  rfl rfl (IntWalk.i64_in _ (by omega)) ?_)
  refine l_pure rfl (s_asg  rfl ?_)
  refine l_nil ?_
  repeat (with_reducible first | refine c_seq ?_ | refine c_block ?_ | refine c_skip ?_ | refine x_then ?_ | refine x_block ?_)
  refine c_loop (σ := Nat) (fun k ρ w' => 1 ≤ k ∧ (k ≤ M.length ∨ M.length = 0) ∧ ρ 0 = .slice (some ⟨b, 0, none⟩) n cp ∧ ρ 1 = .int .i64 a ∧ ρ 2 = .int .i64 e ∧ ρ 3 = .func (.func f) #[] cap.toArray ∧ ρ 8 = .int .i64 ((a : Int) + k) ∧
      St w0 w' ((b, t, (Pre ++ isort (ltC c) (M.take k) ++ (M.drop k ++ Suf)).flatMap enI ++ sp) :: H)) (fun k => M.length + 1 - k) 1
    ⟨Nat.le_refl _, by omega, rfl, rfl, rfl, rfl, rfl, ?_⟩ ?_
  · have e1 : Pre ++ isort (ltC c) (M.take 1) ++ (M.drop 1 ++ Suf) = Pre ++ M ++ Suf := by
      cases M with
      | nil => rfl
      | cons x M => show Pre ++ [x] ++ (M ++ Suf) = _; simp
    rw [e1]; exact hS
  clear hS
  rintro k ρ w2 ⟨hk1, hkM, h0, h1, h2, h3, h8, hS⟩
  repeat (with_reducible first | refine c_seq ?_ | refine c_block ?_ | refine c_skip ?_ | refine x_then ?_ | refine x_block ?_)
  refine c_reg ?_
  refine l_pure rfl (s_move  h8 ?_)
  refine l_pure rfl (s_move  h2 ?_)
  refine l_pure rfl (s_lss  rfl rfl ?_)
  refine l_nil ?_
  repeat (with_reducible first | refine c_seq ?_ | refine c_block ?_ | refine c_skip ?_ | refine x_then ?_ | refine x_block ?_)
  by_cases hlt : k < M.length
  · refine c_yes rfl (decide_eq_true (by omega)) ?_
    repeat (with_reducible first | refine c_seq ?_ | refine c_block ?_ | refine c_skip ?_ | refine x_then ?_ | refine x_block ?_)
    obtain ⟨x, hx⟩ : ∃ x, x = M.getD k 0 := ⟨_, rfl⟩
    obtain ⟨S, hSe⟩ : ∃ S, S = isort (ltC c) (M.take k) := ⟨_, rfl⟩
    obtain ⟨R, hR⟩ : ∃ R, R = M.drop (k + 1) ++ Suf := ⟨_, rfl⟩
    have hSl : S.length = k := by rw [hSe, isort_len, List.length_take]; omega
    have hRl : R.length = M.length - (k + 1) + Suf.length := by rw [hR, List.length_append, List.length_drop]
    have hxD : x ∈ D := hD x (by rw [hx]; exact getD_mem M k 0 hlt)
    have hSD : ∀ y ∈ S, y ∈ D := fun y hy => by
      rw [hSe] at hy
      exact hD y (List.mem_of_mem_take ((isort_perm _ _).mem_iff.1 hy))
    have hdr : M.drop k ++ Suf = x :: R := by
      rw [List.drop_eq_getElem_cons hlt, hR, hx, List.getD_eq_getElem?_getD, List.getElem?_eq_getElem hlt]; rfl
    have hnx : isort (ltC c) (M.take (k + 1)) = insAt (ltC c) S x := by
      rw [take_succ' M k 0 hlt, isort_snoc, ← hx, ← hSe]
    rw [← hSe, hdr] at hS
    repeat (with_reducible first | refine c_seq ?_ | refine c_block ?_ | refine c_skip ?_ | refine x_then ?_ | refine x_block ?_)
    refine c_reg ?_
    refine l_pure rfl (s_move  h8 ?_)
    refine l_pure rfl (s_asg  rfl ?_)
    refine l_nil ?_
    repeat (with_reducible first | refine c_seq ?_ | refine c_skip ?_ | refine x_then ?_ | refine x_block ?_)
    refine c_cut1 (fun ρ w' => ρ 0 = .slice (some ⟨b, 0, none⟩) n cp ∧ ρ 1 = .int .i64 a ∧ ρ 2 = .int .i64 e ∧ ρ 3 = .func (.func f) #[] cap.toArray ∧ ρ 8 = .int .i64 ((a : Int) + k) ∧ St w0 w' ((b, t, (Pre ++ insAt (ltC c) S x ++ R).flatMap enI ++ sp) :: H)) ?_ ?_
    · repeat (with_reducible first | refine c_seq ?_ | refine c_block ?_ | refine c_skip ?_ | refine x_then ?_ | refine x_block ?_)
      refine c_loop (σ := List Int × List Int) (fun s ρ w' => S = s.1 ++ s.2 ∧ (∀ y ∈ s.2, ltC c x y = true) ∧ ρ 0 = .slice (some ⟨b, 0, none⟩) n cp ∧ ρ 1 = .int .i64 a ∧ ρ 2 = .int .i64 e ∧ ρ 3 = .func (.func f) #[] cap.toArray ∧ ρ 8 = .int .i64 ((a : Int) + k) ∧ ρ 9 = .int .i64 ((a : Int) + s.1.length) ∧
          St w0 w' ((b, t, (Pre ++ s.1 ++ x :: (s.2 ++ R)).flatMap enI ++ sp) :: H)) (fun s => s.1.length) (S, [])
        ⟨(List.append_nil _).symm, (fun y hy => (by cases hy)), by assumption, by assumption, by assumption, by assumption, by assumption, vi rfl (by rw [hSl]), hS⟩ ?_
      clear hS
      rintro ⟨A, B⟩ ρ w3 ⟨hAB, hB, h0, h1, h2, h3, h8, h9, hS⟩
      simp only at hAB hB h9 hS
      have hABl : A.length + B.length = k := by rw [← List.length_append, ← hAB, hSl]
      have hLl : (Pre ++ A ++ x :: (B ++ R)).length = n := by simp only [List.length_append, List.length_cons]; omega
      repeat (with_reducible first | refine c_seq ?_ | refine c_block ?_ | refine c_skip ?_ | refine x_then ?_ | refine x_block ?_)
      rcases List.eq_nil_or_concat A with hA | ⟨A', y, hA⟩
      · subst hA
        repeat (with_reducible first | refine c_seq ?_ | refine c_block ?_ | refine c_skip ?_ | refine x_then ?_ | refine x_block ?_)
        refine c_draw [(0, .pure), (1, .pure), (2, .pure), (3, .pure), (4, .pure), (5, .pure), (6, .pure), (7, .pure), (8, .read), (9, .pure), (10, .pure), (11, .pure), (12, .pure), (13, .read), (14, .grow), (15, .pure), (16, .pure)] (by kernel_rfl) (by kernel_rfl) hS ?_
        intro wz1 hS hBz1
        refine w_pure rfl rfl (s_move  h9 ?_)
        refine w_pure rfl rfl (s_move  h1 ?_)
        refine w_pure rfl rfl (s_gtr  rfl rfl ?_)
        refine w_pure rfl rfl (s_move  rfl ?_)
        refine w_no rfl (gno_yes 21 (by kernel_rfl) rfl (decide_eq_false (by simp))) ?_
        refine w_no rfl (gno_yes 21 (by kernel_rfl) rfl (decide_eq_false (by simp))) ?_
        refine w_no rfl (gno_yes 21 (by kernel_rfl) rfl (decide_eq_false (by simp))) ?_
        refine w_no rfl (gno_yes 21 (by kernel_rfl) rfl (decide_eq_false (by simp))) ?_
        refine w_no rfl (gno_yes 21 (by kernel_rfl) rfl (decide_eq_false (by simp))) ?_
        refine w_no rfl (gno_yes 21 (by kernel_rfl) rfl (decide_eq_false (by simp))) ?_
        refine w_no rfl (gno_yes 21 (by kernel_rfl) rfl (decide_eq_false (by simp))) ?_
        refine w_no rfl (gno_yes 21 (by kernel_rfl) rfl (decide_eq_false (by simp))) ?_
        refine w_no rfl (gno_yes 21 (by kernel_rfl) rfl (decide_eq_false (by simp))) ?_
        refine w_no rfl (gno_yes 21 (by kernel_rfl) rfl (decide_eq_false (by simp))) ?_
        refine w_no rfl (gno_yes 21 (by kernel_rfl) rfl (decide_eq_false (by simp))) ?_
        refine w_no rfl (gno_yes 21 (by kernel_rfl) rfl (decide_eq_false (by simp))) ?_
        refine w_pure rfl rfl (s_pick (vb rfl (decide_eq_false (by simp))) rfl ?_)
        refine w_end ?_
        repeat (with_reducible first | refine c_seq ?_ | refine c_block ?_ | refine c_skip ?_ | refine x_then ?_ | refine x_block ?_)
        refine c_no rfl (rfl) ?_
        repeat (with_reducible first | refine c_seq ?_ | refine c_block ?_ | refine c_skip ?_ | refine x_then ?_ | refine x_block ?_)
        refine c_exit ?_
        repeat (with_reducible first | refine x_then_exit ?_ | refine x_block_exit ?_ | refine x_block_pass rfl ?_)
        repeat (with_reducible first | refine c_seq ?_ | refine c_block ?_ | refine c_skip ?_ | refine x_then ?_ | refine x_block ?_)
        refine ⟨_, rfl, by assumption, by assumption, by assumption, by assumption, by assumption, ?_⟩
        rw [hAB, insAt_eq hB (fun y hy => by cases hy)]
        simpa using hS
      · rw [List.concat_eq_append] at hA
        subst hA
        have hA'l : (A' ++ [y]).length = A'.length + 1 := by simp
        have hyD : y ∈ D := hSD y (by rw [hAB]; simp)
        have hg1 : (Pre ++ (A' ++ [y]) ++ x :: (B ++ R)).getD (a + A'.length + 1) 0 = x := by
          rw [show a + A'.length + 1 = (Pre ++ (A' ++ [y])).length by simp [ha]; omega]
          exact getD_at _ _ _ _
        have hg2 : (Pre ++ (A' ++ [y]) ++ x :: (B ++ R)).getD (a + A'.length) 0 = y := by
          rw [show Pre ++ (A' ++ [y]) ++ x :: (B ++ R) = (Pre ++ A') ++ y :: (x :: (B ++ R)) by simp, show a + A'.length = (Pre ++ A').length by simp [ha]]
          exact getD_at _ _ _ _
        repeat (with_reducible first | refine c_seq ?_ | refine c_block ?_ | refine c_skip ?_ | refine x_then ?_ | refine x_block ?_)
        refine c_draw [(0, .pure), (1, .pure), (2, .pure), (3, .pure), (4, .pure), (5, .pure), (6, .pure), (7, .pure), (8, .read), (9, .pure), (10, .pure), (11, .pure), (12, .pure), (13, .read), (14, .grow), (15, .pure), (16, .pure)] (by kernel_rfl) (by kernel_rfl) hS ?_
        intro wz2 hS hBz2
        refine w_pure rfl rfl (s_move  h9 ?_)
        refine w_pure rfl rfl (s_move  h1 ?_)
        refine w_pure rfl rfl (s_gtr  rfl rfl ?_)
        refine w_pure rfl rfl (s_move  rfl ?_)
        refine w_pure rfl (gd_yes 21 (by kernel_rfl) rfl (decide_eq_true (by omega))) (s_move  h3 ?_)
        refine w_pure rfl (gd_yes 21 (by kernel_rfl) rfl (decide_eq_true (by omega))) (s_move  h0 ?_)
        refine w_pure rfl (gd_yes 21 (by kernel_rfl) rfl (decide_eq_true (by omega))) (s_move  h9 ?_)
        refine w_pure rfl (gd_yes 21 (by kernel_rfl) rfl (decide_eq_true (by omega))) (s_ixo (i := a + A'.length + 1)  rfl rfl (by omega) (by first | omega | (simp; done) | (simp; omega)) si_40 ?_)
        refine w_read rfl (gd_yes 21 (by kernel_rfl) rfl (decide_eq_true (by omega))) (s_ldS (k := 0) (i := a + A'.length + 1) (enc := enI) 0 (fun _ => rfl)  rfl vi_3 hS rfl (by first | omega | simp) (by first | omega | (simp; done) | (simp; omega)) rfl (.inr rfl) ?_)
        refine w_pure rfl (gd_yes 21 (by kernel_rfl) rfl (decide_eq_true (by omega))) (s_move  h0 ?_)
        refine w_pure rfl (gd_yes 21 (by kernel_rfl) rfl (decide_eq_true (by omega))) (s_move  h9 ?_)
        refine w_pure rfl (gd_yes 21 (by kernel_rfl) rfl (decide_eq_true (by omega))) (s_sub  rfl rfl (IntWalk.i64_in _ (by omega)) ?_)
        refine w_pure rfl (gd_yes 21 (by kernel_rfl) rfl (decide_eq_true (by omega))) (s_ixo (i := a + A'.length)  rfl rfl (by omega) (by first | omega | (simp; done) | (simp; omega)) si_40 ?_)
        refine w_read rfl (gd_yes 21 (by kernel_rfl) rfl (decide_eq_true (by omega))) (s_ldS (k := 0) (i := a + A'.length) (enc := enI) 0 (fun _ => rfl)  rfl vi_3 hS rfl (by first | omega | simp) (by first | omega | (simp; done) | (simp; omega)) rfl (.inr rfl) ?_)
        rw [hg1, hg2]
        refine w_grow rfl (gd_yes 21 (by kernel_rfl) rfl (decide_eq_true (by omega))) (s_callv hcall rfl rfl (hcmp _ x y _ hS hxD hyD) ?_)
        rintro r w4 ⟨rfl, hB4⟩
        refine ⟨hB4, ?_⟩
        replace hS := hS.grow hB4
        refine w_pure rfl (gd_yes 21 (by kernel_rfl) rfl (decide_eq_true (by omega))) (s_lss  rfl rfl ?_)
        refine w_pure rfl rfl (s_pick (vb rfl (decide_eq_true (by omega))) rfl ?_)
        refine w_end ?_
        repeat (with_reducible first | refine c_seq ?_ | refine c_block ?_ | refine c_skip ?_ | refine x_then ?_ | refine x_block ?_)
        by_cases hcy : c x y < 0
        · refine c_yes rfl (decide_eq_true hcy) ?_
          repeat (with_reducible first | refine c_seq ?_ | refine c_block ?_ | refine c_skip ?_ | refine x_then ?_ | refine x_block ?_)
          refine c_forget (fun ρ' => ρ' 0 = .slice (some ⟨b, 0, none⟩) n cp ∧ ρ' 1 = .int .i64 a ∧ ρ' 2 = .int .i64 e ∧ ρ' 3 = .func (.func f) #[] cap.toArray ∧ ρ' 8 = .int .i64 ((a : Int) + k) ∧ ρ' 9 = .int .i64 ((a : Int) + (A' ++ [y]).length) ∧ True) ⟨h0, h1, h2, h3, h8, h9, trivial⟩ ?_
          rintro ρk3 ⟨hk3_0, hk3_1, hk3_2, hk3_3, hk3_8, hk3_9, -⟩
          have hset : ((Pre ++ (A' ++ [y]) ++ x :: (B ++ R)).set (a + A'.length + 1) y).set (a + A'.length) x = Pre ++ A' ++ x :: (y :: B ++ R) := by
            rw [show a + A'.length + 1 = (Pre ++ (A' ++ [y])).length by simp [ha]; omega, set_at, show Pre ++ (A' ++ [y]) ++ y :: (B ++ R) = (Pre ++ A') ++ y :: (y :: (B ++ R)) by simp, show a + A'.length = (Pre ++ A').length by simp [ha], set_at]
            simp
          repeat (with_reducible first | refine c_seq ?_ | refine c_block ?_ | refine c_skip ?_ | refine x_then ?_ | refine x_block ?_)
          refine c_draw [(0, .pure), (1, .pure), (2, .pure), (3, .pure), (4, .pure), (5, .pure), (6, .pure), (7, .pure), (8, .pure), (9, .read), (10, .pure), (11, .pure), (12, .pure), (13, .read), (14, .pure), (15, .free), (16, .pure), (17, .free)] (by kernel_rfl) (by kernel_rfl) hS ?_
          intro wz4 hS hBz4
          refine w_pure rfl rfl (s_move  hk3_0 ?_)
          refine w_pure rfl rfl (s_move  hk3_9 ?_)
          refine w_pure rfl rfl (s_move  hk3_0 ?_)
          refine w_pure rfl rfl (s_move  hk3_9 ?_)
          refine w_pure rfl rfl (s_sub  rfl rfl (IntWalk.i64_in _ (by omega)) ?_)
          refine w_pure rfl rfl (s_move  hk3_0 ?_)
          refine w_pure rfl rfl (s_move  hk3_9 ?_)
          refine w_pure rfl rfl (s_sub  rfl rfl (IntWalk.i64_in _ (by omega)) ?_)
          refine w_pure rfl rfl (s_ixo (i := a + A'.length)  rfl rfl (by omega) (by first | omega | (simp; done) | (simp; omega)) si_40 ?_)
          refine w_read rfl rfl (s_ldS (k := 0) (i := a + A'.length) (enc := enI) (v := .int .i64 y) 0 (fun _ => rfl)  rfl vi_3 hS rfl (by simp) (by omega) (by rw [hg2]; rfl) (.inr rfl) ?_)
          refine w_pure rfl rfl (s_move  hk3_0 ?_)
          refine w_pure rfl rfl (s_move  hk3_9 ?_)
          refine w_pure rfl rfl (s_ixo (i := a + A'.length + 1)  rfl rfl (by omega) (by first | omega | (simp; done) | (simp; omega)) si_40 ?_)
          refine w_read rfl rfl (s_ldS (k := 0) (i := a + A'.length + 1) (enc := enI) (v := .int .i64 x) 0 (fun _ => rfl)  rfl vi_3 hS rfl (by simp) (by omega) (by rw [hg1]; rfl) (.inr rfl) ?_)
          refine w_pure rfl rfl (s_ixo (i := a + A'.length + 1)  rfl rfl (by omega) (by first | omega | (simp; done) | (simp; omega)) si_40 ?_)
          refine w_free rfl rfl (s_stS (k := 0) (i := a + A'.length + 1) (enc := enI) y (fun _ => rfl)  rfl rfl vi_3 hS rfl (by first | omega | simp) (by first | omega | (simp; done) | (simp; omega)) rfl rfl ?_)
          intro wz5 hS
          refine w_pure rfl rfl (s_ixo (i := a + A'.length)  rfl rfl (by omega) (by first | omega | (simp; done) | (simp; omega)) si_40 ?_)
          refine w_free rfl rfl (s_stS (k := 0) (i := a + A'.length) (enc := enI) x (fun _ => rfl)  rfl rfl vi_3 hS rfl (by first | omega | simp) (by first | omega | (simp; done) | (simp; omega)) rfl rfl ?_)
          intro wz6 hS
          refine w_end ?_
          repeat (with_reducible first | refine c_seq ?_ | refine c_block ?_ | refine c_skip ?_ | refine x_then ?_ | refine x_block ?_)
          refine c_reg ?_
          refine l_pure rfl (s_move  hk3_9 ?_)
          refine l_pure rfl (s_sub  rfl rfl (IntWalk.i64_in _ (by omega)) ?_)
          refine l_pure rfl (s_asg  rfl ?_)
          refine l_nil ?_
          repeat (with_reducible first | refine c_seq ?_ | refine c_block ?_ | refine c_skip ?_ | refine x_then ?_ | refine x_block ?_)
          replace hS : St w0 _ ((b, t, (((Pre ++ (A' ++ [y]) ++ x :: (B ++ R)).set (a + A'.length + 1) y).set (a + A'.length) x).flatMap enI ++ sp) :: H) := hS
          rw [hset] at hS
          exact ⟨(A', y :: B), _, rfl, ⟨by rw [hAB]; simp, fun z hz => (List.mem_cons.1 hz).elim (fun e => by rw [e]; exact decide_eq_true hcy) (hB z), by assumption, by assumption, by assumption, by assumption, by assumption, vi rfl (show (a : Int) + ((A' ++ [y]).length : Nat) - 1 = (a : Int) + (A'.length : Nat) by omega), hS⟩, (show A'.length < (A' ++ [y]).length by omega)⟩
        · refine c_no rfl (decide_eq_false hcy) ?_
          repeat (with_reducible first | refine c_seq ?_ | refine c_block ?_ | refine c_skip ?_ | refine x_then ?_ | refine x_block ?_)
          refine c_exit ?_
          repeat (with_reducible first | refine x_then_exit ?_ | refine x_block_exit ?_ | refine x_block_pass rfl ?_)
          repeat (with_reducible first | refine c_seq ?_ | refine c_block ?_ | refine c_skip ?_ | refine x_then ?_ | refine x_block ?_)
          refine ⟨_, rfl, by assumption, by assumption, by assumption, by assumption, by assumption, ?_⟩
          rw [hAB, insAt_eq hB (fun z hz => by
            rw [List.getLast?_append, List.getLast?_singleton] at hz
            obtain rfl : y = z := by simpa using hz
            exact decide_eq_false hcy)]
          simpa using hS
    clear hS
    rintro ρ w3 ⟨h0, h1, h2, h3, h8, hS⟩
    repeat (with_reducible first | refine c_seq ?_ | refine c_block ?_ | refine c_skip ?_ | refine x_then ?_ | refine x_block ?_)
    refine c_reg ?_
    refine l_pure rfl (s_move  h8 ?_)
    refine l_pure rfl (s_add  rfl rfl (IntWalk.i64_in _ (by omega)) ?_)
    refine l_pure rfl (s_asg  rfl ?_)
    refine l_nil ?_
    repeat (with_reducible first | refine c_seq ?_ | refine c_block ?_ | refine c_skip ?_ | refine x_then ?_ | refine x_block ?_)
    exact ⟨k + 1, _, rfl, ⟨by omega, .inl hlt, by assumption, by assumption, by assumption, by assumption, vi rfl (by omega), by rw [hnx, ← hR]; exact hS⟩, by omega⟩
  · refine c_no rfl (decide_eq_false (by omega)) ?_
    repeat (with_reducible first | refine c_seq ?_ | refine c_block ?_ | refine c_skip ?_ | refine x_then ?_ | refine x_block ?_)
    refine c_exit ?_
    repeat (with_reducible first | refine x_then_exit ?_ | refine x_block_exit ?_ | refine x_block_pass rfl ?_)
    repeat (with_reducible first | refine c_seq ?_ | refine c_block ?_ | refine c_skip ?_ | refine x_then ?_ | refine x_block ?_)
    have e1 : M.take k = M := List.take_of_length_le (by omega)
    have e2 : M.drop k = [] := List.drop_of_length_le (by omega)
    rw [e1, e2] at hS
    refine r_none rfl ⟨rfl, ?_⟩
    simpa using hS
end Go.Proofs.YtblfipdfklpmmabDoor
namespace Go.Proofs.YtblfipdfklpmmabDoor
open Go Go.RowKit Go.Sx

theorem insertionSort_none (v fv : Value) (w : World) : Ret Tryd.prog 47 #[v, .int .i64 0, .int .i64 0, fv] w fun r w' => r = .tuple #[] ∧ w' = w := by
  refine enter Tryd.func47 rfl Tryd.ntmps47 rfl ?_
  repeat (with_reducible first | refine c_seq ?_ | refine c_block ?_ | refine c_skip ?_ | refine x_then ?_ | refine x_block ?_)
  refine c_reg ?_
  refine l_pure rfl (s_move  rfl ?_)
  refine l_pure rfl (s_add  rfl rfl (IntWalk.i64_in _ (by omega)) ?_)
  refine l_pure rfl (s_asg  rfl ?_)
  refine l_nil ?_
  repeat (with_reducible first | refine c_seq ?_ | refine c_block ?_ | refine c_skip ?_ | refine x_then ?_ | refine x_block ?_)
  refine c_loop (σ := Unit) (fun _ ρ w' => ρ 2 = .int .i64 0 ∧ ρ 8 = .int .i64 1 ∧ w' = w) (fun _ => 0) () ⟨rfl, vi rfl (by omega), rfl⟩ ?_
  rintro _ ρ w2 ⟨h2, h8, rfl⟩
  repeat (with_reducible first | refine c_seq ?_ | refine c_block ?_ | refine c_skip ?_ | refine x_then ?_ | refine x_block ?_)
  refine c_reg ?_
  refine l_pure rfl (s_move  h8 ?_)
  refine l_pure rfl (s_move  h2 ?_)
  refine l_pure rfl (s_lss  rfl rfl ?_)
  refine l_nil ?_
  repeat (with_reducible first | refine c_seq ?_ | refine c_block ?_ | refine c_skip ?_ | refine x_then ?_ | refine x_block ?_)
  refine c_no rfl (decide_eq_false (by omega)) ?_
  repeat (with_reducible first | refine c_seq ?_ | refine c_block ?_ | refine c_skip ?_ | refine x_then ?_ | refine x_block ?_)
  refine c_exit ?_
  repeat (with_reducible first | refine x_then_exit ?_ | refine x_block_exit ?_ | refine x_block_pass rfl ?_)
  repeat (with_reducible first | refine c_seq ?_ | refine c_block ?_ | refine c_skip ?_ | refine x_then ?_ | refine x_block ?_)
  exact r_none rfl ⟨rfl, rfl⟩
theorem stable_none (v fv : Value) (w : World) : Ret Tryd.prog 34 #[v, .int .i64 0, fv] w fun r w' => r = .tuple #[] ∧ w' = w := by
  refine enter Tryd.func34 rfl Tryd.ntmps34 rfl ?_
  repeat (with_reducible first | refine c_seq ?_ | refine c_block ?_ | refine c_skip ?_ | refine x_then ?_ | refine x_block ?_)
  refine c_reg ?_
  refine l_pure rfl (s_asg  rfl ?_)
  refine l_nil ?_
  repeat (with_reducible first | refine c_seq ?_ | refine c_block ?_ | refine c_skip ?_ | refine x_then ?_ | refine x_block ?_)
  refine c_reg ?_
  refine l_pure rfl (s_move  rfl ?_)
  refine l_pure rfl (s_asg  rfl ?_)
  refine l_pure rfl (s_asg  rfl ?_)
  refine l_nil ?_
  repeat (with_reducible first | refine c_seq ?_ | refine c_skip ?_ | refine x_then ?_ | refine x_block ?_)
  refine c_cut1 (fun ρ w' => ρ 0 = v ∧ ρ 1 = .int .i64 0 ∧ ρ 2 = fv ∧ ρ 6 = .int .i64 20 ∧ ρ 7 = .int .i64 0 ∧ w' = w) ?_ ?_
  · repeat (with_reducible first | refine c_seq ?_ | refine c_block ?_ | refine c_skip ?_ | refine x_then ?_ | refine x_block ?_)
    refine c_loop (σ := Unit) (fun _ ρ w' => ρ 0 = v ∧ ρ 1 = .int .i64 0 ∧ ρ 2 = fv ∧ ρ 6 = .int .i64 20 ∧ ρ 7 = .int .i64 0 ∧ ρ 8 = .int .i64 20 ∧ w' = w) (fun _ => 0) () ⟨rfl, rfl, rfl, rfl, rfl, rfl, rfl⟩ ?_
    rintro _ ρ w2 ⟨h0, h1, h2, h6, h7, h8, rfl⟩
    repeat (with_reducible first | refine c_seq ?_ | refine c_block ?_ | refine c_skip ?_ | refine x_then ?_ | refine x_block ?_)
    refine c_reg ?_
    refine l_pure rfl (s_move  h8 ?_)
    refine l_pure rfl (s_move  h1 ?_)
    refine l_pure rfl (s_leq  rfl rfl ?_)
    refine l_nil ?_
    repeat (with_reducible first | refine c_seq ?_ | refine c_block ?_ | refine c_skip ?_ | refine x_then ?_ | refine x_block ?_)
    refine c_no rfl (decide_eq_false (by omega)) ?_
    repeat (with_reducible first | refine c_seq ?_ | refine c_block ?_ | refine c_skip ?_ | refine x_then ?_ | refine x_block ?_)
    refine c_exit ?_
    repeat (with_reducible first | refine x_then_exit ?_ | refine x_block_exit ?_ | refine x_block_pass rfl ?_)
    repeat (with_reducible first | refine c_seq ?_ | refine c_block ?_ | refine c_skip ?_ | refine x_then ?_ | refine x_block ?_)
    exact ⟨_, rfl, h0, h1, h2, h6, h7, rfl⟩
  rintro ρ w2 ⟨h0, h1, h2, h6, h7, rfl⟩
  repeat (with_reducible first | refine c_seq ?_ | refine c_block ?_ | refine c_skip ?_ | refine x_then ?_ | refine x_block ?_)
  refine c_reg ?_
  refine l_pure rfl (s_move  h0 ?_)
  refine l_pure rfl (s_move  h7 ?_)
  refine l_pure rfl (s_move  h1 ?_)
  refine l_pure rfl (s_move  h2 ?_)
  refine l_heavy rfl (s_call Tryd.call47 rfl (insertionSort_none v fv _) ?_)
  rintro r w3 ⟨rfl, rfl⟩
  refine l_nil ?_
  repeat (with_reducible first | refine c_seq ?_ | refine c_block ?_ | refine c_skip ?_ | refine x_then ?_ | refine x_block ?_)
  refine c_loop (σ := Unit) (fun _ ρ w' => ρ 1 = .int .i64 0 ∧ ρ 6 = .int .i64 20 ∧ w' = w3) (fun _ => 0) () ⟨h1, h6, rfl⟩ ?_
  rintro _ ρ w4 ⟨h1, h6, rfl⟩
  repeat (with_reducible first | refine c_seq ?_ | refine c_block ?_ | refine c_skip ?_ | refine x_then ?_ | refine x_block ?_)
  refine c_reg ?_
  refine l_pure rfl (s_move  h6 ?_)
  refine l_pure rfl (s_move  h1 ?_)
  refine l_pure rfl (s_lss  rfl rfl ?_)
  refine l_nil ?_
  repeat (with_reducible first | refine c_seq ?_ | refine c_block ?_ | refine c_skip ?_ | refine x_then ?_ | refine x_block ?_)
  refine c_no rfl (decide_eq_false (by omega)) ?_
  repeat (with_reducible first | refine c_seq ?_ | refine c_block ?_ | refine c_skip ?_ | refine x_then ?_ | refine x_block ?_)
  refine c_exit ?_
  repeat (with_reducible first | refine x_then_exit ?_ | refine x_block_exit ?_ | refine x_block_pass rfl ?_)
  repeat (with_reducible first | refine c_seq ?_ | refine c_block ?_ | refine c_skip ?_ | refine x_then ?_ | refine x_block ?_)
  exact r_none rfl ⟨rfl, rfl⟩
set_option maxHeartbeats 1000000 in
theorem stable_ok {f : FuncId} {cap : List Value} {c : Int → Int → Int} {w0 : World} {b : Nat} {t : TypeId} {H : List Blk} (L : List Int) (hc : CmpOk f cap c L w0 b t H) (sp : List Value) (n cp : Nat)
    (hn : L.length = n) (h20 : n ≤ 20) (w : World) (hS : St w0 w ((b, t, L.flatMap enI ++ sp) :: H)) :
    Ret Tryd.prog 34 #[.slice (some ⟨b, 0, none⟩) n cp, .int .i64 n, .func (.func f) #[] cap.toArray] w fun v w' => v = .tuple #[] ∧ St w0 w' ((b, t, (isort (ltC c) L).flatMap enI ++ sp) :: H) := by
  have hl := isort_len (ltC c) L
  refine enter Tryd.func34 rfl Tryd.ntmps34 rfl ?_
  repeat (with_reducible first | refine c_seq ?_ | refine c_block ?_ | refine c_skip ?_ | refine x_then ?_ | refine x_block ?_)
  refine c_reg ?_
  refine l_pure rfl (s_asg  rfl ?_)
  refine l_nil ?_
  repeat (with_reducible first | refine c_seq ?_ | refine c_block ?_ | refine c_skip ?_ | refine x_then ?_ | refine x_block ?_)
  refine c_reg ?_
  refine l_pure rfl (s_move  rfl ?_)
  refine l_pure rfl (s_asg  rfl ?_)
  refine l_pure rfl (s_asg  rfl ?_)
  refine l_nil ?_
  repeat (with_reducible first | refine c_seq ?_ | refine c_skip ?_ | refine x_then ?_ | refine x_block ?_)
  refine c_cut1 (fun ρ w' => ρ 0 = .slice (some ⟨b, 0, none⟩) n cp ∧ ρ 1 = .int .i64 n ∧ ρ 2 = .func (.func f) #[] cap.toArray ∧ ρ 6 = .int .i64 20 ∧ ((ρ 7 = .int .i64 0 ∧ St w0 w' ((b, t, L.flatMap enI ++ sp) :: H)) ∨ (ρ 7 = .int .i64 n ∧ St w0 w' ((b, t, (isort (ltC c) L).flatMap enI ++ sp) :: H)))) ?_ ?_
  · repeat (with_reducible first | refine c_seq ?_ | refine c_block ?_ | refine c_skip ?_ | refine x_then ?_ | refine x_block ?_)
    refine c_loop (σ := Nat) (fun d ρ w' => ρ 0 = .slice (some ⟨b, 0, none⟩) n cp ∧ ρ 1 = .int .i64 n ∧ ρ 2 = .func (.func f) #[] cap.toArray ∧ ρ 6 = .int .i64 20 ∧ d ≤ 1 ∧
        ((d = 0 ∧ ρ 7 = .int .i64 0 ∧ ρ 8 = .int .i64 20 ∧ St w0 w' ((b, t, L.flatMap enI ++ sp) :: H)) ∨ (d = 1 ∧ n = 20 ∧ ρ 7 = .int .i64 20 ∧ ρ 8 = .int .i64 40 ∧ St w0 w' ((b, t, (isort (ltC c) L).flatMap enI ++ sp) :: H)))) (fun d => 1 - d) 0
      ⟨rfl, rfl, rfl, rfl, by omega, .inl ⟨rfl, rfl, rfl, hS⟩⟩ ?_
    clear hS
    rintro d ρ w2 ⟨h0, h1, h2, h6, hd, ⟨rfl, h7, h8, hS⟩ | ⟨rfl, hn20, h7, h8, hS⟩⟩
    · repeat (with_reducible first | refine c_seq ?_ | refine c_block ?_ | refine c_skip ?_ | refine x_then ?_ | refine x_block ?_)
      repeat (with_reducible first | refine c_seq ?_ | refine c_block ?_ | refine c_skip ?_ | refine x_then ?_ | refine x_block ?_)
      refine c_reg ?_
      refine l_pure rfl (s_move  h8 ?_)
      refine l_pure rfl (s_move  h1 ?_)
      refine l_pure rfl (s_leq  rfl rfl ?_)
      refine l_nil ?_
      repeat (with_reducible first | refine c_seq ?_ | refine c_block ?_ | refine c_skip ?_ | refine x_then ?_ | refine x_block ?_)
      by_cases hlt : n = 20
      · refine c_yes rfl (decide_eq_true (by omega)) ?_
        repeat (with_reducible first | refine c_seq ?_ | refine c_block ?_ | refine c_skip ?_ | refine x_then ?_ | refine x_block ?_)
        subst hlt
        repeat (with_reducible first | refine c_seq ?_ | refine c_block ?_ | refine c_skip ?_ | refine x_then ?_ | refine x_block ?_)
        refine c_reg ?_
        refine l_pure rfl (s_move  h0 ?_)
        refine l_pure rfl (s_move  h7 ?_)
        refine l_pure rfl (s_move  h8 ?_)
        refine l_pure rfl (s_move  h2 ?_)
        have hS2 : St w0 w2 ((b, t, ([] ++ L ++ []).flatMap enI ++ sp) :: H) := by simpa using hS
        refine l_heavy rfl (s_call Tryd.call47 rfl (insertionSort_ok hc [] L [] sp 20 cp 0 20 (by simp [hn]) rfl (by simp [hn]) (fun _ h => h) (by omega) _ hS2) ?_)
        rintro r w3 ⟨rfl, hS3⟩
        replace hS3 : St w0 w3 ((b, t, (isort (ltC c) L).flatMap enI ++ sp) :: H) := by simpa using hS3
        clear hS hS2
        have hS := hS3
        refine l_nil ?_
        repeat (with_reducible first | refine c_seq ?_ | refine c_block ?_ | refine c_skip ?_ | refine x_then ?_ | refine x_block ?_)
        refine c_reg ?_
        refine l_pure rfl (s_move  h8 ?_)
        refine l_pure rfl (s_asg  rfl ?_)
        refine l_nil ?_
        repeat (with_reducible first | refine c_seq ?_ | refine c_block ?_ | refine c_skip ?_ | refine x_then ?_ | refine x_block ?_)
        refine c_reg ?_
        refine l_pure rfl (s_move  h8 ?_)
        refine l_pure rfl (s_move  h6 ?_)
        refine l_pure rfl (s_add  rfl rfl (IntWalk.i64_in _ (by omega)) ?_)
        refine l_pure rfl (s_asg  rfl ?_)
        refine l_nil ?_
        repeat (with_reducible first | refine c_seq ?_ | refine c_block ?_ | refine c_skip ?_ | refine x_then ?_ | refine x_block ?_)
        exact ⟨1, _, rfl, ⟨by assumption, by assumption, by assumption, by assumption, by omega, .inr ⟨rfl, rfl, rfl, vi rfl (by omega), hS⟩⟩, by omega⟩
      · refine c_no rfl (decide_eq_false (by omega)) ?_
        repeat (with_reducible first | refine c_seq ?_ | refine c_block ?_ | refine c_skip ?_ | refine x_then ?_ | refine x_block ?_)
        refine c_exit ?_
        repeat (with_reducible first | refine x_then_exit ?_ | refine x_block_exit ?_ | refine x_block_pass rfl ?_)
        repeat (with_reducible first | refine c_seq ?_ | refine c_block ?_ | refine c_skip ?_ | refine x_then ?_ | refine x_block ?_)
        exact ⟨_, rfl, by assumption, by assumption, by assumption, by assumption, .inl ⟨by assumption, hS⟩⟩
    · repeat (with_reducible first | refine c_seq ?_ | refine c_block ?_ | refine c_skip ?_ | refine x_then ?_ | refine x_block ?_)
      repeat (with_reducible first | refine c_seq ?_ | refine c_block ?_ | refine c_skip ?_ | refine x_then ?_ | refine x_block ?_)
      refine c_reg ?_
      refine l_pure rfl (s_move  h8 ?_)
      refine l_pure rfl (s_move  h1 ?_)
      refine l_pure rfl (s_leq  rfl rfl ?_)
      refine l_nil ?_
      repeat (with_reducible first | refine c_seq ?_ | refine c_block ?_ | refine c_skip ?_ | refine x_then ?_ | refine x_block ?_)
      refine c_no rfl (decide_eq_false (by omega)) ?_
      repeat (with_reducible first | refine c_seq ?_ | refine c_block ?_ | refine c_skip ?_ | refine x_then ?_ | refine x_block ?_)
      refine c_exit ?_
      repeat (with_reducible first | refine x_then_exit ?_ | refine x_block_exit ?_ | refine x_block_pass rfl ?_)
      repeat (with_reducible first | refine c_seq ?_ | refine c_block ?_ | refine c_skip ?_ | refine x_then ?_ | refine x_block ?_)
      exact ⟨_, rfl, by assumption, by assumption, by assumption, by assumption, .inr ⟨vi h7 (by omega), hS⟩⟩
  clear hS
  rintro ρ w2 ⟨h0, h1, h2, h6, h78⟩
  have key : ∃ k : Nat, ρ 7 = .int .i64 k ∧ Ret Tryd.prog 47 #[.slice (some ⟨b, 0, none⟩) n cp, .int .i64 k, .int .i64 n, .func (.func f) #[] cap.toArray] w2 fun v w' => v = .tuple #[] ∧ St w0 w' ((b, t, (isort (ltC c) L).flatMap enI ++ sp) :: H) := by
    rcases h78 with ⟨h7, hS⟩ | ⟨h7, hS⟩
    · refine ⟨0, h7, ?_⟩
      have hS2 : St w0 w2 ((b, t, ([] ++ L ++ []).flatMap enI ++ sp) :: H) := by simpa using hS
      refine (insertionSort_ok hc [] L [] sp n cp 0 n (by simp [hn]) rfl (by simp [hn]) (fun _ h => h) (by omega) _ hS2).mono ?_
      rintro v w' ⟨rfl, h⟩
      exact ⟨rfl, by simpa using h⟩
    · refine ⟨n, h7, ?_⟩
      have hS2 : St w0 w2 ((b, t, (isort (ltC c) L ++ [] ++ []).flatMap enI ++ sp) :: H) := by simpa using hS
      refine (insertionSort_ok hc (isort (ltC c) L) [] [] sp n cp n n (by simp [hl, hn]) (by rw [hl, hn]) (by simp [hl, hn]) (fun _ h => (by cases h)) (by omega) _ hS2).mono ?_
      rintro v w' ⟨rfl, h⟩
      exact ⟨rfl, by simpa [isort] using h⟩
  obtain ⟨k, h7, hret⟩ := key
  repeat (with_reducible first | refine c_seq ?_ | refine c_block ?_ | refine c_skip ?_ | refine x_then ?_ | refine x_block ?_)
  refine c_reg ?_
  refine l_pure rfl (s_move  h0 ?_)
  refine l_pure rfl (s_move  h7 ?_)
  refine l_pure rfl (s_move  h1 ?_)
  refine l_pure rfl (s_move  h2 ?_)
  refine l_heavy rfl (s_call Tryd.call47 rfl (hret) ?_)
  rintro r w3 ⟨rfl, hS⟩
  refine l_nil ?_
  repeat (with_reducible first | refine c_seq ?_ | refine c_block ?_ | refine c_skip ?_ | refine x_then ?_ | refine x_block ?_)
  refine c_loop (σ := Unit) (fun _ ρ w' => ρ 1 = .int .i64 n ∧ ρ 6 = .int .i64 20 ∧ w' = w3) (fun _ => 0) () ⟨h1, h6, rfl⟩ ?_
  rintro _ ρ w4 ⟨h1, h6, rfl⟩
  repeat (with_reducible first | refine c_seq ?_ | refine c_block ?_ | refine c_skip ?_ | refine x_then ?_ | refine x_block ?_)
  refine c_reg ?_
  refine l_pure rfl (s_move  h6 ?_)
  refine l_pure rfl (s_move  h1 ?_)
  refine l_pure rfl (s_lss  rfl rfl ?_)
  refine l_nil ?_
  repeat (with_reducible first | refine c_seq ?_ | refine c_block ?_ | refine c_skip ?_ | refine x_then ?_ | refine x_block ?_)
  refine c_no rfl (decide_eq_false (by omega)) ?_
  repeat (with_reducible first | refine c_seq ?_ | refine c_block ?_ | refine c_skip ?_ | refine x_then ?_ | refine x_block ?_)
  refine c_exit ?_
  repeat (with_reducible first | refine x_then_exit ?_ | refine x_block_exit ?_ | refine x_block_pass rfl ?_)
  repeat (with_reducible first | refine c_seq ?_ | refine c_block ?_ | refine c_skip ?_ | refine x_then ?_ | refine x_block ?_)
  exact r_none rfl ⟨rfl, hS⟩
theorem SortStable_ok {f : FuncId} {cap : List Value} {c : Int → Int → Int} {w0 : World} {b : Nat} {t : TypeId} {H : List Blk} (L : List Int) (hc : CmpOk f cap c L w0 b t H) (sp : List Value) (n cp : Nat)
    (hn : L.length = n) (h20 : n ≤ 20) (w : World) (hS : St w0 w ((b, t, L.flatMap enI ++ sp) :: H)) :
    Ret Tryd.prog 15 #[.slice (some ⟨b, 0, none⟩) n cp, .func (.func f) #[] cap.toArray] w fun v w' => v = .tuple #[] ∧ St w0 w' ((b, t, (isort (ltC c) L).flatMap enI ++ sp) :: H) := by
  refine enter Tryd.func15 rfl Tryd.ntmps15 rfl ?_
  repeat (with_reducible first | refine c_seq ?_ | refine c_block ?_ | refine c_skip ?_ | refine x_then ?_ | refine x_block ?_)
  refine c_reg ?_
  refine l_pure rfl (s_move  rfl ?_)
  refine l_pure rfl (s_move  rfl ?_)
  refine l_pure rfl (s_leno  rfl ⟨_, Tryd.underlying40⟩ ?_)
  refine l_pure rfl (s_move  rfl ?_)
  refine l_heavy rfl (s_call Tryd.call34 rfl (stable_ok L hc sp n cp hn h20 _ hS) ?_)
  rintro r w3 ⟨rfl, hS⟩
  refine l_nil ?_
  repeat (with_reducible first | refine c_seq ?_ | refine c_block ?_ | refine c_skip ?_ | refine x_then ?_ | refine x_block ?_)
  exact r_none rfl ⟨rfl, hS⟩
theorem SortStable_none (fv : Value) (w : World) : Ret Tryd.prog 15 #[.slice none 0 0, fv] w fun r w' => r = .tuple #[] ∧ w' = w := by
  refine enter Tryd.func15 rfl Tryd.ntmps15 rfl ?_
  repeat (with_reducible first | refine c_seq ?_ | refine c_block ?_ | refine c_skip ?_ | refine x_then ?_ | refine x_block ?_)
  refine c_reg ?_
  refine l_pure rfl (s_move  rfl ?_)
  refine l_pure rfl (s_move  rfl ?_)
  refine l_pure rfl (s_leno  rfl ⟨_, Tryd.underlying40⟩ ?_)
  refine l_pure rfl (s_move  rfl ?_)
  refine l_heavy rfl (s_call Tryd.call34 rfl (stable_none _ _ _) ?_)
  rintro r w3 ⟨rfl, rfl⟩
  refine l_nil ?_
  repeat (with_reducible first | refine c_seq ?_ | refine c_block ?_ | refine c_skip ?_ | refine x_then ?_ | refine x_block ?_)
  exact r_none rfl ⟨rfl, rfl⟩
/-- Of a slice that was grown by append. -/
theorem SortStable_gl {f : FuncId} {cap : List Value} {c : Int → Int → Int} {w0 : World} {t : TypeId} {H LB : List Blk} {v : Value} {L : List Int} (hc : ∀ b, CmpOk f cap c L w0 b t H) (hG : Gl enI t 1 v L LB) (h20 : L.length ≤ 20) (w : World) (hS : St w0 w (H ++ LB)) :
    Ret Tryd.prog 15 #[v, .func (.func f) #[] cap.toArray] w fun r w' => r = .tuple #[] ∧ ∃ LB', Gl enI t 1 v (isort (ltC c) L) LB' ∧ St w0 w' (H ++ LB') := by
  have hl := isort_len (ltC c) L
  obtain ⟨hX, ⟨rfl, h0, rfl⟩ | ⟨b, cp, sp, rfl, rfl, h1, h2, h3⟩⟩ := hG
  · refine (SortStable_none _ w).mono ?_
    rintro r w' ⟨rfl, rfl⟩
    obtain rfl : L = [] := List.eq_nil_of_length_eq_zero h0
    exact ⟨rfl, [], Gl.nil _ _ _, hS⟩
  · refine (SortStable_ok L (hc b) sp L.length cp rfl h20 w (hS.perm List.perm_append_comm)).mono ?_
    rintro r w' ⟨rfl, hS'⟩
    refine ⟨rfl, [(b, t, (isort (ltC c) L).flatMap enI ++ sp)], ⟨?_, .inr ⟨b, cp, sp, ?_, rfl, by rw [hl]; exact h1, h2, ?_⟩⟩, hS'.perm (List.perm_append_comm (l₁ := [_]))⟩
    · rw [flat_len enI_len]
    · rw [hl]
    · rw [List.length_append, flat_len enI_len] at h3
      rw [List.length_append, flat_len enI_len, hl]
      exact h3
end Go.Proofs.YtblfipdfklpmmabDoor
