/-
  Plain facts: shares of a total.
-/
import Derived.Test.YtmapmdldlcfjhaaDoorLawVc
namespace Go.Proofs.YtmapmdldlcfjhaaDoor
open Go Go.RowKit Go.Sx

theorem shA_at {total : Int} {ws : List RR} {i : Nat} (hi : i < ws.length) : qA (shL total ws) i = shQ total ws i := by
  unfold qA shL
  rw [tab_get _ _ hi, toQ_ofQ]
theorem inv_nn {q : Rat} (h : 0 ≤ q) : 0 ≤ q⁻¹ := by
  by_cases e : q = 0
  · rw [e, Rat.inv_zero]; exact Rat.le_refl
  · exact Rat.le_of_lt (Rat.inv_pos.2 (by grind))
theorem sh_nonneg {total : Int} {ws : List RR} (h0 : negs ws = false) (ht : 0 ≤ total) (i : Nat) : 0 ≤ shQ total ws i := by
  unfold shQ
  rw [Rat.div_def]
  exact Rat.mul_nonneg (Rat.mul_nonneg (Rat.intCast_nonneg.2 ht) (inv_nn (sumQ_nn h0))) (negs_get h0 i)
theorem sh_sum {total : Int} {ws : List RR} (hs : sumQ (ws.map toQ) ≠ 0) : sumR (qA (shL total ws)) (shL total ws).length = (total : Rat) := by
  rw [shL_len, sumR_congr (g := fun i => toQ (ws.getD i zRR) * ((total : Rat) / sumQ (ws.map toQ))) fun i hi => by rw [shA_at hi]; unfold shQ; exact Rat.mul_comm _ _]
  rw [sumR_mul, ← sumR_list, Rat.mul_comm, Rat.div_mul_cancel hs]
theorem sh_sumQ {total : Int} {ws : List RR} (hs : sumQ (ws.map toQ) ≠ 0) : sumQ ((shL total ws).map toQ) = (total : Rat) := by rw [qA_sum, sh_sum hs]
theorem sh_negs {total : Int} {ws : List RR} (h0 : negs ws = false) (ht : 0 ≤ total) : negs (shL total ws) = false := negs_of fun q hq => by
  obtain ⟨r, hr, rfl⟩ := List.mem_map.1 hq
  obtain ⟨j, _, rfl⟩ := tab_mem hr
  rw [toQ_ofQ]; exact sh_nonneg h0 ht j
theorem sh_lgE {total : Int} {ws : List RR} (h0 : negs ws = false) (hs : sumQ (ws.map toQ) ≠ 0) (ht : 0 ≤ total) (htm : total ≤ 9223372036854775807) (hn : ws.length ≤ 1024) : lgE (shL total ws) = 0 := by
  unfold lgE
  rw [shL_len, if_neg (by omega), sh_negs h0 ht, if_neg (by decide), sh_sumQ hs, show i64V (total : Rat) = (total, true) by rw [i64V_int, if_pos ⟨by omega, htm⟩]]
  rfl
theorem sh_spE {total : Int} {ws : List RR} (h0 : negs ws = false) (hs : sumQ (ws.map toQ) ≠ 0) (ht : 0 ≤ total) (htm : total ≤ 9223372036854775807) (hn : ws.length ≤ 1024) : spE total ws = 0 := by
  unfold spE
  rw [if_neg (by omega), h0, if_neg (by simp; omega), if_neg hs, sh_lgE h0 hs ht htm hn]
theorem sh_spE0 {total : Int} {ws : List RR} (h0 : negs ws = false) (hs : sumQ (ws.map toQ) = 0) (ht : 0 ≤ total) (hn : ws.length ≤ 1024) : spE total ws = 6 := by
  unfold spE
  rw [if_neg (by omega), h0, if_neg (by simp; omega), if_pos hs]
theorem sh_spL {total : Int} {ws : List RR} (h0 : negs ws = false) (hs : sumQ (ws.map toQ) ≠ 0) (ht : 0 ≤ total) (htm : total ≤ 9223372036854775807) (hn : ws.length ≤ 1024) : spL total ws = tab ws.length (resA (shL total ws)) := by
  unfold spL
  rw [if_pos (sh_spE h0 hs ht htm hn)]
  unfold lgL
  rw [if_pos (sh_lgE h0 hs ht htm hn), shL_len]
theorem amts_negs (l : List Nat) (n : Nat) : negs (amts l n) = false := negs_of fun q hq => by
  obtain ⟨r, hr, rfl⟩ := List.mem_map.1 hq
  obtain ⟨x, _, rfl⟩ := List.mem_map.1 hr
  unfold amR
  rw [toQ_ofQ]; exact amtQ_nonneg x
/-- What is given to whom. -/
theorem res_facts {total : Int} {ws : List RR} (h0 : negs ws = false) (hs : sumQ (ws.map toQ) ≠ 0) (ht : 0 ≤ total) :
    (∀ i, i < ws.length → 0 ≤ resA (shL total ws) i ∧ resA (shL total ws) i ≤ total) ∧ sumZ (resA (shL total ws)) ws.length = total := by
  have ho := ordG_ord (shL total ws)
  have hS := sh_sum (total := total) hs
  constructor
  · intro i hi
    refine ⟨res_nonneg ho (by rw [shA_at hi]; exact sh_nonneg h0 ht i), ?_⟩
    exact res_le ho hS (fun j hj => by rw [shL_len] at hj; rw [shA_at hj]; exact sh_nonneg h0 ht j) (by rw [shL_len]; exact hi)
  · have := res_sum ho
    rw [hS, Rat.floor_intCast, shL_len] at this
    unfold resA
    rw [shL_len]
    exact this
theorem sumZ_range {f : Nat → Int} {n : Nat} {T : Int} (h : ∀ i, i < n → 0 ≤ f i) (hT : sumZ f n = T) (hm : T ≤ 9223372036854775807) : ∀ i, i ≤ n → -9223372036854775808 ≤ sumZ f i ∧ sumZ f i ≤ 9223372036854775807 := fun i hi => by
  have h1 := sumZ_mono h hi
  have h2 := sumZ_nonneg (f := f) (n := i) fun j hj => h j (by omega)
  omega
end Go.Proofs.YtmapmdldlcfjhaaDoor
