import Derived.Test.YtpbbekbdpodedaaDoorPL1
namespace Go.Proofs.YtpbbekbdpodedaaDoor.PL
open Go.RowKit Go.Proofs.YtpbbekbdpodedaaDoor Go.Proofs.YtpbbekbdpodedaaDoor.PR Go.Proofs.YtpbbekbdpodedaaDoorW.PrintWords Go.Proofs.YtpbbekbdpodedaaDoorW.PrintLast H
set_option linter.unusedVariables false

theorem tdivmod (p : Int) : p.tdiv 1000000000 * 1000000000 + p.tmod 1000000000 = p ∧ -1000000000 < p.tmod 1000000000 ∧ p.tmod 1000000000 < 1000000000 := by
  have h1 := Int.mul_tdiv_add_tmod p 1000000000
  have h2 := Int.tmod_lt_of_pos p (show (0 : Int) < 1000000000 by omega)
  have h3 := Int.tmod_lt_of_pos (-p) (show (0 : Int) < 1000000000 by omega)
  rw [Int.neg_tmod] at h3
  omega
/-- One product added to the reference's sum. -/
theorem refPlus {hi lo a b : Int} (h1 : -100000000000000 ≤ hi) (h2 : hi ≤ 100000000000000) (h3 : -100000000000000 ≤ lo) (h4 : lo ≤ 100000000000000) (ha : -1000000000 ≤ a ∧ a ≤ 1000000000) (hb : -1000000000 ≤ b ∧ b ≤ 1000000000) :
    ∃ x y, schismaref05_sum_plus.f hi lo a b = some (x, y) ∧ x * 1000000000 + y = hi * 1000000000 + lo + a * b ∧ hi - 1000000001 ≤ x ∧ x ≤ hi + 1000000001 ∧ lo - 1000000000 ≤ y ∧ y ≤ lo + 1000000000 := by
  unfold schismaref05_sum_plus.f
  have hp := mul_small ha hb
  generalize a * b = p at hp ⊢
  have w1 : wrap64 p = p := by unfold wrap64; omega
  rw [w1]
  have ht := tdivmod p
  generalize p.tdiv 1000000000 = t at ht ⊢
  generalize p.tmod 1000000000 = m at ht ⊢
  have w2 : wrap64 t = t := by unfold wrap64; omega
  rw [w2]
  have w3 : wrap64 (hi + t) = hi + t := by unfold wrap64; omega
  have w4 : wrap64 (lo + m) = lo + m := by unfold wrap64; omega
  rw [w3, w4]
  exact ⟨_, _, rfl, by omega, by omega, by omega, by omega, by omega⟩
theorem refValue {hi lo : Int} (h1 : -100000000000000 ≤ hi) (h2 : hi ≤ 100000000000000) (h3 : -100000000000000 ≤ lo) (h4 : lo ≤ 100000000000000) :
    ∃ n, schismaref05_sum_value.f hi lo = some (n, fitB (hi * 1000000000 + lo)) ∧ (fitB (hi * 1000000000 + lo) = true → n = hi * 1000000000 + lo) := by
  unfold schismaref05_sum_value.f
  have ht := tdivmod lo
  generalize lo.tdiv 1000000000 = t at ht ⊢
  generalize lo.tmod 1000000000 = m at ht ⊢
  have w2 : wrap64 t = t := by unfold wrap64; omega
  rw [w2]
  have w3 : wrap64 (hi + t) = hi + t := by unfold wrap64; omega
  rw [w3]
  have e : hi * 1000000000 + lo = (hi + t) * 1000000000 + m := by omega
  rw [e]
  generalize hi + t = x at *
  by_cases c1 : x > 2
  · rw [if_pos c1, fitB_hi (by omega)]
    exact ⟨_, rfl, fun h => by cases h⟩
  · rw [if_neg c1]
    by_cases c2 : x < -2
    · rw [if_pos c2, fitB_lo (by omega)]
      exact ⟨_, rfl, fun h => by cases h⟩
    · rw [if_neg c2]
      have w4 : wrap64 (x * 1000000000) = x * 1000000000 := by unfold wrap64; omega
      rw [w4]
      have w5 : wrap64 (x * 1000000000 + m) = x * 1000000000 + m := by unfold wrap64; omega
      rw [w5]
      by_cases c3 : x * 1000000000 + m ≤ 1000000000
      · rw [if_pos c3]
        refine ⟨_, ?_, fun _ => rfl⟩
        by_cases c4 : x * 1000000000 + m ≥ -1000000000
        · rw [decide_eq_true c4, fitB_true (by omega) (by omega)]
        · rw [decide_eq_false c4, fitB_lo (by omega)]
      · rw [if_neg c3, fitB_hi (by omega)]
        exact ⟨_, rfl, fun h => by cases h⟩

/-! ### the reference's Combine -/
/-- The sum of a column. -/
def csum (c : Int) : List (List Int) → List Int → Int
  | r :: rs, f :: fs => rd r c * f + csum c rs fs
  | _, _ => 0
theorem drop_rdL (l : List (List Int)) (i : Nat) (h : i < l.length) : l.drop i = rd_L2 l (i : Int) :: l.drop (i + 1) := by
  rw [List.drop_eq_getElem_cons h]
  congr 1
  unfold rd_L2
  rw [Int.toNat_natCast, List.getD_eq_getElem?_getD, List.getElem?_eq_getElem h]
  rfl
theorem rdL_mem (l : List (List Int)) (i : Nat) (h : i < l.length) : rd_L2 l (i : Int) ∈ l := by
  unfold rd_L2
  rw [Int.toNat_natCast, List.getD_eq_getElem?_getD, List.getElem?_eq_getElem h]
  exact List.getElem_mem h
/-- Rows of one length, of right elements, with right factors. -/
structure RowsOK (n : Nat) (rows : List (List Int)) (fs : List Int) : Prop where
  len : ∀ r ∈ rows, r.length = n
  els : ∀ r ∈ rows, ∀ x ∈ r, -1000000000 ≤ x ∧ x ≤ 1000000000
  fac : ∀ x ∈ fs, -1000000000 ≤ x ∧ x ≤ 1000000000
  same : rows.length = fs.length
  few : rows.length ≤ 1000
  short : n ≤ 1000
end Go.Proofs.YtpbbekbdpodedaaDoor.PL
