import Derived.Test.YtpbbekbdpodedaaDoorPR20
import Derived.Test.YtpbbekbdpodedaaDoorPL1
namespace Go.Proofs.YtpbbekbdpodedaaDoor.Pure
open Go.RowKit Go.Proofs.YtpbbekbdpodedaaDoor Go.Proofs.YtpbbekbdpodedaaDoor.PR Go.Proofs.YtpbbekbdpodedaaDoor.PL Go.Proofs.YtpbbekbdpodedaaDoorW.PrintWords Go.Proofs.YtpbbekbdpodedaaDoorW.PrintLast
set_option linter.unusedVariables false

theorem rowEqual_l (a b : List Int) (hab : a.length = b.length) (ha : a.length ≤ 100000) (d : Nat) : ∀ (i k : Nat), a.length - i = d → i ≤ a.length → d < k → api_Row_int_67.l0 k a b (a.length : Int) i = some (decide (a.drop i = b.drop i)) := by
  induction d with
  | zero =>
    intro i k hd hi hk
    obtain ⟨k, rfl⟩ := pred hk
    simp only [api_Row_int_67.l0]
    rw [if_neg (by omega), List.drop_eq_nil_of_le (by omega : a.length ≤ i), List.drop_eq_nil_of_le (by omega : b.length ≤ i)]
    rfl
  | succ d ih =>
    intro i k hd hi hk
    obtain ⟨k, rfl⟩ := pred hk
    have hlt : i < a.length := by omega
    simp only [api_Row_int_67.l0]
    rw [if_pos (by omega), if_pos (by omega), if_pos (by omega), if_pos (by omega), drop_rd a i hlt, drop_rd b i (by omega)]
    by_cases h : rd a i = rd b i
    · rw [if_pos h, wr1 hlt (by omega), ih (i + 1) k (by omega) (by omega) (by omega), h]
      simp
    · rw [if_neg h]
      simp [h]
theorem rowEqual (a b : List Int) (ha : a.length ≤ 100000) (hb : b.length ≤ 100000) {k : Nat} (hk : a.length < k) : row_Equal.f k a b = some (decide (a = b)) := by
  unfold row_Equal.f api_Row_int_67.f
  by_cases h : a.length = b.length
  · rw [if_pos (by omega)]
    have := rowEqual_l a b h ha a.length 0 k (by omega) (by omega) hk
    simp only [Int.cast_ofNat_Int, List.drop_zero] at this
    rw [this]
    rfl
  · rw [if_neg (by omega), decide_eq_false (fun e => h (by rw [e]))]
    rfl

theorem cmpInt (a b : Int) : cmp_Compare_int.f a b = some (if a < b then -1 else if a > b then 1 else 0) := by
  unfold cmp_Compare_int.f cmp_isNaN_int.f
  simp only [Option.bind_some, bne_self_eq_false, Bool.false_eq_true, if_false]
  by_cases h1 : a < b
  · rw [if_pos h1, if_pos h1]
  · rw [if_neg h1, if_neg h1]
    by_cases h2 : a > b
    · rw [if_pos h2, if_pos h2]
    · rw [if_neg h2, if_neg h2]
theorem rowCompare_l (a b : List Int) (ha : a.length ≤ 100000) (hb : b.length ≤ 100000) (d : Nat) : ∀ (i k : Nat), a.length - i = d → i ≤ a.length → i ≤ b.length → d < k → api_Row_int_68.l0 k a b a (a.length : Int) i = some (cmpL (a.drop i) (b.drop i)) := by
  induction d with
  | zero =>
    intro i k hd hi hj hk
    obtain ⟨k, rfl⟩ := pred hk
    simp only [api_Row_int_68.l0]
    rw [if_neg (by omega), List.drop_eq_nil_of_le (by omega : a.length ≤ i)]
    by_cases h : i < b.length
    · rw [if_pos (by omega), drop_rd b i h]
      rfl
    · rw [if_neg (by omega), List.drop_eq_nil_of_le (by omega : b.length ≤ i)]
      rfl
  | succ d ih =>
    intro i k hd hi hj hk
    obtain ⟨k, rfl⟩ := pred hk
    have hlt : i < a.length := by omega
    simp only [api_Row_int_68.l0]
    rw [if_pos (by omega), if_pos (by omega), if_pos (by omega)]
    by_cases h : i < b.length
    · rw [if_neg (by omega), if_pos (by omega), cmpInt, drop_rd a i hlt, drop_rd b i h]
      simp only [Option.bind_some]
      unfold cmpL
      by_cases h1 : rd a i < rd b i
      · simp only [if_pos h1]
        rfl
      · simp only [if_neg h1]
        by_cases h2 : rd a i > rd b i
        · simp only [if_pos h2]
          rfl
        · simp only [if_neg h2, if_true]
          rw [wr1 hlt (by omega), ih (i + 1) k (by omega) (by omega) (by omega) (by omega)]
    · rw [if_pos (by omega), drop_rd a i hlt, List.drop_eq_nil_of_le (by omega : b.length ≤ i)]
      rfl
theorem rowCompare (a b : List Int) (ha : a.length ≤ 100000) (hb : b.length ≤ 100000) {k : Nat} (hk : a.length < k) : row_Compare.f k a b = some (cmpL a b) := by
  unfold row_Compare.f api_Row_int_68.f
  have := rowCompare_l a b ha hb a.length 0 k (by omega) (by omega) (by omega) hk
  simp only [Int.cast_ofNat_Int, List.drop_zero] at this
  rw [this]
  rfl

theorem RowCompares : schismalaw05_RowCompares.Pure := by
  intro a b _ _ _ _ _ _
  refine ⟨1000, ?_⟩
  unfold schismalaw05_RowCompares.f
  rw [known_any (by omega)]
  simp only [Option.bind_some, if_true]
  by_cases ha : (a.length : Int) > 80
  · rw [if_pos ha]
    simp only [schismalaw05_RowCompares.j0, if_true]
    rw [known_any (by omega)]
    rfl
  · rw [if_neg ha]
    by_cases hb : (b.length : Int) > 80
    · rw [decide_eq_true hb]
      simp only [schismalaw05_RowCompares.j0, if_true]
      rw [known_any (by omega)]
      rfl
    · rw [decide_eq_false hb]
      simp only [schismalaw05_RowCompares.j0]
      rw [rowEqual a b (by omega) (by omega) (by omega), refEqual a b (by omega) (by omega) (by omega), rowCompare a b (by omega) (by omega) (by omega), refCompare a b (by omega) (by omega) (by omega), rowCompare b a (by omega) (by omega) (by omega), refCompare b a (by omega) (by omega) (by omega), refIsZero a (by omega) (by omega)]
      simp [row_IsZero.f]
end Go.Proofs.YtpbbekbdpodedaaDoor.Pure
