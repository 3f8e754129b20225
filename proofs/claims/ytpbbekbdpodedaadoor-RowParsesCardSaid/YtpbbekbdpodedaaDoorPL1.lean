import Derived.Test.YtpbbekbdpodedaaDoorPL0
import Derived.Test.YtpbbekbdpodedaaDoorPR5
namespace Go.Proofs.YtpbbekbdpodedaaDoor.PL
open Go.RowKit Go.Proofs.YtpbbekbdpodedaaDoor Go.Proofs.YtpbbekbdpodedaaDoor.PR Go.Proofs.YtpbbekbdpodedaaDoorW.PrintWords Go.Proofs.YtpbbekbdpodedaaDoorW.PrintLast H
set_option linter.unusedVariables false

/-- Rows compared as words in a lexicon. -/
def cmpL : List Int → List Int → Int
  | [], [] => 0
  | [], _ :: _ => -1
  | _ :: _, [] => 1
  | a :: xs, b :: ys => if a < b then -1 else if a > b then 1 else cmpL xs ys
theorem cmpL_zero : ∀ (xs ys : List Int), cmpL xs ys = 0 ↔ xs = ys
  | [], [] => by simp [cmpL]
  | [], _ :: _ => by simp [cmpL]
  | _ :: _, [] => by simp [cmpL]
  | a :: xs, b :: ys => by
    unfold cmpL
    by_cases h1 : a < b
    · rw [if_pos h1]
      constructor
      · intro h; cases h
      · intro h; injection h with h; omega
    · rw [if_neg h1]
      by_cases h2 : a > b
      · rw [if_pos h2]
        constructor
        · intro h; cases h
        · intro h; injection h with h; omega
      · rw [if_neg h2, cmpL_zero xs ys]
        constructor
        · rintro rfl; rw [show a = b by omega]
        · intro h; injection h

theorem refCompare_l (a b : List Int) (ha : a.length ≤ 100000) (hb : b.length ≤ 100000) (d : Nat) : ∀ (i k : Nat), a.length - i = d → i ≤ a.length → i ≤ b.length → 2 * d + 2 ≤ k → schismaref05_Compare.l0 k a b i = some (cmpL (a.drop i) (b.drop i)) := by
  induction d with
  | zero =>
    intro i k hd hi hj hk
    obtain ⟨k, rfl⟩ : ∃ m, k = m + 2 := ⟨k - 2, by omega⟩
    simp only [schismaref05_Compare.l0]
    rw [if_neg (by omega)]
    simp only [schismaref05_Compare.j1]
    rw [if_neg (by decide), List.drop_eq_nil_of_le (by omega : a.length ≤ i)]
    by_cases h : i < b.length
    · rw [if_pos (by omega), drop_rd b i h]
      rfl
    · rw [if_neg (by omega), if_neg (by omega), List.drop_eq_nil_of_le (by omega : b.length ≤ i)]
      rfl
  | succ d ih =>
    intro i k hd hi hj hk
    obtain ⟨k, rfl⟩ : ∃ m, k = m + 2 := ⟨k - 2, by omega⟩
    have hlt : i < a.length := by omega
    simp only [schismaref05_Compare.l0]
    rw [if_pos (by omega)]
    simp only [schismaref05_Compare.j1]
    by_cases h : i < b.length
    · rw [decide_eq_true (show (i : Int) < (b.length : Int) by omega), if_pos rfl, if_pos (by omega), if_pos (by omega), if_pos (by omega), drop_rd a i hlt, drop_rd b i h]
      unfold cmpL
      by_cases h1 : rd a i < rd b i
      · rw [if_pos h1, if_pos h1]
      · rw [if_neg h1, if_neg h1]
        by_cases h2 : rd a i > rd b i
        · rw [if_pos h2, if_pos h2]
        · rw [if_neg h2, if_neg h2, wr1 hlt (by omega), ih (i + 1) k (by omega) (by omega) (by omega) (by omega)]
    · rw [decide_eq_false (show ¬ (i : Int) < (b.length : Int) by omega), if_neg (by decide), if_neg (by omega), if_pos (by omega), drop_rd a i hlt, List.drop_eq_nil_of_le (by omega : b.length ≤ i)]
      rfl
theorem refCompare (a b : List Int) (ha : a.length ≤ 100000) (hb : b.length ≤ 100000) {k : Nat} (hk : 2 * a.length + 2 ≤ k) : schismaref05_Compare.f k a b = some (cmpL a b) := by
  have := refCompare_l a b ha hb a.length 0 k (by omega) (by omega) (by omega) hk
  simpa [schismaref05_Compare.f] using this
theorem refEqual (a b : List Int) (ha : a.length ≤ 100000) (hb : b.length ≤ 100000) {k : Nat} (hk : 2 * a.length + 2 ≤ k) : schismaref05_Equal.f k a b = some (decide (a = b)) := by
  unfold schismaref05_Equal.f
  rw [refCompare a b ha hb hk]
  simp only [Option.bind_some, Option.some.injEq]
  by_cases h : a = b
  · rw [decide_eq_true h, (cmpL_zero a b).2 h]
    rfl
  · rw [decide_eq_false h]
    have : cmpL a b ≠ 0 := fun e => h ((cmpL_zero a b).1 e)
    simpa using this

theorem refNeg_l (l : List Int) (hl : l.length ≤ 100000) (d : Nat) : ∀ (i k : Nat) (out : List Int), l.length - i = d → i ≤ l.length → out.length ≤ i → d < k → schismaref05_Neg.l0 k l out i = some (out ++ (l.drop i).map fun x => wrap64 (-x)) := by
  induction d with
  | zero =>
    intro i k out hd hi ho hk
    obtain ⟨k, rfl⟩ := pred hk
    simp only [schismaref05_Neg.l0]
    rw [if_neg (by omega), List.drop_eq_nil_of_le (by omega)]
    simp
  | succ d ih =>
    intro i k out hd hi ho hk
    obtain ⟨k, rfl⟩ := pred hk
    have hlt : i < l.length := by omega
    simp only [schismaref05_Neg.l0]
    rw [if_pos (by omega), if_pos (by omega), if_pos (by omega), drop_rd l i hlt, wr1 hlt (by omega), ih (i + 1) k _ (by omega) (by omega) (by simp; omega) (by omega)]
    simp
theorem refNeg (l : List Int) (hl : l.length ≤ 100000) {k : Nat} (hk : l.length < k) : schismaref05_Neg.f k l = some (l.map fun x => wrap64 (-x)) := by
  have := refNeg_l l hl l.length 0 k [] (by omega) (by omega) (by simp) hk
  simpa [schismaref05_Neg.f] using this
end Go.Proofs.YtpbbekbdpodedaaDoor.PL
