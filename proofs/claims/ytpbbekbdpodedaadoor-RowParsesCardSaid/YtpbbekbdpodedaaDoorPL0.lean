import Derived.Test.YtpbbekbdpodedaaDoorK0
import Derived.Test.YtpbbekbdpodedaaDoorPR6
import Derived.Test.YtpbbekbdpodedaaDoorH3
namespace Go.Proofs.YtpbbekbdpodedaaDoor.PL
open Go.RowKit Go.Proofs.YtpbbekbdpodedaaDoor Go.Proofs.YtpbbekbdpodedaaDoor.PR Go.Proofs.YtpbbekbdpodedaaDoorW.PrintWords Go.Proofs.YtpbbekbdpodedaaDoorW.PrintLast H
set_option linter.unusedVariables false

theorem drop_rd (l : List Int) (i : Nat) (h : i < l.length) : l.drop i = rd l (i : Int) :: l.drop (i + 1) := by
  rw [List.drop_eq_getElem_cons h]
  congr 1
  unfold rd
  rw [Int.toNat_natCast, List.getD_eq_getElem?_getD, List.getElem?_eq_getElem h]
  rfl
theorem rd_mem (l : List Int) (i : Nat) (h : i < l.length) : rd l (i : Int) ∈ l := by
  unfold rd
  rw [Int.toNat_natCast, List.getD_eq_getElem?_getD, List.getElem?_eq_getElem h]
  exact List.getElem_mem h
theorem wr1 {i : Nat} {n : Nat} (h : i < n) (hn : n ≤ 4000000000000000000) : wrap64 ((i : Int) + 1) = ((i + 1 : Nat) : Int) := by
  unfold wrap64
  omega
theorem pred {k d : Nat} (h : d < k) : ∃ m, k = m + 1 := ⟨k - 1, by omega⟩

theorem refIsZero_l (l : List Int) (hl : l.length ≤ 100000) (d : Nat) : ∀ (i k : Nat), l.length - i = d → i ≤ l.length → d < k → schismaref05_IsZero.l0 k l i = some (zro (l.drop i)) := by
  induction d with
  | zero =>
    intro i k hd hi hk
    obtain ⟨k, rfl⟩ := pred hk
    simp only [schismaref05_IsZero.l0]
    rw [if_neg (by omega), List.drop_eq_nil_of_le (by omega)]
    rfl
  | succ d ih =>
    intro i k hd hi hk
    obtain ⟨k, rfl⟩ := pred hk
    have hlt : i < l.length := by omega
    simp only [schismaref05_IsZero.l0]
    rw [if_pos (by omega), if_pos (by omega), drop_rd l i hlt, wr1 hlt (by omega)]
    by_cases h : rd l i = 0
    · rw [if_pos h, ih (i + 1) k (by omega) (by omega) (by omega)]
      simp [zro, h]
    · rw [if_neg h]
      simp [zro, h]
theorem refIsZero (l : List Int) (hl : l.length ≤ 100000) {k : Nat} (hk : l.length < k) : schismaref05_IsZero.f k l = some (zro l) := by
  have := refIsZero_l l hl l.length 0 k (by omega) (by omega) hk
  simpa [schismaref05_IsZero.f] using this
theorem zro_iff (l : List Int) : zro l = true ↔ ∀ x ∈ l, x = 0 := by simp [zro]
theorem zro_replicate (n : Nat) : zro (List.replicate n 0) = true := by
  rw [zro_iff]
  intro x hx
  exact (List.mem_replicate.1 hx).2

theorem refCheck_l (l : List Int) (hl : l.length ≤ 64) (d : Nat) : ∀ (i k : Nat), l.length - i = d → i ≤ l.length → d < k → schismaref05_Check.l0 k l i = some (if (l.drop i).all fitB = true then 0 else 4) := by
  induction d with
  | zero =>
    intro i k hd hi hk
    obtain ⟨k, rfl⟩ := pred hk
    simp only [schismaref05_Check.l0]
    rw [if_neg (by omega), List.drop_eq_nil_of_le (by omega)]
    rfl
  | succ d ih =>
    intro i k hd hi hk
    obtain ⟨k, rfl⟩ := pred hk
    have hlt : i < l.length := by omega
    simp only [schismaref05_Check.l0]
    rw [if_pos (by omega), if_pos (by omega), drop_rd l i hlt, wr1 hlt (by omega), List.all_cons]
    by_cases h1 : rd l i > 1000000000
    · rw [if_pos h1, fitB_hi h1]
      rfl
    · rw [if_neg h1]
      by_cases h2 : rd l i < -1000000000
      · rw [if_pos h2, fitB_lo h2]
        rfl
      · rw [if_neg h2, ih (i + 1) k (by omega) (by omega) (by omega), fitB_true (by omega) (by omega), Bool.true_and]
theorem refCheck (l : List Int) {k : Nat} (hk : 64 < k) : schismaref05_Check.f k l = some (chk l) := by
  unfold schismaref05_Check.f chk
  by_cases h : l.length ≤ 64
  · rw [if_neg (by omega)]
    have := refCheck_l l h l.length 0 k (by omega) (by omega) (by omega)
    rw [List.drop_zero] at this
    rw [show ((0 : Nat) : Int) = 0 from rfl] at this
    rw [this]
    by_cases h2 : l.all fitB = true
    · rw [if_pos h2, if_pos ⟨h, h2⟩]
    · rw [if_neg h2, if_neg (fun h' => h2 h'.2)]
  · rw [if_pos (by omega), if_neg (fun h' => h h'.1)]
end Go.Proofs.YtpbbekbdpodedaaDoor.PL
