import Derived.Test.YtpbbekbdpodedaaDoorPR11
import Derived.Test.YtpbbekbdpodedaaDoorPL0
namespace Go.Proofs.YtpbbekbdpodedaaDoor.Pure
open Go.RowKit Go.Proofs.YtpbbekbdpodedaaDoor Go.Proofs.YtpbbekbdpodedaaDoor.PR Go.Proofs.YtpbbekbdpodedaaDoor.PL Go.Proofs.YtpbbekbdpodedaaDoorW.PrintWords Go.Proofs.YtpbbekbdpodedaaDoorW.PrintLast
set_option linter.unusedVariables false

theorem RowUnits : schismalaw05_RowUnits.Pure := by
  intro a i _ _
  refine ⟨200, ?_⟩
  unfold schismalaw05_RowUnits.f
  rw [known_any (by omega)]
  simp only [Option.bind_some, if_true]
  by_cases h0 : a < 0
  · have z : row_Zero.f a = some ([], 3) := by unfold row_Zero.f; rw [if_pos h0]
    have u : row_Unit.f a i = some ([], 3) := by unfold row_Unit.f; rw [z]; rfl
    rw [z, u]
    simp only [Option.bind_some]
    rw [if_pos h0]
    simp [schismalaw05_RowUnits.j0, wrap64]
  · by_cases h1 : a > 64
    · have z : row_Zero.f a = some ([], 3) := by unfold row_Zero.f; rw [if_neg h0, if_pos h1]
      have u : row_Unit.f a i = some ([], 3) := by unfold row_Unit.f; rw [z]; rfl
      rw [z, u]
      simp only [Option.bind_some]
      rw [if_neg h0, decide_eq_true h1]
      simp [schismalaw05_RowUnits.j0, wrap64]
    · obtain ⟨n, rfl⟩ : ∃ n : Nat, a = n := ⟨a.toNat, by omega⟩
      have hn : n ≤ 64 := by omega
      have z : row_Zero.f (n : Int) = some (List.replicate n 0, 0) := by
        unfold row_Zero.f
        rw [if_neg h0, if_neg h1, if_pos (by omega), if_pos (by omega)]
        rfl
      rw [z]
      simp only [Option.bind_some]
      simp only [if_neg h0, decide_eq_false h1]
      have hz : schismaref05_IsZero.f 199 (List.replicate n 0) = some true := by rw [refIsZero _ (by simp; omega) (by simp; omega), zro_replicate]
      by_cases h2 : i < 0
      · have u : row_Unit.f n i = some ([], 3) := by unfold row_Unit.f; rw [z]; simp only [Option.bind_some, if_true]; rw [if_pos h2]
        rw [u]
        simp only [Option.bind_some, schismalaw05_RowUnits.j0]
        rw [hz]
        simp [schismalaw05_RowUnits.j1, schismalaw05_RowUnits.j2, h2]
      · by_cases h3 : i ≥ n
        · have u : row_Unit.f n i = some ([], 3) := by unfold row_Unit.f; rw [z]; simp only [Option.bind_some, if_true]; rw [if_neg h2, if_pos h3]
          rw [u]
          simp only [Option.bind_some, schismalaw05_RowUnits.j0]
          rw [hz]
          simp [schismalaw05_RowUnits.j1, schismalaw05_RowUnits.j2, h2, h3]
        · obtain ⟨m, rfl⟩ : ∃ m : Nat, i = m := ⟨i.toNat, by omega⟩
          have hm : m < n := by omega
          have u : row_Unit.f n m = some ((List.replicate n 0).set m 1, 0) := by
            unfold row_Unit.f; rw [z]; simp only [Option.bind_some, if_true]; rw [if_neg h2, if_neg h3, if_pos (by omega), if_pos (by simp; omega)]; rfl
          rw [u]
          simp only [Option.bind_some, schismalaw05_RowUnits.j0]
          rw [hz]
          have hlen : ((List.replicate n (0 : Int)).set m 1).length = n := by simp
          have hrd : rd ((List.replicate n (0 : Int)).set m 1) (m : Int) = 1 := by
            unfold rd
            rw [Int.toNat_natCast, List.getD_eq_getElem?_getD, List.getElem?_set_self (by simpa using hm)]
            rfl
          have hset : ((List.replicate n (0 : Int)).set m 1).set m 0 = List.replicate n 0 := by
            rw [List.set_set]
            apply List.ext_getElem
            · simp
            · intro j h1 h2
              rw [List.getElem_set]
              split <;> simp
          have hz2 : schismaref05_IsZero.f 197 (List.replicate n 0) = some true := by rw [refIsZero _ (by simp; omega) (by simp; omega), zro_replicate]
          have hge : ¬ ((m : Int) ≥ (n : Int)) := h3
          simp only [schismalaw05_RowUnits.j1, schismalaw05_RowUnits.j2, Option.bind_some, if_neg h2, decide_eq_false hge, hlen, hrd, hset, Int.toNat_natCast, hz2]
          simp
          omega
end Go.Proofs.YtpbbekbdpodedaaDoor.Pure
