import Derived.Test.YtpbbekbdpodedaaDoorPRC
import Derived.Test.YtpbbekbdpodedaaDoorPL0
namespace Go.Proofs.YtpbbekbdpodedaaDoor.Pure
open Go.RowKit Go.Proofs.YtpbbekbdpodedaaDoor Go.Proofs.YtpbbekbdpodedaaDoor.PR Go.Proofs.YtpbbekbdpodedaaDoor.PL Go.Proofs.YtpbbekbdpodedaaDoorW.PrintWords Go.Proofs.YtpbbekbdpodedaaDoorW.PrintLast Go.Proofs.YtpbbekbdpodedaaDoorW.PrintMore H
set_option linter.unusedVariables false
set_option linter.unusedSimpArgs false

/-- What CheckAll says of one row. -/
def one (n : Int) (l : List Int) : Int := if chk l = 0 then (if (l.length : Int) = n then 0 else 5) else chk l
theorem all_nil (n : Int) {k : Nat} (hk : 10 ≤ k) : row_CheckAll.f k ([] : List (List Int)) n = some 0 := by
  obtain ⟨k, rfl⟩ := pred (show 0 < k by omega)
  unfold row_CheckAll.f
  simp only [row_CheckAll.l0]
  rw [if_neg (by simp)]
theorem all_step (xs : List (List Int)) (hx : xs.length ≤ 10) (n : Int) (i : Nat) (l : List Int) (hi : i < xs.length) (hl : rd_L2 xs (i : Int) = l) {k : Nat} :
    row_CheckAll.l0 (k + 1) n xs (xs.length : Int) (i : Int) = if one n l = 0 then row_CheckAll.l0 k n xs (xs.length : Int) ((i + 1 : Nat) : Int) else some (one n l) := by
  simp only [row_CheckAll.l0]
  rw [if_pos (by omega), if_pos (by omega), if_pos (by omega), hl]
  unfold row_Check.f one
  rw [Option.bind_some]
  have hw : wrap64 ((i : Int) + 1) = ((i + 1 : Nat) : Int) := by unfold wrap64; omega
  by_cases h1 : chk l = 0
  · rw [if_pos h1, if_pos h1]
    by_cases h2 : (l.length : Int) = n
    · rw [if_pos h2, if_pos h2, if_pos rfl, hw]
    · rw [if_neg h2, if_neg h2, if_neg (by decide)]
  · rw [if_neg h1, if_neg h1, if_neg h1]
theorem all_one (l : List Int) (n : Int) {k : Nat} (hk : 10 ≤ k) : row_CheckAll.f k [l] n = some (one n l) := by
  obtain ⟨k, rfl⟩ : ∃ m, k = m + 1 + 1 := ⟨k - 2, by omega⟩
  have h := all_step [l] (by simp) n 0 l (by simp) rfl (k := k + 1)
  unfold row_CheckAll.f
  simp only [List.length_singleton, Int.natCast_zero] at h ⊢
  rw [h]
  by_cases h0 : one n l = 0
  · rw [if_pos h0, h0]
    simp only [row_CheckAll.l0]
    rw [if_neg (by omega)]
  · rw [if_neg h0]
theorem all_two (z l : List Int) (n : Int) (hz : one n z = 0) {k : Nat} (hk : 10 ≤ k) : row_CheckAll.f k [z, l] n = some (one n l) := by
  obtain ⟨k, rfl⟩ : ∃ m, k = m + 1 + 1 + 1 := ⟨k - 3, by omega⟩
  have h := all_step [z, l] (by simp) n 0 z (by simp) rfl (k := k + 1 + 1)
  have h' := all_step [z, l] (by simp) n 1 l (by simp) rfl (k := k + 1)
  unfold row_CheckAll.f
  simp only [List.length_cons, List.length_nil, Int.natCast_zero, Nat.zero_add] at h h' ⊢
  rw [h, if_pos hz, h']
  by_cases h0 : one n l = 0
  · rw [if_pos h0, h0]
    simp only [row_CheckAll.l0]
    rw [if_neg (by omega)]
  · rw [if_neg h0]
theorem zero_one {n : Int} (h0 : 0 ≤ n) (h1 : n ≤ 64) : one n (List.replicate n.toNat 0) = 0 := by
  unfold one
  have hc : chk (List.replicate n.toNat 0) = 0 := by
    unfold chk
    rw [if_pos]
    refine ⟨by rw [List.length_replicate]; omega, ?_⟩
    rw [List.all_eq_true]
    intro x hx
    rw [(List.mem_replicate.1 hx).2]
    decide
  rw [if_pos hc, if_pos (by rw [List.length_replicate]; omega)]
theorem checks_j3 (l : List Int) (n : Int) {k : Nat} (hk : 100 ≤ k) : schismalaw05_RowChecks.j3 (k + 1) l n (one n l) false = some true := by
  simp only [schismalaw05_RowChecks.j3, Bool.false_eq_true, if_false]
  by_cases h0 : n < 0
  · rw [if_pos h0]
  · rw [if_neg h0]
    by_cases h1 : n > 64
    · rw [if_pos h1]
    · rw [if_neg h1, if_pos (by omega), if_pos (by omega), all_two _ l n (zero_one (by omega) (by omega)) (by omega), Option.bind_some, beq_self_eq_true]
theorem checks_j2 (l : List Int) (n : Int) {k : Nat} (hk : 200 ≤ k) : schismalaw05_RowChecks.j2 (k + 1 + 1) l n (one n l) = some true := by
  simp only [schismalaw05_RowChecks.j2]
  rw [all_one l n (by omega), Option.bind_some, if_pos rfl, all_nil n (by omega), Option.bind_some]
  exact checks_j3 l n (by omega)
theorem RowChecks : schismalaw05_RowChecks.Pure := by
  intro l n _ _ _ _
  obtain ⟨K, hK⟩ : ∃ K : Nat, 2000 ≤ K := ⟨2000, Nat.le_refl _⟩
  refine ⟨K + 1 + 1 + 1 + 1, ?_⟩
  have bad : schismalaw05_RowChecks.j0 (K + 1 + 1 + 1 + 1) l n true = some true := by
    simp only [schismalaw05_RowChecks.j0, if_true]
    rw [known_any (by omega)]
    rfl
  unfold schismalaw05_RowChecks.f
  rw [known_any (by omega), Option.bind_some, if_pos rfl]
  by_cases h1 : (l.length : Int) > 100
  · rw [if_pos h1]
    exact bad
  · rw [if_neg h1]
    by_cases h2 : n > 100
    · rw [decide_eq_true h2]
      exact bad
    · rw [decide_eq_false h2]
      have hj := checks_j2 l n (show 200 ≤ K by omega)
      simp only [schismalaw05_RowChecks.j0, Bool.false_eq_true, if_false]
      rw [refCheck l (by omega), Option.bind_some]
      unfold row_Check.f
      rw [Option.bind_some, if_pos rfl]
      by_cases h3 : chk l = 0
      · rw [if_pos h3]
        by_cases h4 : (l.length : Int) = n
        · have e1 : one n l = 0 := by unfold one; rw [if_pos h3, if_pos h4]
          have e2 : ((l.length : Int) != n) = false := by simp [h4]
          rw [e1] at hj
          rw [h3, e2]
          simp only [schismalaw05_RowChecks.j1, Bool.false_eq_true, if_false]
          exact hj
        · have e1 : one n l = 5 := by unfold one; rw [if_pos h3, if_neg h4]
          have e2 : ((l.length : Int) != n) = true := by simp [h4]
          rw [e1] at hj
          rw [h3, e2]
          simp only [schismalaw05_RowChecks.j1, if_true]
          exact hj
      · have e1 : one n l = chk l := by unfold one; rw [if_neg h3]
        rw [if_neg h3]
        rw [e1] at hj
        simp only [schismalaw05_RowChecks.j1, Bool.false_eq_true, if_false]
        exact hj
end Go.Proofs.YtpbbekbdpodedaaDoor.Pure
