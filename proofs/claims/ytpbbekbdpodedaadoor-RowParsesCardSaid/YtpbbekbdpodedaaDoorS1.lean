import Derived.Deep.QuietTactic
import Derived.BigQuiet
import Derived.Test.YtpbbekbdpodedaaDoorH0
import Derived.Test.YtpbbekbdpodedaaDoorProg
import Derived.Below
import Derived.Deep.Draws
import Derived.Deep.AppendLies
import Derived.Maps.AppendAt
import Derived.OwnWalk
import Derived.Laws.BytesArg
import Derived.Laws.MakeOwn
import Derived.Laws.OwnMore
import Derived.Deep.OwnRows
import Derived.Tactics
import Derived.Lib.ConvBytes
import Derived.Laws.Slices
import Derived.WalkKit
import Derived.KernelRfl
import Derived.RowKit3
import Derived.Deep.LoopGhost
import Derived.Deep.QuietTactic
import Derived.BigQuiet
import Derived.WideLaws
import Derived.Deep.DeepCutAuto
import Derived.Deep.CutBlock
import Derived.Deep.RegionHeld3
import Derived.Laws.Rows
import Derived.Lib.AppendStr
import Derived.ArgAppend
import Derived.Laws.IdiomCopy
import Derived.OrdersHeld
import Derived.Laws.BitsLemmas
import Derived.RowKit
import Derived.Test.YtpbbekbdpodedaaDoorWWords
import Derived.Test.YtpbbekbdpodedaaDoorWLast
import Derived.Test.YtpbbekbdpodedaaDoorWTab
import Derived.Test.YtpbbekbdpodedaaDoorWFour
import Derived.Test.YtpbbekbdpodedaaDoorWQPut
import Derived.Test.YtpbbekbdpodedaaDoorWApart
import Derived.Test.YtpbbekbdpodedaaDoorWArr
import Derived.Test.YtpbbekbdpodedaaDoorWZeros
import Derived.Test.YtpbbekbdpodedaaDoorWFoot
import Derived.Test.YtpbbekbdpodedaaDoorWKept
import Derived.Test.YtpbbekbdpodedaaDoorWShare
import Derived.Test.YtpbbekbdpodedaaDoorWN
import Derived.Test.YtpbbekbdpodedaaDoorWFootNe
import Derived.Test.YtpbbekbdpodedaaDoorWAt
import Derived.Test.YtpbbekbdpodedaaDoorWEqStruct
import Derived.Test.YtpbbekbdpodedaaDoorWRepsOne
import Derived.Test.YtpbbekbdpodedaaDoorWInv
import Derived.Test.YtpbbekbdpodedaaDoorWInvWords
import Derived.Test.YtpbbekbdpodedaaDoorWGuard
import Derived.Test.YtpbbekbdpodedaaDoorWNEv
import Derived.Test.YtpbbekbdpodedaaDoorWMore
set_option linter.unusedVariables false
set_option linter.unusedSimpArgs false
namespace Go.Proofs.YtpbbekbdpodedaaDoor
open Go.RowKit Go.Proofs.YtpbbekbdpodedaaDoorW.PrintWords Go.Proofs.YtpbbekbdpodedaaDoorW.PrintLast Go.Proofs.YtpbbekbdpodedaaDoorW.PrintMore
open H

theorem fits_any (x : Int) (w : World) : Calls Tryd.prog 55 #[.int .i64 x] w fun e w' => e = .returned (.bool (fitB x)) ∧ w' = w := by
  by_cases h1 : -1000000000 ≤ x
  · by_cases h2 : x ≤ 1000000000
    · have H := Aside0.mk (fitB_true h1 h2)
      have d1 : decide (-1000000000 ≤ x) = true := by simpa using h1
      have d2 : decide (x ≤ 1000000000) = true := by simpa using h2
      go_enter Tryd.func55, Tryd.ntmps55
      go_wp2
      go_ret
      exact ⟨by rw [H.out]; rfl, rfl⟩
    · have H := Aside0.mk (fitB_hi (x := x) (by omega))
      have d1 : decide (-1000000000 ≤ x) = true := by simpa using h1
      have d2 : decide (x ≤ 1000000000) = false := by simpa using h2
      go_enter Tryd.func55, Tryd.ntmps55
      go_wp2
      go_ret
      exact ⟨by rw [H.out]; rfl, rfl⟩
  · have H := Aside0.mk (fitB_lo (x := x) (by omega))
    have d1 : decide (-1000000000 ≤ x) = false := by simpa using h1
    go_enter Tryd.func55, Tryd.ntmps55
    go_wp2
    go_ret
    exact ⟨by rw [H.out]; rfl, rfl⟩


theorem value_A (lo : Int) (hl1 : -1000000000000000000 < lo) (hl2 : lo < 0) (w : World) :
    Calls Tryd.prog 64 #[.agg #[.int .i64 1, .int .i64 lo]] w fun e w' => e = .returned (.tuple #[.int .i64 (lo + 1000000000000000000), .bool (fitB (lo + 1000000000000000000))]) ∧ Below w.heap.size w w' := by
  have d1 : decide (lo < 0) = true := by simpa using hl2
  go_enter Tryd.func64, Tryd.ntmps64
  go_wp2
  go_quiet ((go_at_call 55; exact Calls.quiet_of_same (fits_any _ _)))
  go_wp2
  go_ret2
  exact ⟨rfl, by repeat (first | exact Below.refl _ _ | apply pw_below_drewN | apply below_alloc | apply below_drew)⟩

theorem value_B (lo : Int) (hl1 : lo < 1000000000000000000) (hl2 : 0 < lo) (w : World) :
    Calls Tryd.prog 64 #[.agg #[.int .i64 (-1), .int .i64 lo]] w fun e w' => e = .returned (.tuple #[.int .i64 (lo + -1000000000000000000), .bool (fitB (lo + -1000000000000000000))]) ∧ Below w.heap.size w w' := by
  have d1 : decide (0 < lo) = true := by simpa using hl2
  go_enter Tryd.func64, Tryd.ntmps64
  go_wp2
  go_quiet ((go_at_call 55; exact Calls.quiet_of_same (fits_any _ _)))
  go_wp2
  go_ret2
  exact ⟨rfl, by repeat (first | exact Below.refl _ _ | apply pw_below_drewN | apply below_alloc | apply below_drew)⟩

theorem value_0 (lo : Int) (w : World) :
    Calls Tryd.prog 64 #[.agg #[.int .i64 0, .int .i64 lo]] w fun e w' => e = .returned (.tuple #[.int .i64 lo, .bool (fitB lo)]) ∧ Below w.heap.size w w' := by
  go_enter Tryd.func64, Tryd.ntmps64
  go_wp2
  go_quiet ((go_at_call 55; exact Calls.quiet_of_same (fits_any _ _)))
  go_wp2
  go_ret2
  exact ⟨rfl, by repeat (first | exact Below.refl _ _ | apply pw_below_drewN | apply below_alloc | apply below_drew)⟩

theorem value_1 (lo : Int) (hl2 : 0 ≤ lo) (w : World) :
    Calls Tryd.prog 64 #[.agg #[.int .i64 1, .int .i64 lo]] w fun e w' => e = .returned (.tuple #[.int .i64 lo, .bool false]) ∧ Below w.heap.size w w' := by
  have d1 : decide (lo < 0) = false := by simpa using hl2
  go_enter Tryd.func64, Tryd.ntmps64
  go_wp2
  go_quiet (fail)
  go_wp2
  go_ret2
  exact ⟨rfl, by repeat (first | exact Below.refl _ _ | apply pw_below_drewN | apply below_alloc | apply below_drew)⟩

theorem value_m1 (lo : Int) (hl2 : lo ≤ 0) (w : World) :
    Calls Tryd.prog 64 #[.agg #[.int .i64 (-1), .int .i64 lo]] w fun e w' => e = .returned (.tuple #[.int .i64 lo, .bool false]) ∧ Below w.heap.size w w' := by
  have d1 : decide (0 < lo) = false := by simpa using hl2
  go_enter Tryd.func64, Tryd.ntmps64
  go_wp2
  go_quiet (fail)
  go_wp2
  go_ret2
  exact ⟨rfl, by repeat (first | exact Below.refl _ _ | apply pw_below_drewN | apply below_alloc | apply below_drew)⟩

theorem value_x (hi lo : Int) (h0 : hi ≠ 0) (h1 : hi ≠ 1) (h2 : hi ≠ -1) (w : World) :
    Calls Tryd.prog 64 #[.agg #[.int .i64 hi, .int .i64 lo]] w fun e w' => e = .returned (.tuple #[.int .i64 lo, .bool false]) ∧ Below w.heap.size w w' := by
  have d0 : (hi == 0) = false := by simpa using h0
  have d1 : (hi == 1) = false := by simpa using h1
  have d2 : (hi == -1) = false := by simpa using h2
  clear h0 h1 h2
  go_enter Tryd.func64, Tryd.ntmps64
  go_wp2
  go_quiet (fail)
  go_wp2
  go_ret2
  exact ⟨rfl, by repeat (first | exact Below.refl _ _ | apply pw_below_drewN | apply below_alloc | apply below_drew)⟩

/-- What a sum in two parts comes to, and whether it fits. -/
def valN (hi lo : Int) : Int := if hi = 1 ∧ lo < 0 then lo + 1000000000000000000 else if hi = -1 ∧ 0 < lo then lo + -1000000000000000000 else lo
def valB (hi lo : Int) : Bool := if hi = 1 ∧ lo < 0 then fitB (lo + 1000000000000000000) else if hi = -1 ∧ 0 < lo then fitB (lo + -1000000000000000000) else if hi = 0 then fitB lo else false
theorem value_any (hi lo : Int) (hl1 : -1000000000000000000 < lo) (hl2 : lo < 1000000000000000000) (w : World) :
    Calls Tryd.prog 64 #[.agg #[.int .i64 hi, .int .i64 lo]] w fun e w' => e = .returned (.tuple #[.int .i64 (valN hi lo), .bool (valB hi lo)]) ∧ Below w.heap.size w w' := by
  by_cases h1 : hi = 1
  · subst h1
    by_cases h : lo < 0
    · rw [show valN 1 lo = lo + 1000000000000000000 from by simp [valN, h], show valB 1 lo = fitB (lo + 1000000000000000000) from by simp [valB, h]]
      exact value_A lo hl1 h w
    · rw [show valN 1 lo = lo from by simp [valN, h], show valB 1 lo = false from by simp [valB, h]]
      exact value_1 lo (by omega) w
  · by_cases h2 : hi = -1
    · subst h2
      by_cases h : 0 < lo
      · rw [show valN (-1) lo = lo + -1000000000000000000 from by simp [valN, h], show valB (-1) lo = fitB (lo + -1000000000000000000) from by simp [valB, h]]
        exact value_B lo hl2 h w
      · rw [show valN (-1) lo = lo from by simp [valN, h], show valB (-1) lo = false from by simp [valB, h]]
        exact value_m1 lo (by omega) w
    · by_cases h0 : hi = 0
      · subst h0
        rw [show valN 0 lo = lo from by simp [valN], show valB 0 lo = fitB lo from by simp [valB]]
        exact value_0 lo w
      · rw [show valN hi lo = lo from by simp [valN, h1, h2], show valB hi lo = false from by simp [valB, h0, h1, h2]]
        exact value_x hi lo h0 h1 h2 w
/-- In terms of the sum itself. -/
theorem val_fits {hi lo : Int} (hl1 : -1000000000000000000 < lo) (hl2 : lo < 1000000000000000000) : valB hi lo = fitB (hi * 1000000000000000000 + lo) ∧ (valB hi lo = true → valN hi lo = hi * 1000000000000000000 + lo) := by
  unfold valB valN
  by_cases h1 : hi = 1 ∧ lo < 0
  · obtain ⟨rfl, h⟩ := h1
    simp only [h, and_self, if_true, Int.one_mul]
    rw [Int.add_comm]
    exact ⟨rfl, fun _ => rfl⟩
  · rw [if_neg h1, if_neg h1]
    by_cases h2 : hi = -1 ∧ 0 < lo
    · obtain ⟨rfl, h⟩ := h2
      simp only [h, and_self, if_true]
      rw [show lo + -1000000000000000000 = -1 * 1000000000000000000 + lo from by omega]
      exact ⟨rfl, fun _ => rfl⟩
    · rw [if_neg h2, if_neg h2]
      by_cases h0 : hi = 0
      · subst h0
        rw [if_pos rfl]
        simp
      · rw [if_neg h0]
        refine ⟨?_, fun h => by cases h⟩
        symm
        rcases Int.lt_or_gt_of_ne h0 with h | h
        · exact fitB_lo (by omega)
        · exact fitB_hi (by omega)
end Go.Proofs.YtpbbekbdpodedaaDoor
