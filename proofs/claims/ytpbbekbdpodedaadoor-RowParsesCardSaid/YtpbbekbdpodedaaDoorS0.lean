import Derived.RegionTactic
import Derived.ChangeAlike
import Derived.Test.YtpbbekbdpodedaaDoorProg
import Derived.Below
import Derived.Deep.Draws
import Derived.Deep.AppendLies
import Derived.Maps.AppendAt
import Derived.OwnWalk
import Derived.Laws.BytesArg
import Derived.Laws.MakeOwn
import Derived.Laws.OwnMore
import Derived.Deep.OwnRows
import Derived.Tactics
import Derived.Lib.ConvBytes
import Derived.Laws.Slices
import Derived.WalkKit
import Derived.KernelRfl
import Derived.RowKit3
import Derived.Deep.LoopGhost
import Derived.Deep.QuietTactic
import Derived.BigQuiet
import Derived.WideLaws
import Derived.Deep.DeepCutAuto
import Derived.Deep.CutBlock
import Derived.Deep.RegionHeld3
import Derived.Laws.Rows
import Derived.Lib.AppendStr
import Derived.ArgAppend
import Derived.Laws.IdiomCopy
import Derived.OrdersHeld
import Derived.Laws.BitsLemmas
import Derived.RowKit
import Derived.Test.YtpbbekbdpodedaaDoorWWords
import Derived.Test.YtpbbekbdpodedaaDoorWLast
import Derived.Test.YtpbbekbdpodedaaDoorWTab
import Derived.Test.YtpbbekbdpodedaaDoorWFour
import Derived.Test.YtpbbekbdpodedaaDoorWQPut
import Derived.Test.YtpbbekbdpodedaaDoorWApart
import Derived.Test.YtpbbekbdpodedaaDoorWArr
import Derived.Test.YtpbbekbdpodedaaDoorWZeros
import Derived.Test.YtpbbekbdpodedaaDoorWFoot
import Derived.Test.YtpbbekbdpodedaaDoorWKept
import Derived.Test.YtpbbekbdpodedaaDoorWShare
import Derived.Test.YtpbbekbdpodedaaDoorWN
import Derived.Test.YtpbbekbdpodedaaDoorWFootNe
import Derived.Test.YtpbbekbdpodedaaDoorWAt
import Derived.Test.YtpbbekbdpodedaaDoorWEqStruct
import Derived.Test.YtpbbekbdpodedaaDoorWRepsOne
import Derived.Test.YtpbbekbdpodedaaDoorWInv
import Derived.Test.YtpbbekbdpodedaaDoorWInvWords
import Derived.Test.YtpbbekbdpodedaaDoorWGuard
import Derived.Test.YtpbbekbdpodedaaDoorWNEv
import Derived.Test.YtpbbekbdpodedaaDoorWMore
set_option linter.unusedVariables false
set_option linter.unusedSimpArgs false
namespace Go.Proofs.YtpbbekbdpodedaaDoor
open Go.RowKit Go.Proofs.YtpbbekbdpodedaaDoorW.PrintWords Go.Proofs.YtpbbekbdpodedaaDoorW.PrintLast Go.Proofs.YtpbbekbdpodedaaDoorW.PrintMore

theorem tdiv_small {x : Int} (h1 : -2000000000000000000 ≤ x) (h2 : x ≤ 2000000000000000000) : -2 ≤ x.tdiv 1000000000000000000 ∧ x.tdiv 1000000000000000000 ≤ 2 := by
  rcases Int.le_total 0 x with h | h
  · rw [Int.tdiv_eq_ediv_of_nonneg h]
    omega
  · have : x.tdiv 1000000000000000000 = -((-x) / 1000000000000000000) := by
      rw [← Int.tdiv_eq_ediv_of_nonneg (by omega), Int.neg_tdiv, Int.neg_neg]
    rw [this]
    omega
theorem sum_cells {w : World} {g : Nat} {hi lo a b c : Int} (hg : w.heap[g]? = some (.cells #[.int .i64 hi, .int .i64 lo] 79 (0, 0))) :
    (((w.setCell ⟨g, 1, none⟩ (.int .i64 a)).setCell ⟨g, 0, none⟩ (.int .i64 b)).drew.setCell ⟨g, 1, none⟩ (.int .i64 c)).heap[g]? = some (.cells #[.int .i64 b, .int .i64 c] 79 (0, 0)) := by
  have h1 := heap_setCell_same w g 1 _ _ (.int .i64 a) hg
  have h2 := heap_setCell_same _ g 0 _ _ (.int .i64 b) h1
  have h3 := heap_setCell_same (((w.setCell ⟨g, 1, none⟩ (.int .i64 a)).setCell ⟨g, 0, none⟩ (.int .i64 b)).drew) g 1 _ _ (.int .i64 c) h2
  exact h3
theorem sum_grown (w : World) (g : Nat) (a b c : Value) :
    w.grownBy (((w.setCell ⟨g, 1, none⟩ a).setCell ⟨g, 0, none⟩ b).drew.setCell ⟨g, 1, none⟩ c) (some g) := by
  refine ⟨rfl, rfl, rfl, by simp, fun k hk hne => ?_⟩
  have hne' : k ≠ g := fun e => hne (by rw [e])
  exact ((heap_setCell_other _ ⟨g, 1, none⟩ k c hne').trans ((heap_setCell_other _ ⟨g, 0, none⟩ k b hne').trans (heap_setCell_other w ⟨g, 1, none⟩ k a hne')))
theorem sum_add_raw (g : Nat) (hi lo a b : Int) (w : World) (hg : w.heap[g]? = some (.cells #[.int .i64 hi, .int .i64 lo] 79 (0, 0))) :
    Calls Tryd.prog 63 #[.pointer (some ⟨g, 0, none⟩), .int .i64 a, .int .i64 b] w fun e w' => e = .returned (.tuple #[]) ∧
      w'.heap[g]? = some (.cells #[.int .i64 (wrap64 (hi + wrap64 ((wrap64 (lo + wrap64 (a * b))).tdiv 1000000000000000000))), .int .i64 ((wrap64 (lo + wrap64 (a * b))).tmod 1000000000000000000)] 79 (0, 0)) ∧ w.grownBy w' (some g) := by
  have c0 : w.cell? ⟨g, 0, none⟩ = some (.int .i64 hi) := by simp [World.cell?, hg]
  have c1 : w.cell? ⟨g, 1, none⟩ = some (.int .i64 lo) := by simp [World.cell?, hg]
  have f0 : w.frozen? ⟨g, 0, none⟩ = false := by simp [World.frozen?, hg]
  have f1 : w.frozen? ⟨g, 1, none⟩ = false := by simp [World.frozen?, hg]
  have HG := Aside0.mk hg
  clear hg
  go_enter Tryd.func63, Tryd.ntmps63
  go_wp2
  go_region
  all_goals
    go_wp2
    go_end0
    refine ⟨rfl, ?_, ?_⟩
    · exact sum_cells HG.out
    · exact sum_grown w g _ _ _

/-- One product added to a sum in two parts. -/
def stepS (s x : Int × Int) : Int × Int := (wrap64 (s.1 + wrap64 ((wrap64 (s.2 + wrap64 (x.1 * x.2))).tdiv 1000000000000000000)), (wrap64 (s.2 + wrap64 (x.1 * x.2))).tmod 1000000000000000000)
def sums (l : List (Int × Int)) : Int × Int := l.foldl stepS (0, 0)
theorem sums_snoc (l : List (Int × Int)) (x : Int × Int) : sums (l ++ [x]) = stepS (sums l) x := by simp [sums]
def dotp (l : List (Int × Int)) : Int := l.foldl (fun s x => s + x.1 * x.2) 0
theorem dotp_snoc (l : List (Int × Int)) (x : Int × Int) : dotp (l ++ [x]) = dotp l + x.1 * x.2 := by simp [dotp]
theorem mul_small {a b : Int} (ha : -1000000000 ≤ a ∧ a ≤ 1000000000) (hb : -1000000000 ≤ b ∧ b ≤ 1000000000) : -1000000000000000000 ≤ a * b ∧ a * b ≤ 1000000000000000000 := by
  have h1 : 0 ≤ (1000000000 - a) * (1000000000 + b) := Int.mul_nonneg (by omega) (by omega)
  have h2 : 0 ≤ (1000000000 + a) * (1000000000 - b) := Int.mul_nonneg (by omega) (by omega)
  have h3 : 0 ≤ (1000000000 - a) * (1000000000 - b) := Int.mul_nonneg (by omega) (by omega)
  have h4 : 0 ≤ (1000000000 + a) * (1000000000 + b) := Int.mul_nonneg (by omega) (by omega)
  simp only [Int.sub_mul, Int.add_mul, Int.mul_add, Int.mul_sub] at h1 h2 h3 h4
  omega
/-- While the elements are right the two parts are the sum. -/
theorem sums_eq (l : List (Int × Int)) (hl : l.length ≤ 500) (hb : ∀ x ∈ l, (-1000000000 ≤ x.1 ∧ x.1 ≤ 1000000000) ∧ (-1000000000 ≤ x.2 ∧ x.2 ≤ 1000000000)) :
    (sums l).1 * 1000000000000000000 + (sums l).2 = dotp l ∧ -1000000000000000000 < (sums l).2 ∧ (sums l).2 < 1000000000000000000 ∧ -2 * l.length ≤ (sums l).1 ∧ (sums l).1 ≤ 2 * l.length := by
  have key : ∀ (r : List (Int × Int)), r.length ≤ 500 → (∀ x ∈ r, (-1000000000 ≤ x.1 ∧ x.1 ≤ 1000000000) ∧ (-1000000000 ≤ x.2 ∧ x.2 ≤ 1000000000)) →
      (sums r.reverse).1 * 1000000000000000000 + (sums r.reverse).2 = dotp r.reverse ∧ -1000000000000000000 < (sums r.reverse).2 ∧ (sums r.reverse).2 < 1000000000000000000 ∧ -2 * r.length ≤ (sums r.reverse).1 ∧ (sums r.reverse).1 ≤ 2 * r.length := by
    intro r
    induction r with
    | nil => intro _ _; simp [sums, dotp]
    | cons x r ih =>
      intro hr hx
      simp only [List.length_cons] at hr
      obtain ⟨h1, h2, h3, h4, h5⟩ := ih (by omega) (fun y hy => hx y (List.mem_cons_of_mem _ hy))
      rw [List.reverse_cons, sums_snoc, dotp_snoc]
      obtain ⟨hx1, hx2⟩ := hx x List.mem_cons_self
      have hp := mul_small hx1 hx2
      generalize sums r.reverse = s at h1 h2 h3 h4 h5
      generalize dotp r.reverse = d at h1
      obtain ⟨hi, lo⟩ := s
      unfold stepS
      simp only at h1 h2 h3 h4 h5 ⊢
      generalize x.1 * x.2 = p at hp
      have w1 : wrap64 p = p := by unfold wrap64; omega
      rw [w1]
      have w2 : wrap64 (lo + p) = lo + p := by unfold wrap64; omega
      rw [w2]
      have ht := tdiv_small (x := lo + p) (by omega) (by omega)
      have hm : (lo + p).tmod 1000000000000000000 = lo + p - 1000000000000000000 * (lo + p).tdiv 1000000000000000000 := by
        have := Int.mul_tdiv_add_tmod (lo + p) 1000000000000000000
        omega
      have hlt : -1000000000000000000 < (lo + p).tmod 1000000000000000000 ∧ (lo + p).tmod 1000000000000000000 < 1000000000000000000 := by
        have h1 := Int.tmod_lt_of_pos (lo + p) (show (0 : Int) < 1000000000000000000 by omega)
        have h3 := Int.tmod_lt_of_pos (-(lo + p)) (show (0 : Int) < 1000000000000000000 by omega)
        rw [Int.neg_tmod] at h3
        omega
      generalize (lo + p).tdiv 1000000000000000000 = t at ht hm
      generalize (lo + p).tmod 1000000000000000000 = m at hm hlt
      have w3 : wrap64 t = t := by unfold wrap64; omega
      rw [w3]
      have w4 : wrap64 (hi + t) = hi + t := by unfold wrap64; omega
      rw [w4]
      refine ⟨by rw [← h1]; omega, hlt.1, hlt.2, ?_, ?_⟩
      · simp only [List.length_cons]; omega
      · simp only [List.length_cons]; omega
  have := key l.reverse (by simpa using hl) (fun x hx => hb x (by simpa using hx))
  simpa using this
end Go.Proofs.YtpbbekbdpodedaaDoor
