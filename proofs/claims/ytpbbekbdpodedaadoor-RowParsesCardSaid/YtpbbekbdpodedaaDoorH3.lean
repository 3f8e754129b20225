import Derived.Test.YtpbbekbdpodedaaDoorH2
import Derived.Test.YtpbbekbdpodedaaDoorST
import Derived.Test.YtpbbekbdpodedaaDoorA0
import Derived.Test.YtpbbekbdpodedaaDoorProg
import Derived.Below
import Derived.Deep.Draws
import Derived.Deep.AppendLies
import Derived.Maps.AppendAt
import Derived.OwnWalk
import Derived.Laws.BytesArg
import Derived.Laws.MakeOwn
import Derived.Laws.OwnMore
import Derived.Deep.OwnRows
import Derived.Tactics
import Derived.Lib.ConvBytes
import Derived.Laws.Slices
import Derived.WalkKit
import Derived.KernelRfl
import Derived.RowKit3
import Derived.Deep.LoopGhost
import Derived.Deep.QuietTactic
import Derived.BigQuiet
import Derived.WideLaws
import Derived.Deep.DeepCutAuto
import Derived.Deep.CutBlock
import Derived.Deep.RegionHeld3
import Derived.Laws.Rows
import Derived.Lib.AppendStr
import Derived.ArgAppend
import Derived.Laws.IdiomCopy
import Derived.OrdersHeld
import Derived.Laws.BitsLemmas
import Derived.RowKit
import Derived.Test.YtpbbekbdpodedaaDoorWWords
import Derived.Test.YtpbbekbdpodedaaDoorWLast
import Derived.Test.YtpbbekbdpodedaaDoorWTab
import Derived.Test.YtpbbekbdpodedaaDoorWFour
import Derived.Test.YtpbbekbdpodedaaDoorWQPut
import Derived.Test.YtpbbekbdpodedaaDoorWApart
import Derived.Test.YtpbbekbdpodedaaDoorWArr
import Derived.Test.YtpbbekbdpodedaaDoorWZeros
import Derived.Test.YtpbbekbdpodedaaDoorWFoot
import Derived.Test.YtpbbekbdpodedaaDoorWKept
import Derived.Test.YtpbbekbdpodedaaDoorWShare
import Derived.Test.YtpbbekbdpodedaaDoorWN
import Derived.Test.YtpbbekbdpodedaaDoorWFootNe
import Derived.Test.YtpbbekbdpodedaaDoorWAt
import Derived.Test.YtpbbekbdpodedaaDoorWEqStruct
import Derived.Test.YtpbbekbdpodedaaDoorWRepsOne
import Derived.Test.YtpbbekbdpodedaaDoorWInv
import Derived.Test.YtpbbekbdpodedaaDoorWInvWords
import Derived.Test.YtpbbekbdpodedaaDoorWGuard
import Derived.Test.YtpbbekbdpodedaaDoorWNEv
import Derived.Test.YtpbbekbdpodedaaDoorWMore
set_option linter.unusedVariables false
set_option linter.unusedSimpArgs false
namespace Go.Proofs.YtpbbekbdpodedaaDoor
open Go.RowKit Go.Proofs.YtpbbekbdpodedaaDoorW.PrintWords Go.Proofs.YtpbbekbdpodedaaDoorW.PrintLast Go.Proofs.YtpbbekbdpodedaaDoorW.PrintMore
open H

/-- A sum in two parts, one product added. -/
def row_sum_add.f (s0_0 s0_1 a1 a2 : Int) : Option (Int × Int) := some (stepS (s0_0, s0_1) (a1, a2))
theorem row_sum_add.calls (g : Nat) (s0_0 : Int) (s0_1 : Int) (a1 : Int) (a2 : Int) (r1 : Int) (r2 : Int) (w0 w : World) (hI : IsS79 w0 w g s0_0 s0_1) (hB : Below w0.heap.size w0 w) (h : row_sum_add.f s0_0 s0_1 a1 a2 = some (r1, r2)) :
    Calls Tryd.prog 63 #[.pointer (some ⟨g, 0, none⟩), .int .i64 a1, .int .i64 a2] w fun e w' => e = .returned (.tuple #[]) ∧ IsS79 w0 w' g r1 r2 ∧ Below w0.heap.size w0 w' ∧ KeepBut w w' g none := by
  have h' := Option.some.inj h
  have e1 : r1 = (stepS (s0_0, s0_1) (a1, a2)).1 := by rw [h']
  have e2 : r2 = (stepS (s0_0, s0_1) (a1, a2)).2 := by rw [h']
  subst e1
  subst e2
  exact (sum_add_raw g s0_0 s0_1 a1 a2 w hI.1).mono fun e w' ⟨he, hc, hg⟩ => ⟨he, ⟨hc, hI.2⟩, hB.grown hg hB.size (fun k ek => by cases ek; exact hI.2), ⟨hg.size, fun i hi hne _ => hg.block i hi (fun e => hne (by injection e))⟩⟩

def row_sum_value.f (a0_0 a0_1 : Int) : Option (Int × Bool) := if -1000000000000000000 < a0_1 ∧ a0_1 < 1000000000000000000 then some (valN a0_0 a0_1, valB a0_0 a0_1) else none
theorem row_sum_value.calls (a0_0 : Int) (a0_1 : Int) (r1 : Int) (r2 : Bool) (w : World) (h : row_sum_value.f a0_0 a0_1 = some (r1, r2)) :
    Calls Tryd.prog 64 #[.agg #[.int .i64 a0_0, .int .i64 a0_1]] w fun e w' => e = .returned (.tuple #[.int .i64 r1, .bool r2]) ∧ Below w.heap.size w w' := by
  unfold row_sum_value.f at h
  split at h
  · rename_i hb
    have h' := Option.some.inj h
    cases h'
    exact value_any a0_0 a0_1 hb.1 hb.2 w
  · cases h

theorem chk_ok {l : List Int} (h : chk l = 0) : l.length ≤ 64 ∧ ∀ x ∈ l, -1000000000 ≤ x ∧ x ≤ 1000000000 := by
  unfold chk at h
  split at h
  · rename_i hh
    refine ⟨hh.1, fun x hx => ?_⟩
    have := List.all_eq_true.1 hh.2 x hx
    simpa [fitB] using this
  · cases h
theorem bth_ok {l0 l1 : List Int} (h : bth l0 l1 = 0) : chk l0 = 0 ∧ chk l1 = 0 ∧ l0.length = l1.length := by
  unfold bth at h
  by_cases h0 : chk l0 = 0
  · rw [if_pos h0] at h
    by_cases h1 : chk l1 = 0
    · rw [if_pos h1] at h
      by_cases h2 : l0.length = l1.length
      · exact ⟨h0, h1, h2⟩
      · rw [if_neg h2] at h; cases h
    · rw [if_neg h1] at h; exact absurd h h1
  · rw [if_neg h0] at h; exact absurd h h0
theorem bth_cases (l0 l1 : List Int) : bth l0 l1 = 0 ∨ bth l0 l1 = 4 ∨ bth l0 l1 = 5 := by
  unfold bth
  rcases chk_cases l0 with h | h <;> rcases chk_cases l1 with h' | h' <;> by_cases hl : l0.length = l1.length <;> simp [h, h', hl]
theorem zip_bounds {l0 l1 : List Int} (h : bth l0 l1 = 0) : (l0.zip l1).length ≤ 64 ∧ ∀ x ∈ l0.zip l1, (-1000000000 ≤ x.1 ∧ x.1 ≤ 1000000000) ∧ (-1000000000 ≤ x.2 ∧ x.2 ≤ 1000000000) := by
  obtain ⟨h0, h1, h2⟩ := bth_ok h
  obtain ⟨k0, b0⟩ := chk_ok h0
  obtain ⟨k1, b1⟩ := chk_ok h1
  refine ⟨by simp; omega, fun x hx => ?_⟩
  obtain ⟨x1, x2⟩ := x
  have := List.of_mem_zip hx
  exact ⟨b0 _ this.1, b1 _ this.2⟩
theorem sums_in {l0 l1 : List Int} (h : bth l0 l1 = 0) : (sums (l0.zip l1)).1 * 1000000000000000000 + (sums (l0.zip l1)).2 = dotp (l0.zip l1) ∧ -1000000000000000000 < (sums (l0.zip l1)).2 ∧ (sums (l0.zip l1)).2 < 1000000000000000000 := by
  obtain ⟨hl, hb⟩ := zip_bounds h
  obtain ⟨h1, h2, h3, _⟩ := sums_eq (l0.zip l1) (by omega) hb
  exact ⟨h1, h2, h3⟩

def row_Dot.f (l0 l1 : List Int) : Option (Int × Int) :=
  some (if bth l0 l1 = 0 then (if fitB (dotp (l0.zip l1)) = true then (dotp (l0.zip l1), 0) else (0, 4)) else (0, bth l0 l1))
theorem row_Dot.calls (A0 : Option Addr) (c0 : Nat) (l0 : List Int) (A1 : Option Addr) (c1 : Nat) (l1 : List Int) (r1 : Int) (r2 : Int) (w : World) (hr0 : Kd.C (Kd.int .i64) w A0 l0.length l0) (hc0 : l0.length ≤ c0) (hr1 : Kd.C (Kd.int .i64) w A1 l1.length l1) (hc1 : l1.length ≤ c1) (h : row_Dot.f l0 l1 = some (r1, r2)) :
    Calls Tryd.prog 36 #[.slice A0 l0.length c0, .slice A1 l1.length c1] w fun e w' => e = .returned (.tuple #[.int .i64 r1, .int .i64 r2]) ∧ Below w.heap.size w w' := by
  have h' := Option.some.inj h
  clear h
  by_cases hb : bth l0 l1 = 0
  · rw [if_pos hb] at h'
    obtain ⟨hs, hlo, hhi⟩ := sums_in hb
    have hv := val_fits (hi := (sums (l0.zip l1)).1) hlo hhi
    rw [hs] at hv
    have h1 : dotN (sums (l0.zip l1)) = r1 := by
      unfold dotN
      rw [hv.1]
      by_cases hf : fitB (dotp (l0.zip l1)) = true
      · rw [if_pos hf] at h' ⊢
        cases h'
        exact hv.2 (by rw [hv.1]; exact hf)
      · rw [if_neg hf] at h' ⊢
        cases h'
        rfl
    have h2 : dotE (sums (l0.zip l1)) = r2 := by
      unfold dotE
      rw [hv.1]
      by_cases hf : fitB (dotp (l0.zip l1)) = true
      · rw [if_pos hf] at h' ⊢
        cases h'
        rfl
      · rw [if_neg hf] at h' ⊢
        cases h'
        rfl
    rw [← h1, ← h2]
    exact dot_right A0 c0 l0 A1 c1 l1 w hr0 hc0 hr1 hc1 hb (bth_ok hb).2.2 hlo hhi
  · rw [if_neg hb] at h'
    cases h'
    have HX := Aside0.mk (both_same A0 c0 l0 A1 c1 l1 w hr0 hc0 hr1 hc1)
    rcases bth_cases l0 l1 with e | e | e
    · exact absurd e hb
    all_goals
      clear hr0 hr1 hc0 hc1 hb
      rw [e] at HX
      rw [e]
      clear e
      go_enter Tryd.func36, Tryd.ntmps36
      go_wp2_with fail
      refine HX.out.mono ?_
      rintro e w' ⟨rfl, rfl⟩
      go_wp2_with fail
      go_ret2
      exact ⟨rfl, Below.refl _ _⟩

/-- What Add returns, and Sub. -/
def addR (l : List Int) (e : Int) : List Int × Int := if e = 0 then (okR l, chk l) else ([], e)
def row_Add.f (l0 l1 : List Int) : Option (List Int × Int) := some (addR (addL (l0.zip l1)) (bth l0 l1))
def row_Sub.f (l0 l1 : List Int) : Option (List Int × Int) := some (addR (subL (l0.zip l1)) (bth l0 l1))
theorem row_Add.calls (A0 : Option Addr) (c0 : Nat) (l0 : List Int) (A1 : Option Addr) (c1 : Nat) (l1 : List Int) (r1 : List Int) (r2 : Int) (w : World) (hr0 : Kd.C (Kd.int .i64) w A0 l0.length l0) (hc0 : l0.length ≤ c0) (hr1 : Kd.C (Kd.int .i64) w A1 l1.length l1) (hc1 : l1.length ≤ c1) (h : row_Add.f l0 l1 = some (r1, r2)) :
    Calls Tryd.prog 28 #[.slice A0 l0.length c0, .slice A1 l1.length c1] w fun e w' => ∃ v0_ : Value, e = .returned (.tuple #[v0_, .int .i64 r2]) ∧ Kd.R (Kd.int .i64) 3 w' w.heap.size (fun _ => True) v0_ r1 ∧ Below w.heap.size w w' := by
  have h' := Option.some.inj h
  clear h
  unfold addR at h'
  by_cases hb : bth l0 l1 = 0
  · rw [if_pos hb] at h'
    cases h'
    exact add_right A0 c0 l0 A1 c1 l1 w hr0 hc0 hr1 hc1 hb (bth_ok hb).2.2 (chk_ok (bth_ok hb).1).1
  · rw [if_neg hb] at h'
    cases h'
    have HX := Aside0.mk (both_same A0 c0 l0 A1 c1 l1 w hr0 hc0 hr1 hc1)
    rcases bth_cases l0 l1 with e | e | e
    · exact absurd e hb
    all_goals
      clear hr0 hr1 hc0 hc1 hb
      rw [e] at HX
      rw [e]
      clear e
      go_enter Tryd.func28, Tryd.ntmps28
      go_wp2_with fail
      refine HX.out.mono ?_
      rintro e w' ⟨rfl, rfl⟩
      go_wp2_with fail
      go_ret2
      exact ⟨.slice none 0 0, rfl, Kd.R_nil _ _ _ _ _, Below.refl _ _⟩
theorem row_Sub.calls (A0 : Option Addr) (c0 : Nat) (l0 : List Int) (A1 : Option Addr) (c1 : Nat) (l1 : List Int) (r1 : List Int) (r2 : Int) (w : World) (hr0 : Kd.C (Kd.int .i64) w A0 l0.length l0) (hc0 : l0.length ≤ c0) (hr1 : Kd.C (Kd.int .i64) w A1 l1.length l1) (hc1 : l1.length ≤ c1) (h : row_Sub.f l0 l1 = some (r1, r2)) :
    Calls Tryd.prog 29 #[.slice A0 l0.length c0, .slice A1 l1.length c1] w fun e w' => ∃ v0_ : Value, e = .returned (.tuple #[v0_, .int .i64 r2]) ∧ Kd.R (Kd.int .i64) 3 w' w.heap.size (fun _ => True) v0_ r1 ∧ Below w.heap.size w w' := by
  have h' := Option.some.inj h
  clear h
  unfold addR at h'
  by_cases hb : bth l0 l1 = 0
  · rw [if_pos hb] at h'
    cases h'
    exact sub_right A0 c0 l0 A1 c1 l1 w hr0 hc0 hr1 hc1 hb (bth_ok hb).2.2 (chk_ok (bth_ok hb).1).1
  · rw [if_neg hb] at h'
    cases h'
    have HX := Aside0.mk (both_same A0 c0 l0 A1 c1 l1 w hr0 hc0 hr1 hc1)
    rcases bth_cases l0 l1 with e | e | e
    · exact absurd e hb
    all_goals
      clear hr0 hr1 hc0 hc1 hb
      rw [e] at HX
      rw [e]
      clear e
      go_enter Tryd.func29, Tryd.ntmps29
      go_wp2_with fail
      refine HX.out.mono ?_
      rintro e w' ⟨rfl, rfl⟩
      go_wp2_with fail
      go_ret2
      exact ⟨.slice none 0 0, rfl, Kd.R_nil _ _ _ _ _, Below.refl _ _⟩
end Go.Proofs.YtpbbekbdpodedaaDoor
