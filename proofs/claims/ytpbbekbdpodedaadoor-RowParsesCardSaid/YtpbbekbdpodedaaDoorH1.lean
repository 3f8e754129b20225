import Derived.Test.YtpbbekbdpodedaaDoorH0
import Derived.Test.YtpbbekbdpodedaaDoorProg
import Derived.Below
import Derived.Deep.Draws
import Derived.Deep.AppendLies
import Derived.Maps.AppendAt
import Derived.OwnWalk
import Derived.Laws.BytesArg
import Derived.Laws.MakeOwn
import Derived.Laws.OwnMore
import Derived.Deep.OwnRows
import Derived.Tactics
import Derived.Lib.ConvBytes
import Derived.Laws.Slices
import Derived.WalkKit
import Derived.KernelRfl
import Derived.RowKit3
import Derived.Deep.LoopGhost
import Derived.Deep.QuietTactic
import Derived.BigQuiet
import Derived.WideLaws
import Derived.Deep.DeepCutAuto
import Derived.Deep.CutBlock
import Derived.Deep.RegionHeld3
import Derived.Laws.Rows
import Derived.Lib.AppendStr
import Derived.ArgAppend
import Derived.Laws.IdiomCopy
import Derived.OrdersHeld
import Derived.Laws.BitsLemmas
import Derived.RowKit
import Derived.Test.YtpbbekbdpodedaaDoorWWords
import Derived.Test.YtpbbekbdpodedaaDoorWLast
import Derived.Test.YtpbbekbdpodedaaDoorWTab
import Derived.Test.YtpbbekbdpodedaaDoorWFour
import Derived.Test.YtpbbekbdpodedaaDoorWQPut
import Derived.Test.YtpbbekbdpodedaaDoorWApart
import Derived.Test.YtpbbekbdpodedaaDoorWArr
import Derived.Test.YtpbbekbdpodedaaDoorWZeros
import Derived.Test.YtpbbekbdpodedaaDoorWFoot
import Derived.Test.YtpbbekbdpodedaaDoorWKept
import Derived.Test.YtpbbekbdpodedaaDoorWShare
import Derived.Test.YtpbbekbdpodedaaDoorWN
import Derived.Test.YtpbbekbdpodedaaDoorWFootNe
import Derived.Test.YtpbbekbdpodedaaDoorWAt
import Derived.Test.YtpbbekbdpodedaaDoorWEqStruct
import Derived.Test.YtpbbekbdpodedaaDoorWRepsOne
import Derived.Test.YtpbbekbdpodedaaDoorWInv
import Derived.Test.YtpbbekbdpodedaaDoorWInvWords
import Derived.Test.YtpbbekbdpodedaaDoorWGuard
import Derived.Test.YtpbbekbdpodedaaDoorWNEv
import Derived.Test.YtpbbekbdpodedaaDoorWMore
namespace Go.Proofs.YtpbbekbdpodedaaDoor
open Go.RowKit Go.Proofs.YtpbbekbdpodedaaDoorW.PrintWords Go.Proofs.YtpbbekbdpodedaaDoorW.PrintLast Go.Proofs.YtpbbekbdpodedaaDoorW.PrintMore
open H
set_option linter.unusedVariables false
set_option linter.unusedSimpArgs false

/-- The error of a row: 0 (OK), or 4 (ErrLimit). -/
def chk (l : List Int) : Int := if l.length ≤ 64 ∧ l.all fitB = true then 0 else 4
theorem idx_lt {p : Int → Bool} {l : List Int} : decide (0 ≤ idx p l) = l.any p := by
  unfold idx
  cases h : l.findIdx? p with
  | none =>
    rw [List.findIdx?_eq_none_iff] at h
    have : l.any p = false := by
      rw [List.any_eq_false]
      intro x hx
      simpa using h x hx
    rw [this]
    rfl
  | some i =>
    rw [List.findIdx?_eq_some_iff_getElem] at h
    obtain ⟨hi, hp, _⟩ := h
    have : l.any p = true := List.any_eq_true.2 ⟨_, List.getElem_mem hi, hp⟩
    rw [this]
    simp
theorem any_not_fit (l : List Int) : l.any (fun x => !fitB x) = !l.all fitB := by
  induction l with
  | nil => rfl
  | cons a l ih => simp [ih]
theorem any_nz (l : List Int) : l.any nzB = !l.all (fun x => x == 0) := by
  induction l with
  | nil => rfl
  | cons a l ih => simp [ih, nzB]; rfl
theorem Drawn0.of_eq {w w' : World} (h : w = w') : Drawn0 w w' := h ▸ Drawn0.refl w

def row_Check.f (l0 : List Int) : Option Int := some (chk l0)
theorem row_Check.same (A0 : Option Addr) (c0 : Nat) (l0 : List Int) (r : Int) (w : World) (hr0 : Kd.C (Kd.int .i64) w A0 l0.length l0) (hc0 : l0.length ≤ c0) (h : row_Check.f l0 = some r) :
    Calls Tryd.prog 15 #[.slice A0 l0.length c0] w fun e w' => e = .returned (.int .i64 r) ∧ w = w' := by
  have hm : l0.length ≤ 9223372036854775807 := Kd.C_max hr0
  have h' : chk l0 = r := Option.some.inj h
  clear h
  have H := Aside0.mk h'
  clear h'
  have HR := Aside0.mk hr0
  clear hr0 hc0
  by_cases h1 : 64 < l0.length
  · have he : r = 4 := by rw [← H.out]; unfold chk; rw [if_neg (by omega)]
    have HE := Aside0.mk he
    clear he
    have d : decide (64 < (l0.length : Int)) = true := decide_eq_true (by omega)
    go_enter Tryd.func15, Tryd.ntmps15
    go_wp2
    go_ret
    exact ⟨by rw [HE.out]; rfl, rfl⟩
  · have d : decide (64 < (l0.length : Int)) = false := decide_eq_false (by omega)
    cases hb : l0.all fitB with
    | true =>
      have he : r = 0 := by rw [← H.out]; unfold chk; rw [if_pos ⟨by omega, hb⟩]
      have HE := Aside0.mk he
      clear he
      have hi : decide (0 ≤ idx (fun x => !fitB x) l0) = false := by rw [idx_lt, any_not_fit, hb]; rfl
      have HI := Aside0.mk hi
      clear hi hb
      go_enter Tryd.func15, Tryd.ntmps15
      go_wp2_with (go_at_call 53; refine (cont54 _ _ _ _ HR.out).mono ?_; rw [HI.out]; rintro e w' ⟨rfl, rfl⟩)
      go_ret
      exact ⟨by rw [HE.out]; rfl, rfl⟩
    | false =>
      have he : r = 4 := by rw [← H.out]; unfold chk; rw [if_neg (by rw [hb]; rintro ⟨_, h⟩; cases h)]
      have HE := Aside0.mk he
      clear he
      have hi : decide (0 ≤ idx (fun x => !fitB x) l0) = true := by rw [idx_lt, any_not_fit, hb]; rfl
      have HI := Aside0.mk hi
      clear hi hb
      go_enter Tryd.func15, Tryd.ntmps15
      go_wp2_with (go_at_call 53; refine (cont54 _ _ _ _ HR.out).mono ?_; rw [HI.out]; rintro e w' ⟨rfl, rfl⟩)
      go_ret
      exact ⟨by rw [HE.out]; rfl, rfl⟩

theorem row_Check.calls (A0 : Option Addr) (c0 : Nat) (l0 : List Int) (r : Int) (w : World) (hr0 : Kd.C (Kd.int .i64) w A0 l0.length l0) (hc0 : l0.length ≤ c0) (h : row_Check.f l0 = some r) :
    Calls Tryd.prog 15 #[.slice A0 l0.length c0] w fun e w' => e = .returned (.int .i64 r) ∧ Drawn0 w w' :=
  (row_Check.same A0 c0 l0 r w hr0 hc0 h).mono fun e w' ⟨he, hw⟩ => ⟨he, Drawn0.of_eq hw⟩

/-- The error of two rows of one length. -/
def bth (l0 l1 : List Int) : Int := if chk l0 = 0 then (if chk l1 = 0 then (if l0.length = l1.length then 0 else 5) else chk l1) else chk l0
theorem chk_cases (l : List Int) : chk l = 0 ∨ chk l = 4 := by unfold chk; split <;> simp
theorem both_same (A0 : Option Addr) (c0 : Nat) (l0 : List Int) (A1 : Option Addr) (c1 : Nat) (l1 : List Int) (w : World) (hr0 : Kd.C (Kd.int .i64) w A0 l0.length l0) (hc0 : l0.length ≤ c0) (hr1 : Kd.C (Kd.int .i64) w A1 l1.length l1) (hc1 : l1.length ≤ c1) :
    Calls Tryd.prog 60 #[.slice A0 l0.length c0, .slice A1 l1.length c1] w fun e w' => e = .returned (.int .i64 (bth l0 l1)) ∧ w = w' := by
  have hm0 : l0.length ≤ 9223372036854775807 := Kd.C_max hr0
  have hm1 : l1.length ≤ 9223372036854775807 := Kd.C_max hr1
  rcases chk_cases l0 with h0 | h0
  · rcases chk_cases l1 with h1 | h1
    · have C0 := fun W (hW : Kd.C (Kd.int .i64) W A0 l0.length l0) => row_Check.same A0 c0 l0 0 W hW hc0 (by unfold row_Check.f; rw [h0])
      have C1 := fun W (hW : Kd.C (Kd.int .i64) W A1 l1.length l1) => row_Check.same A1 c1 l1 0 W hW hc1 (by unfold row_Check.f; rw [h1])
      by_cases hl : l0.length = l1.length
      · have hb : bth l0 l1 = 0 := by unfold bth; rw [if_pos h0, if_pos h1, if_pos hl]
        have d : ((l0.length : Int) != (l1.length : Int)) = false := by simp [hl]
        have X0 := Aside0.mk C0; have X1 := Aside0.mk C1; have HR0 := Aside0.mk hr0; have HR1 := Aside0.mk hr1; have HB := Aside0.mk hb
        clear C0 C1 hr0 hr1 hb hl h0 h1 hc0 hc1
        go_enter Tryd.func60, Tryd.ntmps60
        go_wp2_with fail
        refine (X0.out _ HR0.out).mono ?_
        rintro e w' ⟨rfl, rfl⟩
        go_wp2_with fail
        refine (X1.out _ HR1.out).mono ?_
        rintro e w' ⟨rfl, rfl⟩
        go_wp2_with fail
        go_ret
        exact ⟨by rw [HB.out]; rfl, rfl⟩
      · have hb : bth l0 l1 = 5 := by unfold bth; rw [if_pos h0, if_pos h1, if_neg hl]
        have d : ((l0.length : Int) != (l1.length : Int)) = true := by simp; omega
        have X0 := Aside0.mk C0; have X1 := Aside0.mk C1; have HR0 := Aside0.mk hr0; have HR1 := Aside0.mk hr1; have HB := Aside0.mk hb
        clear C0 C1 hr0 hr1 hb hl h0 h1 hc0 hc1
        go_enter Tryd.func60, Tryd.ntmps60
        go_wp2_with fail
        refine (X0.out _ HR0.out).mono ?_
        rintro e w' ⟨rfl, rfl⟩
        go_wp2_with fail
        refine (X1.out _ HR1.out).mono ?_
        rintro e w' ⟨rfl, rfl⟩
        go_wp2_with fail
        go_ret
        exact ⟨by rw [HB.out]; rfl, rfl⟩
    · have hb : bth l0 l1 = 4 := by unfold bth; rw [if_pos h0, h1]; rfl
      have C0 := fun W (hW : Kd.C (Kd.int .i64) W A0 l0.length l0) => row_Check.same A0 c0 l0 0 W hW hc0 (by unfold row_Check.f; rw [h0])
      have C1 := fun W (hW : Kd.C (Kd.int .i64) W A1 l1.length l1) => row_Check.same A1 c1 l1 4 W hW hc1 (by unfold row_Check.f; rw [h1])
      have X0 := Aside0.mk C0; have X1 := Aside0.mk C1; have HR0 := Aside0.mk hr0; have HR1 := Aside0.mk hr1; have HB := Aside0.mk hb
      clear C0 C1 hr0 hr1 hb h0 h1 hc0 hc1
      go_enter Tryd.func60, Tryd.ntmps60
      go_wp2_with fail
      refine (X0.out _ HR0.out).mono ?_
      rintro e w' ⟨rfl, rfl⟩
      go_wp2_with fail
      refine (X1.out _ HR1.out).mono ?_
      rintro e w' ⟨rfl, rfl⟩
      go_wp2_with fail
      go_ret
      exact ⟨by rw [HB.out]; rfl, rfl⟩
  · have hb : bth l0 l1 = 4 := by unfold bth; rw [h0]; rfl
    have C0 := fun W (hW : Kd.C (Kd.int .i64) W A0 l0.length l0) => row_Check.same A0 c0 l0 4 W hW hc0 (by unfold row_Check.f; rw [h0])
    have X0 := Aside0.mk C0; have HR0 := Aside0.mk hr0; have HB := Aside0.mk hb
    clear C0 hr0 hr1 hb h0 hc0 hc1
    go_enter Tryd.func60, Tryd.ntmps60
    go_wp2_with fail
    refine (X0.out _ HR0.out).mono ?_
    rintro e w' ⟨rfl, rfl⟩
    go_wp2_with fail
    go_ret
    exact ⟨by rw [HB.out]; rfl, rfl⟩

/-- Are all elements 0? -/
def zro (l : List Int) : Bool := l.all (fun x => x == 0)
def row_IsZero.f (l0 : List Int) : Option Bool := some (zro l0)
theorem row_IsZero.calls (A0 : Option Addr) (c0 : Nat) (l0 : List Int) (r : Bool) (w : World) (hr0 : Kd.C (Kd.int .i64) w A0 l0.length l0) (hc0 : l0.length ≤ c0) (h : row_IsZero.f l0 = some r) :
    Calls Tryd.prog 48 #[.slice A0 l0.length c0] w fun e w' => e = .returned (.bool r) ∧ Drawn0 w w' := by
  have h' : zro l0 = r := Option.some.inj h
  clear h
  have hi : decide (0 ≤ idx nzB l0) = !r := by rw [idx_lt, any_nz, ← h']; rfl
  clear h'
  have HR := Aside0.mk hr0
  clear hr0 hc0
  have HI := Aside0.mk hi
  clear hi
  cases r with
  | true =>
    go_enter Tryd.func48, Tryd.ntmps48
    go_wp2_with (go_at_call 53; refine (cont69 _ _ _ _ HR.out).mono ?_; rw [HI.out]; rintro e w' ⟨rfl, rfl⟩)
    go_ret
    exact ⟨rfl, Drawn0.refl _⟩
  | false =>
    go_enter Tryd.func48, Tryd.ntmps48
    go_wp2_with (go_at_call 53; refine (cont69 _ _ _ _ HR.out).mono ?_; rw [HI.out]; rintro e w' ⟨rfl, rfl⟩)
    go_ret
    exact ⟨rfl, Drawn0.refl _⟩

end Go.Proofs.YtpbbekbdpodedaaDoor
