import Derived.Test.YtpbbekbdpodedaaDoorProg
import Derived.Below
import Derived.Deep.Draws
import Derived.Deep.AppendLies
import Derived.Maps.AppendAt
import Derived.OwnWalk
import Derived.Laws.BytesArg
import Derived.Laws.MakeOwn
import Derived.Laws.OwnMore
import Derived.Deep.OwnRows
import Derived.Tactics
import Derived.Lib.ConvBytes
import Derived.Laws.Slices
import Derived.WalkKit
import Derived.KernelRfl
import Derived.RowKit3
import Derived.Deep.LoopGhost
import Derived.Deep.QuietTactic
import Derived.BigQuiet
import Derived.WideLaws
import Derived.Deep.DeepCutAuto
import Derived.Deep.CutBlock
import Derived.Deep.RegionHeld3
import Derived.Laws.Rows
import Derived.Lib.AppendStr
import Derived.ArgAppend
import Derived.Laws.IdiomCopy
import Derived.OrdersHeld
import Derived.Laws.BitsLemmas
import Derived.RowKit
import Derived.Test.YtpbbekbdpodedaaDoorWWords
import Derived.Test.YtpbbekbdpodedaaDoorWLast
import Derived.Test.YtpbbekbdpodedaaDoorWTab
import Derived.Test.YtpbbekbdpodedaaDoorWFour
import Derived.Test.YtpbbekbdpodedaaDoorWQPut
import Derived.Test.YtpbbekbdpodedaaDoorWApart
import Derived.Test.YtpbbekbdpodedaaDoorWArr
import Derived.Test.YtpbbekbdpodedaaDoorWZeros
import Derived.Test.YtpbbekbdpodedaaDoorWFoot
import Derived.Test.YtpbbekbdpodedaaDoorWKept
import Derived.Test.YtpbbekbdpodedaaDoorWShare
import Derived.Test.YtpbbekbdpodedaaDoorWN
import Derived.Test.YtpbbekbdpodedaaDoorWFootNe
import Derived.Test.YtpbbekbdpodedaaDoorWAt
import Derived.Test.YtpbbekbdpodedaaDoorWEqStruct
import Derived.Test.YtpbbekbdpodedaaDoorWRepsOne
import Derived.Test.YtpbbekbdpodedaaDoorWInv
import Derived.Test.YtpbbekbdpodedaaDoorWInvWords
import Derived.Test.YtpbbekbdpodedaaDoorWGuard
import Derived.Test.YtpbbekbdpodedaaDoorWNEv
import Derived.Test.YtpbbekbdpodedaaDoorWMore
namespace Go.Proofs.YtpbbekbdpodedaaDoor.H
open Go.RowKit Go.Proofs.YtpbbekbdpodedaaDoorW.PrintWords Go.Proofs.YtpbbekbdpodedaaDoorW.PrintLast Go.Proofs.YtpbbekbdpodedaaDoorW.PrintMore
set_option linter.unusedVariables false
set_option linter.unusedSimpArgs false

/-- What a row may hold. -/
def fitB (x : Int) : Bool := decide (-1000000000 ≤ x) && decide (x ≤ 1000000000)
theorem fitB_true {x : Int} (h1 : -1000000000 ≤ x) (h2 : x ≤ 1000000000) : fitB x = true := by simp [fitB, h1, h2]
theorem fitB_lo {x : Int} (h1 : x < -1000000000) : fitB x = false := by simp [fitB]; omega
theorem fitB_hi {x : Int} (h1 : 1000000000 < x) : fitB x = false := by simp [fitB]; omega

theorem clo54 (x : Int) (w : World) : Calls Tryd.prog 54 #[.int .i64 x] w fun e w' => e = .returned (.bool (!fitB x)) ∧ w = w' := by
  by_cases h1 : -1000000000 ≤ x
  · by_cases h2 : x ≤ 1000000000
    · have e := fitB_true h1 h2
      have H := Aside0.mk e
      clear e
      have d1 : decide (-1000000000 ≤ x) = true := by simpa using h1
      have d2 : decide (x ≤ 1000000000) = true := by simpa using h2
      go_enter Tryd.func54, Tryd.ntmps54
      go_wp2
      go_ret
      exact ⟨by rw [H.out]; rfl, rfl⟩
    · have e := fitB_hi (x := x) (by omega)
      have H := Aside0.mk e
      clear e
      have d1 : decide (-1000000000 ≤ x) = true := by simpa using h1
      have d2 : decide (x ≤ 1000000000) = false := by simpa using h2
      go_enter Tryd.func54, Tryd.ntmps54
      go_wp2
      go_ret
      exact ⟨by rw [H.out]; rfl, rfl⟩
  · have e := fitB_lo (x := x) (by omega)
    have H := Aside0.mk e
    clear e
    have d1 : decide (-1000000000 ≤ x) = false := by simpa using h1
    go_enter Tryd.func54, Tryd.ntmps54
    go_wp2
    go_ret
    exact ⟨by rw [H.out]; rfl, rfl⟩

/-- Is a number not 0? -/
def nzB (x : Int) : Bool := x != 0

theorem clo58 (x : Int) (w : World) : Calls Tryd.prog 58 #[.int .i64 x] w fun e w' => e = .returned (.bool (nzB x)) ∧ w = w' := by
  by_cases h : x = 0
  · have e : nzB x = false := by simp [nzB, h]
    have H := Aside0.mk e
    clear e
    subst h
    go_enter Tryd.func58, Tryd.ntmps58
    go_wp2
    go_ret
    exact ⟨by rw [H.out]; rfl, rfl⟩
  · have e : nzB x = true := by simp [nzB, h]
    have H := Aside0.mk e
    clear e
    have d : (x != 0) = true := by simpa using h
    clear h
    go_enter Tryd.func58, Tryd.ntmps58
    go_wp2
    go_ret
    exact ⟨by rw [H.out]; rfl, rfl⟩

theorem clo69 (x : Int) (w : World) : Calls Tryd.prog 69 #[.int .i64 x] w fun e w' => e = .returned (.bool (nzB x)) ∧ w = w' := by
  by_cases h : x = 0
  · have e : nzB x = false := by simp [nzB, h]
    have H := Aside0.mk e
    clear e
    subst h
    go_enter Tryd.func69, Tryd.ntmps69
    go_wp2
    go_ret
    exact ⟨by rw [H.out]; rfl, rfl⟩
  · have e : nzB x = true := by simp [nzB, h]
    have H := Aside0.mk e
    clear e
    have d : (x != 0) = true := by simpa using h
    clear h
    go_enter Tryd.func69, Tryd.ntmps69
    go_wp2
    go_ret
    exact ⟨by rw [H.out]; rfl, rfl⟩

/-- The first place where p holds, or -1. -/
def idx (p : Int → Bool) (l : List Int) : Int := match l.findIdx? p with | some i => i | none => -1
theorem idx_none {p : Int → Bool} {l : List Int} (h : ∀ j, j < l.length → p (l.getD j 0) = false) : idx p l = -1 := by
  have : l.findIdx? p = none := by
    rw [List.findIdx?_eq_none_iff]
    intro x hx
    obtain ⟨j, hj, rfl⟩ := List.getElem_of_mem hx
    have := h j hj
    simpa [List.getD_eq_getElem?_getD, List.getElem?_eq_getElem hj] using this
  simp [idx, this]
theorem idx_some {p : Int → Bool} {l : List Int} {k : Nat} (hk : k < l.length) (h : ∀ j, j < k → p (l.getD j 0) = false) (hp : p (l.getD k 0) = true) : idx p l = k := by
  have : l.findIdx? p = some k := by
    rw [List.findIdx?_eq_some_iff_getElem]
    refine ⟨hk, ?_, ?_⟩
    · simpa [List.getD_eq_getElem?_getD, List.getElem?_eq_getElem hk] using hp
    · intro j hj
      have := h j hj
      have hj' : j < l.length := by omega
      simpa [List.getD_eq_getElem?_getD, List.getElem?_eq_getElem hj'] using this
  simp [idx, this]

set_option maxHeartbeats 1000000 in
theorem idx54 (A0 : Option Addr) (c0 : Nat) (l : List Int) (w : World) (hr : Kd.C (Kd.int .i64) w A0 l.length l) :
    Calls Tryd.prog 57 #[.slice A0 l.length c0, .func (.func 54) #[] #[]] w fun e w' => e = .returned (.int .i64 (idx (fun x => !fitB x) l)) ∧ w = w' := by
  have hm : l.length ≤ 9223372036854775807 := Kd.C_max hr
  have HR := Aside0.mk hr
  clear hr
  go_enter Tryd.func57, Tryd.ntmps57
  go_wp2
  go_loop [8] (fun i => ∃ k : Nat, k ≤ l.length ∧ Aside0 (∀ j, j < k → (fun x => !fitB x) (l.getD j 0) = false) ∧ i = .int .i64 k) (fun i => l.length - (intOf i).toNat)
  case atStart => exact ⟨0, Nat.zero_le _, ⟨fun j hj => absurd hj (Nat.not_lt_zero _)⟩, rfl⟩
  case round =>
    obtain ⟨k, hk, HP, rfl⟩ := hrel
    by_cases hlt : k < l.length
    · obtain ⟨ad, e, hcell⟩ := Kd.at_int HR.out k (by omega) (by omega)
      subst e
      rw [Int.toNat_natCast] at hcell
      generalize hx : rd l k = x at hcell
      have HX := Aside0.mk hx
      clear hx
      cases hp : (fun x => !fitB x) x with
      | false =>
        have HQ := Aside0.mk hp
        clear hp
        go_wp2_with (go_at_call 54; refine (clo54 _ _).mono ?_; rw [HQ.out]; rintro e w' ⟨rfl, rfl⟩)
        go_round
        case rel => exact ⟨k + 1, by omega, ⟨fun j hj => by
          by_cases ej : j = k
          · subst ej
            have := HX.out
            unfold rd at this
            rw [Int.toNat_natCast] at this
            rw [this]
            exact HQ.out
          · exact HP.out j (by omega)⟩, by go_num⟩
        case measure => simp [intOf]; omega
      | true =>
        have HQ := Aside0.mk hp
        clear hp
        have he : idx (fun x => !fitB x) l = k := idx_some hlt HP.out (by
            have := HX.out
            unfold rd at this
            rw [Int.toNat_natCast] at this
            rw [this]
            exact HQ.out)
        have HE := Aside0.mk he
        clear he
        go_wp2_with (go_at_call 54; refine (clo54 _ _).mono ?_; rw [HQ.out]; rintro e w' ⟨rfl, rfl⟩)
        go_ret
        exact ⟨by rw [HE.out]; rfl, rfl⟩
    · have he : idx (fun x => !fitB x) l = -1 := idx_none (fun j hj => HP.out j (by omega))
      have HE := Aside0.mk he
      clear he
      go_wp2
      go_ret
      exact ⟨by rw [HE.out]; rfl, rfl⟩

theorem cont54 (A0 : Option Addr) (c0 : Nat) (l : List Int) (w : World) (hr : Kd.C (Kd.int .i64) w A0 l.length l) :
    Calls Tryd.prog 53 #[.slice A0 l.length c0, .func (.func 54) #[] #[]] w fun e w' => e = .returned (.bool (decide (0 ≤ idx (fun x => !fitB x) l))) ∧ w = w' := by
  have HR := Aside0.mk hr
  clear hr
  go_enter Tryd.func53, Tryd.ntmps53
  go_wp2_with (go_at_call 57; refine (idx54 _ _ _ _ HR.out).mono ?_; rintro e w' ⟨rfl, rfl⟩)
  go_ret
  exact ⟨rfl, rfl⟩

set_option maxHeartbeats 1000000 in
theorem idx58 (A0 : Option Addr) (c0 : Nat) (l : List Int) (w : World) (hr : Kd.C (Kd.int .i64) w A0 l.length l) :
    Calls Tryd.prog 57 #[.slice A0 l.length c0, .func (.func 58) #[] #[]] w fun e w' => e = .returned (.int .i64 (idx nzB l)) ∧ w = w' := by
  have hm : l.length ≤ 9223372036854775807 := Kd.C_max hr
  have HR := Aside0.mk hr
  clear hr
  go_enter Tryd.func57, Tryd.ntmps57
  go_wp2
  go_loop [8] (fun i => ∃ k : Nat, k ≤ l.length ∧ Aside0 (∀ j, j < k → nzB (l.getD j 0) = false) ∧ i = .int .i64 k) (fun i => l.length - (intOf i).toNat)
  case atStart => exact ⟨0, Nat.zero_le _, ⟨fun j hj => absurd hj (Nat.not_lt_zero _)⟩, rfl⟩
  case round =>
    obtain ⟨k, hk, HP, rfl⟩ := hrel
    by_cases hlt : k < l.length
    · obtain ⟨ad, e, hcell⟩ := Kd.at_int HR.out k (by omega) (by omega)
      subst e
      rw [Int.toNat_natCast] at hcell
      generalize hx : rd l k = x at hcell
      have HX := Aside0.mk hx
      clear hx
      cases hp : nzB x with
      | false =>
        have HQ := Aside0.mk hp
        clear hp
        go_wp2_with (go_at_call 58; refine (clo58 _ _).mono ?_; rw [HQ.out]; rintro e w' ⟨rfl, rfl⟩)
        go_round
        case rel => exact ⟨k + 1, by omega, ⟨fun j hj => by
          by_cases ej : j = k
          · subst ej
            have := HX.out
            unfold rd at this
            rw [Int.toNat_natCast] at this
            rw [this]
            exact HQ.out
          · exact HP.out j (by omega)⟩, by go_num⟩
        case measure => simp [intOf]; omega
      | true =>
        have HQ := Aside0.mk hp
        clear hp
        have he : idx nzB l = k := idx_some hlt HP.out (by
            have := HX.out
            unfold rd at this
            rw [Int.toNat_natCast] at this
            rw [this]
            exact HQ.out)
        have HE := Aside0.mk he
        clear he
        go_wp2_with (go_at_call 58; refine (clo58 _ _).mono ?_; rw [HQ.out]; rintro e w' ⟨rfl, rfl⟩)
        go_ret
        exact ⟨by rw [HE.out]; rfl, rfl⟩
    · have he : idx nzB l = -1 := idx_none (fun j hj => HP.out j (by omega))
      have HE := Aside0.mk he
      clear he
      go_wp2
      go_ret
      exact ⟨by rw [HE.out]; rfl, rfl⟩

theorem cont58 (A0 : Option Addr) (c0 : Nat) (l : List Int) (w : World) (hr : Kd.C (Kd.int .i64) w A0 l.length l) :
    Calls Tryd.prog 53 #[.slice A0 l.length c0, .func (.func 58) #[] #[]] w fun e w' => e = .returned (.bool (decide (0 ≤ idx nzB l))) ∧ w = w' := by
  have HR := Aside0.mk hr
  clear hr
  go_enter Tryd.func53, Tryd.ntmps53
  go_wp2_with (go_at_call 57; refine (idx58 _ _ _ _ HR.out).mono ?_; rintro e w' ⟨rfl, rfl⟩)
  go_ret
  exact ⟨rfl, rfl⟩

set_option maxHeartbeats 1000000 in
theorem idx69 (A0 : Option Addr) (c0 : Nat) (l : List Int) (w : World) (hr : Kd.C (Kd.int .i64) w A0 l.length l) :
    Calls Tryd.prog 57 #[.slice A0 l.length c0, .func (.func 69) #[] #[]] w fun e w' => e = .returned (.int .i64 (idx nzB l)) ∧ w = w' := by
  have hm : l.length ≤ 9223372036854775807 := Kd.C_max hr
  have HR := Aside0.mk hr
  clear hr
  go_enter Tryd.func57, Tryd.ntmps57
  go_wp2
  go_loop [8] (fun i => ∃ k : Nat, k ≤ l.length ∧ Aside0 (∀ j, j < k → nzB (l.getD j 0) = false) ∧ i = .int .i64 k) (fun i => l.length - (intOf i).toNat)
  case atStart => exact ⟨0, Nat.zero_le _, ⟨fun j hj => absurd hj (Nat.not_lt_zero _)⟩, rfl⟩
  case round =>
    obtain ⟨k, hk, HP, rfl⟩ := hrel
    by_cases hlt : k < l.length
    · obtain ⟨ad, e, hcell⟩ := Kd.at_int HR.out k (by omega) (by omega)
      subst e
      rw [Int.toNat_natCast] at hcell
      generalize hx : rd l k = x at hcell
      have HX := Aside0.mk hx
      clear hx
      cases hp : nzB x with
      | false =>
        have HQ := Aside0.mk hp
        clear hp
        go_wp2_with (go_at_call 69; refine (clo69 _ _).mono ?_; rw [HQ.out]; rintro e w' ⟨rfl, rfl⟩)
        go_round
        case rel => exact ⟨k + 1, by omega, ⟨fun j hj => by
          by_cases ej : j = k
          · subst ej
            have := HX.out
            unfold rd at this
            rw [Int.toNat_natCast] at this
            rw [this]
            exact HQ.out
          · exact HP.out j (by omega)⟩, by go_num⟩
        case measure => simp [intOf]; omega
      | true =>
        have HQ := Aside0.mk hp
        clear hp
        have he : idx nzB l = k := idx_some hlt HP.out (by
            have := HX.out
            unfold rd at this
            rw [Int.toNat_natCast] at this
            rw [this]
            exact HQ.out)
        have HE := Aside0.mk he
        clear he
        go_wp2_with (go_at_call 69; refine (clo69 _ _).mono ?_; rw [HQ.out]; rintro e w' ⟨rfl, rfl⟩)
        go_ret
        exact ⟨by rw [HE.out]; rfl, rfl⟩
    · have he : idx nzB l = -1 := idx_none (fun j hj => HP.out j (by omega))
      have HE := Aside0.mk he
      clear he
      go_wp2
      go_ret
      exact ⟨by rw [HE.out]; rfl, rfl⟩

theorem cont69 (A0 : Option Addr) (c0 : Nat) (l : List Int) (w : World) (hr : Kd.C (Kd.int .i64) w A0 l.length l) :
    Calls Tryd.prog 53 #[.slice A0 l.length c0, .func (.func 69) #[] #[]] w fun e w' => e = .returned (.bool (decide (0 ≤ idx nzB l))) ∧ w = w' := by
  have HR := Aside0.mk hr
  clear hr
  go_enter Tryd.func53, Tryd.ntmps53
  go_wp2_with (go_at_call 57; refine (idx69 _ _ _ _ HR.out).mono ?_; rintro e w' ⟨rfl, rfl⟩)
  go_ret
  exact ⟨rfl, rfl⟩
end Go.Proofs.YtpbbekbdpodedaaDoor.H
