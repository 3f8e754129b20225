import Derived.Test.YtpbbekbdpodedaaDoorH1
import Derived.Test.YtpbbekbdpodedaaDoorSh
import Derived.Lib.AppendIntMem
import Derived.Test.YtpbbekbdpodedaaDoorProg
import Derived.Below
import Derived.Deep.Draws
import Derived.Deep.AppendLies
import Derived.Maps.AppendAt
import Derived.OwnWalk
import Derived.Laws.BytesArg
import Derived.Laws.MakeOwn
import Derived.Laws.OwnMore
import Derived.Deep.OwnRows
import Derived.Tactics
import Derived.Lib.ConvBytes
import Derived.Laws.Slices
import Derived.WalkKit
import Derived.KernelRfl
import Derived.RowKit3
import Derived.Deep.LoopGhost
import Derived.Deep.QuietTactic
import Derived.BigQuiet
import Derived.WideLaws
import Derived.Deep.DeepCutAuto
import Derived.Deep.CutBlock
import Derived.Deep.RegionHeld3
import Derived.Laws.Rows
import Derived.Lib.AppendStr
import Derived.ArgAppend
import Derived.Laws.IdiomCopy
import Derived.OrdersHeld
import Derived.Laws.BitsLemmas
import Derived.RowKit
import Derived.Test.YtpbbekbdpodedaaDoorWWords
import Derived.Test.YtpbbekbdpodedaaDoorWLast
import Derived.Test.YtpbbekbdpodedaaDoorWTab
import Derived.Test.YtpbbekbdpodedaaDoorWFour
import Derived.Test.YtpbbekbdpodedaaDoorWQPut
import Derived.Test.YtpbbekbdpodedaaDoorWApart
import Derived.Test.YtpbbekbdpodedaaDoorWArr
import Derived.Test.YtpbbekbdpodedaaDoorWZeros
import Derived.Test.YtpbbekbdpodedaaDoorWFoot
import Derived.Test.YtpbbekbdpodedaaDoorWKept
import Derived.Test.YtpbbekbdpodedaaDoorWShare
import Derived.Test.YtpbbekbdpodedaaDoorWN
import Derived.Test.YtpbbekbdpodedaaDoorWFootNe
import Derived.Test.YtpbbekbdpodedaaDoorWAt
import Derived.Test.YtpbbekbdpodedaaDoorWEqStruct
import Derived.Test.YtpbbekbdpodedaaDoorWRepsOne
import Derived.Test.YtpbbekbdpodedaaDoorWInv
import Derived.Test.YtpbbekbdpodedaaDoorWInvWords
import Derived.Test.YtpbbekbdpodedaaDoorWGuard
import Derived.Test.YtpbbekbdpodedaaDoorWNEv
import Derived.Test.YtpbbekbdpodedaaDoorWMore
import Derived.Test.YtpbbekbdpodedaaDoorH2
import Derived.Test.YtpbbekbdpodedaaDoorSh2
import Derived.RangeFuncRecord
import Derived.Test.YtpbbekbdpodedaaDoorPR0
set_option linter.unusedVariables false
set_option linter.unusedSimpArgs false
namespace Go.Proofs.YtpbbekbdpodedaaDoor
open Go.RowKit Go.Proofs.YtpbbekbdpodedaaDoorW.PrintWords Go.Proofs.YtpbbekbdpodedaaDoorW.PrintLast Go.Proofs.YtpbbekbdpodedaaDoorW.PrintMore
open H

/-- internal/bytealg.MaxLen holds some number. -/
def MaxOK (w : World) : Prop := ∃ m, w.cell? ⟨3, 0, none⟩ = some (.int .i64 m)
theorem MaxOK.below {w w' : World} (h : MaxOK w) (hb : Below w.heap.size w w') : MaxOK w' := by
  obtain ⟨m, hm⟩ := h
  exact ⟨m, (hb.cell (World.block_lt_of_cell? w _ hm)).trans hm⟩

def strings_TrimPrefix.f (a0 a1 : ByteArray) : Option ByteArray := some ⟨(Lib.trimPrefix a0.data.toList a1.data.toList).toArray⟩
theorem strings_TrimPrefix.calls (a0 a1 : ByteArray) (r : ByteArray) (w : World) (h : strings_TrimPrefix.f a0 a1 = some r) :
    Calls Tryd.prog 92 #[.string a0, .string a1] w fun e w' => e = .returned (.string r) ∧ Drawn0 w w' := by
  obtain rfl := Option.some.inj h
  exact (Tryd.strings_TrimPrefix a0 a1 w).mono fun e w' ⟨he, hw⟩ => ⟨he, Drawn0.of_eq hw.symm⟩
def strings_CutPrefix.f (a0 a1 : ByteArray) : Option (ByteArray × Bool) := some (⟨(Lib.trimPrefix a0.data.toList a1.data.toList).toArray⟩, Lib.hasPrefix a0.data.toList a1.data.toList)
theorem strings_CutPrefix.calls (a0 a1 : ByteArray) (r1 : ByteArray) (r2 : Bool) (w : World) (h : strings_CutPrefix.f a0 a1 = some (r1, r2)) :
    Calls Tryd.prog 72 #[.string a0, .string a1] w fun e w' => e = .returned (.tuple #[.string r1, .bool r2]) ∧ Drawn0 w w' := by
  cases Option.some.inj h
  exact (Tryd.strings_CutPrefix a0 a1 w).mono fun e w' ⟨he, hw⟩ => ⟨he, Drawn0.of_eq hw.symm⟩
def strings_CutSuffix.f (a0 a1 : ByteArray) : Option (ByteArray × Bool) := if a0.size ≤ 9223372036854775807 then some (⟨(Lib.trimSuffix a0.data.toList a1.data.toList).toArray⟩, Lib.hasSuffix a0.data.toList a1.data.toList) else none
theorem strings_CutSuffix.calls (a0 a1 : ByteArray) (r1 : ByteArray) (r2 : Bool) (w : World) (h : strings_CutSuffix.f a0 a1 = some (r1, r2)) :
    Calls Tryd.prog 73 #[.string a0, .string a1] w fun e w' => e = .returned (.tuple #[.string r1, .bool r2]) ∧ Drawn0 w w' := by
  unfold strings_CutSuffix.f at h
  split at h
  · rename_i hs
    cases Option.some.inj h
    exact (Tryd.strings_CutSuffix a0 a1 w hs).mono fun e w' ⟨he, hw⟩ => ⟨he, Drawn0.of_eq hw.symm⟩
  · cases h

def strings_Split.f (a0 a1 : ByteArray) : Option (List ByteArray) := if a0.size ≤ 1000000 ∧ 1 ≤ a1.size ∧ (Lib.splitB a1 0 (Lib.countB a0 a1) a0).length = Lib.countB a0 a1 + 1 ∧ Lib.countB a0 a1 + 1 ≤ 1000000 then some (Lib.splitB a1 0 (Lib.countB a0 a1) a0) else none
theorem strings_Split.calls (a0 a1 : ByteArray) (r : List ByteArray) (w : World) (hG_max : MaxOK w) (h : strings_Split.f a0 a1 = some r) :
    Calls Tryd.prog 74 #[.string a0, .string a1] w fun e w' => ∃ v0_ : Value, e = .returned v0_ ∧ Kd.R Kd.string 9 w' w.heap.size (fun _ => True) v0_ r ∧ Below w.heap.size w w' := by
  unfold strings_Split.f at h
  split at h
  · rename_i hs
    obtain ⟨h1, h2, h3, h4⟩ := hs
    obtain rfl := Option.some.inj h
    obtain ⟨m, hm⟩ := hG_max
    refine (Tryd.strings_Split a0 a1 m w (by omega) hm h2).mono fun e w' ⟨he, hw⟩ => ?_
    subst hw
    generalize Lib.splitB a1 0 (Lib.countB a0 a1) a0 = L at h3
    rw [← h3] at he h4
    refine ⟨_, he, ⟨fun _ _ => trivial, L.map Value.string, ⟨by simp [Kd.string, Kd.scalar], .inr ⟨w.heap.size, L.length, (L.map Value.string).toArray, rfl, Nat.le_refl _, World.alloc_heap_new _ _, Nat.le_refl _, ?_, ?_, ?_⟩⟩, ?_⟩, below_alloc (Below.refl _ _) _⟩
    · simp only [maxLen]; omega
    · simp [Kd.string, Kd.scalar]
    · simp [Kd.string, Kd.scalar]
      rw [List.take_of_length_le (by simp)]
    · refine ⟨by simp [Kd.string, Kd.scalar], fun j p hj => ?_⟩
      show _ = [Value.string p]
      obtain ⟨hj1, hj2⟩ := List.getElem?_eq_some_iff.1 hj
      simp only [Kd.string, Kd.scalar, Nat.mul_one]
      rw [← List.map_drop, ← List.map_take, List.drop_eq_getElem_cons hj1, hj2]
      rfl
  · cases h
end Go.Proofs.YtpbbekbdpodedaaDoor
set_option linter.unusedVariables false
set_option linter.unusedSimpArgs false
namespace Go.Proofs.YtpbbekbdpodedaaDoor
open Go.RowKit Go.Proofs.YtpbbekbdpodedaaDoorW.PrintWords Go.Proofs.YtpbbekbdpodedaaDoorW.PrintLast Go.Proofs.YtpbbekbdpodedaaDoorW.PrintMore
open H

def digB (c : UInt8) : Bool := decide (48 ≤ c.toNat) && decide (c.toNat ≤ 57)
/-- An integer in canonical form. -/
def canonB (s : ByteArray) : Bool :=
  (Lib.trimPrefix s.data.toList [45]).all digB && (s.data.toList == [48] || ((Lib.trimPrefix s.data.toList [45]) != [] && (Lib.trimPrefix s.data.toList [45]).getD 0 0 != 48))

theorem canonB_false {s d : ByteArray} {k : Nat} (hd : d.data.toList = Lib.trimPrefix s.data.toList [45]) (hk : k < d.size) (h : digB (d.data.toList.getD k 0) = false) : canonB s = false := by
  unfold canonB
  rw [← hd]
  have hl : k < d.data.toList.length := by rw [Lib.size_eq] at hk; exact hk
  have : d.data.toList.all digB = false := by
    rw [List.all_eq_false]
    refine ⟨d.data.toList[k], List.getElem_mem hl, ?_⟩
    rw [List.getD_eq_getElem?_getD, List.getElem?_eq_getElem hl] at h
    simpa using h
  rw [this]
  rfl
theorem canonB_end {s d : ByteArray} (hd : d.data.toList = Lib.trimPrefix s.data.toList [45]) (h : ∀ j, j < d.size → digB (d.data.toList.getD j 0) = true) :
    canonB s = (s.toList == [48] || (!d.toList.isEmpty && (((d.data.toList.getD 0 0).toNat : Int) != 48))) := by
  unfold canonB
  rw [← hd, Lib.toList_data, Lib.toList_data]
  have : d.data.toList.all digB = true := by
    rw [List.all_eq_true]
    intro x hx
    obtain ⟨j, hj, rfl⟩ := List.getElem_of_mem hx
    have := h j (by rw [Lib.size_eq]; exact hj)
    rwa [List.getD_eq_getElem?_getD, List.getElem?_eq_getElem hj] at this
  rw [this, Bool.true_and]
  congr 1
  have h1 : (d.data.toList != []) = !d.data.toList.isEmpty := by cases d.data.toList <;> rfl
  rw [h1]
  congr 1
  generalize d.data.toList.getD 0 0 = x
  have : (x = 48) ↔ ((x.toNat : Int) = 48) := by
    constructor
    · intro h; subst h; rfl
    · intro h
      have : x.toNat = 48 := by omega
      exact UInt8.toNat_inj.1 this
  by_cases hx : x = 48
  · simp [hx]
  · have h2 : ¬ ((x.toNat : Int) = 48) := fun e => hx (this.2 e)
    rw [bne_iff_ne.2 hx, bne_iff_ne.2 h2]
set_option maxHeartbeats 2000000 in
set_option maxRecDepth 100000 in
theorem canon_walk (s : ByteArray) (w : World) (hlim : s.size ≤ 1000000) :
    Calls Tryd.prog 77 #[.string s] w fun e w' => e = .returned (.bool (canonB s)) ∧ Below w.heap.size w w' := by
  obtain ⟨d, hd⟩ : ∃ d : ByteArray, d = ⟨(Lib.trimPrefix s.data.toList [45]).toArray⟩ := ⟨_, rfl⟩
  have hdl : d.data.toList = Lib.trimPrefix s.data.toList [45] := by rw [hd]
  have T : ∀ W, Calls Tryd.prog 92 #[.string s, .string ⟨#[45]⟩] W fun e w' => e = .returned (.string d) ∧ w' = W := fun W => by rw [hd]; exact Tryd.strings_TrimPrefix s ⟨#[45]⟩ W
  have hcv := Lib.run_convert_string_bytes (P := Tryd.prog) w 9 68 5 d (u := .string) Tryd.underlying9 Tryd.underlying68 Tryd.underlying5
  have hbw := Lib.bytesWorld_below w 5 d
  have hcell := fun j hj => Lib.bytesWorld_cell w 5 d j hj
  have hsz : d.size ≤ 1000001 := by
    have := Lib.trimPrefix_le s.data.toList [45]
    rw [Lib.size_eq, hdl]
    rw [Lib.size_eq] at hlim
    omega
  generalize Lib.bytesWorld w 5 d = W1 at hcv hbw hcell
  have HT := Aside0.mk T
  have HB := Aside0.mk hbw
  have HCE := Aside0.mk hcell
  have HDL := Aside0.mk hdl
  clear T hbw hcell hdl hd
  go_enter Tryd.func77, Tryd.ntmps77
  go_wp2_with (go_at_call 92; refine (HT.out _).mono ?_; rintro e w' ⟨rfl, rfl⟩)
  go_loop [11] (fun i => ∃ k : Nat, k ≤ d.size ∧ Aside0 (∀ j, j < k → digB (d.data.toList.getD j 0) = true) ∧ i = .int .i64 k) (fun i => d.size - (intOf i).toNat)
  case atStart => exact ⟨0, Nat.zero_le _, ⟨fun j hj => absurd hj (Nat.not_lt_zero _)⟩, rfl⟩
  case round =>
    obtain ⟨k, hk, HP, rfl⟩ := hrel
    by_cases hlt : k < d.size
    · have hc := HCE.out k hlt
      have hdec : decide ((k : Int) < (d.size : Int)) = true := by simpa using hlt
      have hcn : ∃ c : Nat, c = (d.data.toList.getD k 0).toNat := ⟨_, rfl⟩
      obtain ⟨c, hcn⟩ := hcn
      rw [← hcn] at hc
      have HN := Aside0.mk hcn
      clear hcn
      by_cases h1 : (c : Int) < 48
      · have d1 : decide ((c : Int) < 48) = true := decide_eq_true h1
        have H1 := Aside0.mk h1
        clear h1
        go_wp2
        go_ret
        exact ⟨by rw [canonB_false HDL.out hlt (by unfold digB; rw [← HN.out]; have := H1.out; simp; omega)]; rfl, HB.out⟩
      · have d1 : decide ((c : Int) < 48) = false := decide_eq_false h1
        by_cases h2 : (c : Int) > 57
        · have d2 : decide (57 < (c : Int)) = true := decide_eq_true h2
          have H2 := Aside0.mk h2
          clear h1 h2
          go_wp2
          go_ret
          exact ⟨by rw [canonB_false HDL.out hlt (by unfold digB; rw [← HN.out]; have := H2.out; simp; omega)]; rfl, HB.out⟩
        · have d2 : decide (57 < (c : Int)) = false := decide_eq_false h2
          have H1 := Aside0.mk h1
          have H2 := Aside0.mk h2
          clear h1 h2
          go_wp2
          go_round
          case rel => exact ⟨k + 1, by omega, ⟨fun j hj => by
            by_cases ej : j = k
            · subst ej
              unfold digB
              rw [← HN.out]
              have := H1.out
              have := H2.out
              simp
              omega
            · exact HP.out j (by omega)⟩, by go_num⟩
          case measure => simp [intOf]; omega
    · have hke : k = d.size := by omega
      subst hke
      have hdec : decide ((d.size : Int) < (d.size : Int)) = false := by simp
      have hE := canonB_end HDL.out HP.out
      have HE := Aside0.mk hE
      clear hE
      cases hq : (s.toList == [48]) with
      | true =>
        go_wp2
        go_ret
        exact ⟨by rw [HE.out, hq]; rfl, HB.out⟩
      | false =>
        cases he : d.toList.isEmpty with
        | true =>
          go_wp2
          go_ret
          exact ⟨by rw [HE.out, hq, he]; rfl, HB.out⟩
        | false =>
          have h0 : 0 < d.size := by
            rw [Lib.toList_data] at he
            rw [Lib.size_eq]
            cases hx : d.data.toList with
            | nil => rw [hx] at he; cases he
            | cons a b => simp
          have hz : ((d[0]'h0).toNat : Int) = ((d.data.toList.getD 0 0).toNat : Int) := by
            have hl : 0 < d.data.toList.length := by rw [← Lib.size_eq]; exact h0
            rw [List.getD_eq_getElem?_getD, List.getElem?_eq_getElem hl]
            rfl
          have HZ := Aside0.mk hz
          clear hz
          go_wp2
          go_ret
          exact ⟨by rw [HE.out, hq, he, ← HZ.out]; rfl, HB.out⟩
end Go.Proofs.YtpbbekbdpodedaaDoor
set_option linter.unusedVariables false
set_option linter.unusedSimpArgs false
namespace Go.Proofs.YtpbbekbdpodedaaDoor
open Go.RowKit Go.Proofs.YtpbbekbdpodedaaDoorW.PrintWords Go.Proofs.YtpbbekbdpodedaaDoorW.PrintLast Go.Proofs.YtpbbekbdpodedaaDoorW.PrintMore
open H

theorem clo76 (s : ByteArray) (w : World) (hlim : s.size ≤ 1000000) : Calls Tryd.prog 76 #[.string s] w fun e w' => e = .returned (.bool (!canonB s)) ∧ Below w.heap.size w w' := by
  have HX := Aside0.mk hlim
  clear hlim
  go_enter Tryd.func76, Tryd.ntmps76
  go_wp2_with (go_at_call 77; refine (canon_walk s _ HX.out).mono ?_; rintro e w2 ⟨rfl, hb⟩)
  go_ret
  exact ⟨rfl, hb⟩

/-- The first word that is not canonical, or -1. -/
def idxS (l : List ByteArray) : Int := match l.findIdx? (fun s => !canonB s) with | some i => i | none => -1
theorem idxS_none {l : List ByteArray} (h : ∀ j : Nat, j < l.length → canonB (rdOf ByteArray.empty l j) = true) : idxS l = -1 := by
  have : l.findIdx? (fun s => !canonB s) = none := by
    rw [List.findIdx?_eq_none_iff]
    intro x hx
    obtain ⟨j, hj, rfl⟩ := List.getElem_of_mem hx
    have := h j hj
    unfold rdOf at this
    rw [Int.toNat_natCast, List.getD_eq_getElem?_getD, List.getElem?_eq_getElem hj] at this
    simpa using this
  simp [idxS, this]
theorem idxS_some {l : List ByteArray} {k : Nat} (hk : k < l.length) (h : ∀ j : Nat, j < k → canonB (rdOf ByteArray.empty l j) = true) (hp : canonB (rdOf ByteArray.empty l k) = false) : idxS l = k := by
  have : l.findIdx? (fun s => !canonB s) = some k := by
    rw [List.findIdx?_eq_some_iff_getElem]
    unfold rdOf at hp
    rw [Int.toNat_natCast, List.getD_eq_getElem?_getD, List.getElem?_eq_getElem hk] at hp
    refine ⟨hk, by simpa using hp, ?_⟩
    intro j hj
    have := h j hj
    have hj' : j < l.length := by omega
    unfold rdOf at this
    rw [Int.toNat_natCast, List.getD_eq_getElem?_getD, List.getElem?_eq_getElem hj'] at this
    simpa using this
  simp [idxS, this]
theorem rdOf_mem {l : List ByteArray} {j : Nat} (h : j < l.length) : rdOf ByteArray.empty l (j : Int) ∈ l := by
  unfold rdOf
  rw [Int.toNat_natCast, List.getD_eq_getElem?_getD, List.getElem?_eq_getElem h]
  exact List.getElem_mem h

set_option maxHeartbeats 2000000 in
set_option maxRecDepth 100000 in
theorem idx76 (A0 : Option Addr) (c0 : Nat) (l : List ByteArray) (w : World) (hr : Kd.C Kd.string w A0 l.length l) (hs : ∀ s ∈ l, s.size ≤ 1000000) :
    Calls Tryd.prog 91 #[.slice A0 l.length c0, .func (.func 76) #[] #[]] w fun e w' => e = .returned (.int .i64 (idxS l)) ∧ Below w.heap.size w w' := by
  have hm : l.length ≤ 9223372036854775807 := Kd.C_max hr
  have HR := Aside0.mk hr
  have HS := Aside0.mk hs
  clear hr hs
  go_enter Tryd.func91, Tryd.ntmps91
  go_wp2
  go_loopg [8] l.length (fun kq v8 w' => ∃ i : Nat, i ≤ l.length ∧ v8 = .int .i64 i ∧ Aside0 (kq = l.length - i) ∧ Aside0 (∀ j : Nat, j < i → canonB (rdOf ByteArray.empty l j) = true) ∧ Aside0 (Below w.heap.size w w'))
  case atStart => exact ⟨0, Nat.zero_le _, rfl, ⟨rfl⟩, ⟨fun j hj => absurd hj (Nat.not_lt_zero _)⟩, ⟨Below.refl _ _⟩⟩
  case round =>
    obtain ⟨i, hi, rfl, HK, HP, HB⟩ := hrel
    by_cases hlt : i < l.length
    · obtain ⟨ad, e, hcell⟩ := Kd.at_string HR.out i (by omega) (by omega)
      subst e
      rw [Int.toNat_natCast] at hcell
      replace hcell := (HB.out.cell (World.block_lt_of_cell? w _ hcell)).trans hcell
      have hx := HS.out _ (rdOf_mem hlt)
      have HX := Aside0.mk hx
      clear hx
      cases hp : canonB (rdOf ByteArray.empty l i) with
      | true =>
        have HQ := Aside0.mk hp
        clear hp
        generalize hy : rdOf ByteArray.empty l (i : Int) = y at hcell HX HQ
        have HY := Aside0.mk hy
        clear hy
        go_wp2_with (go_at_call 76; refine (clo76 _ _ HX.out).mono ?_; rw [HQ.out]; rintro e w2 ⟨rfl, hb2⟩)
        go_roundg (l.length - (i + 1))
        case measure => have := HK.out; omega
        case rel => exact ⟨i + 1, by omega, by go_num, ⟨rfl⟩, ⟨fun j hj => by
          by_cases ej : j = i
          · subst ej
            rw [HY.out]
            exact HQ.out
          · exact HP.out j (by omega)⟩, ⟨below_step HB.out hb2⟩⟩
      | false =>
        have he : idxS l = i := idxS_some hlt HP.out hp
        have HE := Aside0.mk he
        have HQ := Aside0.mk hp
        clear hp he
        go_wp2_with (go_at_call 76; refine (clo76 _ _ HX.out).mono ?_; rw [HQ.out]; rintro e w2 ⟨rfl, hb2⟩)
        go_ret
        exact ⟨by rw [HE.out]; rfl, below_step HB.out hb2⟩
    · have he : idxS l = -1 := idxS_none (fun j hj => HP.out j (by omega))
      have HE := Aside0.mk he
      clear he
      go_wp2
      go_ret
      exact ⟨by rw [HE.out]; rfl, HB.out⟩
theorem idxS_any {l : List ByteArray} : decide (0 ≤ idxS l) = l.any (fun s => !canonB s) := by
  unfold idxS
  cases h : l.findIdx? (fun s => !canonB s) with
  | none =>
    rw [List.findIdx?_eq_none_iff] at h
    have : l.any (fun s => !canonB s) = false := by
      rw [List.any_eq_false]
      intro x hx
      simpa using h x hx
    rw [this]
    rfl
  | some i =>
    rw [List.findIdx?_eq_some_iff_getElem] at h
    obtain ⟨hi, hp, _⟩ := h
    have : l.any (fun s => !canonB s) = true := List.any_eq_true.2 ⟨_, List.getElem_mem hi, hp⟩
    rw [this]
    simp
def ContainsFunc_76.f (l0 : List ByteArray) : Option Bool := if (l0.all fun s => decide (s.size ≤ 1000000)) = true then some (l0.any fun s => !canonB s) else none
theorem ContainsFunc_76.calls (A0 : Option Addr) (c0 : Nat) (l0 : List ByteArray) (r : Bool) (w : World) (hr0 : Kd.C Kd.string w A0 l0.length l0) (hc0 : l0.length ≤ c0) (h : ContainsFunc_76.f l0 = some r) :
    Calls Tryd.prog 75 #[.slice A0 l0.length c0, .func (.func 76) #[] #[]] w fun e w' => e = .returned (.bool r) ∧ Below w.heap.size w w' := by
  unfold ContainsFunc_76.f at h
  split at h
  · rename_i hs
    obtain rfl := Option.some.inj h
    have hs' : ∀ s ∈ l0, s.size ≤ 1000000 := by
      intro s hx
      have := List.all_eq_true.1 hs s hx
      simpa using this
    have HR := Aside0.mk hr0
    have HS := Aside0.mk hs'
    clear hr0 hs' hs h
    rw [← idxS_any]
    go_enter Tryd.func75, Tryd.ntmps75
    go_wp2_with (go_at_call 91; refine (idx76 _ _ _ _ HR.out HS.out).mono ?_; rintro e w2 ⟨rfl, hb⟩)
    go_ret
    exact ⟨rfl, hb⟩
  · cases h
end Go.Proofs.YtpbbekbdpodedaaDoor
set_option linter.unusedVariables false
set_option linter.unusedSimpArgs false
namespace Go.Proofs.YtpbbekbdpodedaaDoor.PR
open Go.RowKit Go.Proofs.YtpbbekbdpodedaaDoorW.PrintWords Go.Proofs.YtpbbekbdpodedaaDoorW.PrintLast Go.Proofs.YtpbbekbdpodedaaDoorW.PrintMore
open H

/-- Atoi, where it returns no error. -/
def strconv_Atoi.f (a0 : ByteArray) : Option (Int × Option Int) := if a0.size ≤ 1000000 then (match Lib.atoiAll a0.data.toList with | .ok v => some (v, none) | _ => none) else none
theorem strconv_Atoi.calls (a0 : ByteArray) (r1 : Int) (r2 : Option Int) (w : World) (h : strconv_Atoi.f a0 = some (r1, r2)) :
    Calls Tryd.prog 78 #[.string a0] w fun e w' => e = .returned (.tuple #[.int .i64 r1, errW r2]) ∧ Below w.heap.size w w' := by
  unfold strconv_Atoi.f at h
  split at h
  · rename_i hs
    split at h
    · rename_i v hv
      cases Option.some.inj h
      refine (Tryd.strconv_Atoi_ok a0 (by omega) _ hv w).mono fun e w' ⟨he, hw⟩ => ⟨he, ?_⟩
      rcases hw with hw | ⟨t, hw⟩
      · subst hw; exact Below.refl _ _
      · subst hw; exact Lib.bytesWorld_below w 5 t
    · cases h
  · cases h
end Go.Proofs.YtpbbekbdpodedaaDoor.PR
