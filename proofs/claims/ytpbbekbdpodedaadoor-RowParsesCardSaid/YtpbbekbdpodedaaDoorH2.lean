import Derived.Test.YtpbbekbdpodedaaDoorH1
import Derived.Test.YtpbbekbdpodedaaDoorSh
import Derived.Lib.AppendIntMem
import Derived.Test.YtpbbekbdpodedaaDoorProg
import Derived.Below
import Derived.Deep.Draws
import Derived.Deep.AppendLies
import Derived.Maps.AppendAt
import Derived.OwnWalk
import Derived.Laws.BytesArg
import Derived.Laws.MakeOwn
import Derived.Laws.OwnMore
import Derived.Deep.OwnRows
import Derived.Tactics
import Derived.Lib.ConvBytes
import Derived.Laws.Slices
import Derived.WalkKit
import Derived.KernelRfl
import Derived.RowKit3
import Derived.Deep.LoopGhost
import Derived.Deep.QuietTactic
import Derived.BigQuiet
import Derived.WideLaws
import Derived.Deep.DeepCutAuto
import Derived.Deep.CutBlock
import Derived.Deep.RegionHeld3
import Derived.Laws.Rows
import Derived.Lib.AppendStr
import Derived.ArgAppend
import Derived.Laws.IdiomCopy
import Derived.OrdersHeld
import Derived.Laws.BitsLemmas
import Derived.RowKit
import Derived.Test.YtpbbekbdpodedaaDoorWWords
import Derived.Test.YtpbbekbdpodedaaDoorWLast
import Derived.Test.YtpbbekbdpodedaaDoorWTab
import Derived.Test.YtpbbekbdpodedaaDoorWFour
import Derived.Test.YtpbbekbdpodedaaDoorWQPut
import Derived.Test.YtpbbekbdpodedaaDoorWApart
import Derived.Test.YtpbbekbdpodedaaDoorWArr
import Derived.Test.YtpbbekbdpodedaaDoorWZeros
import Derived.Test.YtpbbekbdpodedaaDoorWFoot
import Derived.Test.YtpbbekbdpodedaaDoorWKept
import Derived.Test.YtpbbekbdpodedaaDoorWShare
import Derived.Test.YtpbbekbdpodedaaDoorWN
import Derived.Test.YtpbbekbdpodedaaDoorWFootNe
import Derived.Test.YtpbbekbdpodedaaDoorWAt
import Derived.Test.YtpbbekbdpodedaaDoorWEqStruct
import Derived.Test.YtpbbekbdpodedaaDoorWRepsOne
import Derived.Test.YtpbbekbdpodedaaDoorWInv
import Derived.Test.YtpbbekbdpodedaaDoorWInvWords
import Derived.Test.YtpbbekbdpodedaaDoorWGuard
import Derived.Test.YtpbbekbdpodedaaDoorWNEv
import Derived.Test.YtpbbekbdpodedaaDoorWMore
set_option linter.unusedVariables false
set_option linter.unusedSimpArgs false
namespace Go.Proofs.YtpbbekbdpodedaaDoor
open Go.RowKit Go.Proofs.YtpbbekbdpodedaaDoorW.PrintWords Go.Proofs.YtpbbekbdpodedaaDoorW.PrintLast Go.Proofs.YtpbbekbdpodedaaDoorW.PrintMore
open H

/-- The table of strconv's that Itoa reads lies as start-up lays it. -/
def TabOK (w : World) : Prop := Lib.TabIs Tryd.prog w "internal/strconv.uint64pow10" .u64 Lib.pow10Tab
theorem TabOK.below {w w' : World} (h : TabOK w) (hb : Below w.heap.size w w') : TabOK w' := Lib.tabBelow_of_tabIs h w' hb

theorem addr_plain {w : World} {ad : Addr} {v : Value} (h : w.cell? ad = some v) : ad = ⟨ad.block, ad.off, none⟩ := by
  obtain ⟨b, o, s⟩ := ad
  cases s with
  | none => rfl
  | some s =>
    exfalso
    unfold World.cell? at h
    simp only at h
    split at h
    · simp at h
    · cases h

def strconv_Itoa_70.f (a0 : Int) : Option ByteArray := if -9223372036854775808 ≤ a0 ∧ a0 ≤ 9223372036854775807 then some ⟨(Lib.itoa a0).toArray⟩ else none
theorem strconv_Itoa_70.calls (a0 : Int) (r : ByteArray) (w : World) (hG_tab : TabOK w) (h : strconv_Itoa_70.f a0 = some r) :
    Calls Tryd.prog 70 #[.int .i64 a0] w fun e w' => e = .returned (.string r) ∧ Below w.heap.size w w' := by
  unfold strconv_Itoa_70.f at h
  split at h
  · rename_i hb
    obtain rfl := Option.some.inj h
    exact (Tryd.strconv_Itoa a0 hb.1 hb.2 w hG_tab).mono fun e w' ⟨he, k, os, hw⟩ => ⟨he, by subst hw; exact Lib.below_grow _ _ (Nat.le_refl _) _ _⟩
  · cases h

def strings_Join.f (l0 : List ByteArray) (a1 : ByteArray) : Option ByteArray :=
  if l0.length ≤ 140737488355328 ∧ (Lib.join (l0.map (·.data.toList)) a1.data.toList).length ≤ 140737488355328 then some ⟨(Lib.join (l0.map (·.data.toList)) a1.data.toList).toArray⟩ else none
theorem strings_Join.calls (A0 : Option Addr) (c0 : Nat) (l0 : List ByteArray) (a1 : ByteArray) (r : ByteArray) (w : World) (hr0 : Kd.C Kd.string w A0 l0.length l0) (hc0 : l0.length ≤ c0) (h : strings_Join.f l0 a1 = some r) :
    Calls Tryd.prog 71 #[.slice A0 l0.length c0, .string a1] w fun e w' => e = .returned (.string r) ∧ Below w.heap.size w w' := by
  unfold strings_Join.f at h
  split at h
  · rename_i hb
    obtain rfl := Option.some.inj h
    by_cases h0 : l0 = []
    · subst h0
      exact (Tryd.strings_Join_none A0 c0 a1 w).mono fun e w' ⟨he, hw⟩ => ⟨he, by subst hw; exact Below.refl _ _⟩
    · have hpos : 0 < l0.length := List.length_pos_iff.2 h0
      obtain ⟨ad, rfl, h0c⟩ := Kd.at_string hr0 0 (by omega) (by omega)
      have hall : ∀ j : Nat, j < l0.length → w.cell? (ad.add j) = some (.string (rdOf ByteArray.empty l0 j)) := by
        intro j hj
        obtain ⟨ad', e', hc'⟩ := Kd.at_string hr0 j (by omega) (by omega)
        cases e'
        exact hc'
      have hpl : ad = ⟨ad.block, ad.off, none⟩ := addr_plain (show w.cell? ad = _ from h0c)
      generalize ad.block = bk at hpl
      generalize ad.off = o at hpl
      subst hpl
      have hcells : ∀ (j : Nat) x, l0[j]? = some x → w.cell? ⟨bk, o + j, none⟩ = some (.string x) := by
        intro j x hx
        obtain ⟨hj, hx⟩ := List.getElem?_eq_some_iff.1 hx
        have := hall j hj
        have ha : (⟨bk, o, none⟩ : Addr).add j = ⟨bk, o + j, none⟩ := by unfold Addr.add; split <;> simp_all
        rw [ha] at this
        rw [this]
        simp [rdOf, List.getD_eq_getElem?_getD, List.getElem?_eq_getElem hj, hx]
      have hbk : bk < w.heap.size := World.block_lt_of_cell? w ⟨bk, o, none⟩ (hcells 0 (l0[0]'hpos) (by simp))
      exact Tryd.strings_Join bk o c0 l0 a1 w hcells hbk hb.1 hc0 hb.2
  · cases h

def IndexFunc_58.f (l0 : List Int) : Option Int := some (idx nzB l0)
theorem IndexFunc_58.calls (A0 : Option Addr) (c0 : Nat) (l0 : List Int) (r : Int) (w : World) (hr0 : Kd.C (Kd.int .i64) w A0 l0.length l0) (hc0 : l0.length ≤ c0) (h : IndexFunc_58.f l0 = some r) :
    Calls Tryd.prog 57 #[.slice A0 l0.length c0, .func (.func 58) #[] #[]] w fun e w' => e = .returned (.int .i64 r) ∧ Drawn0 w w' := by
  obtain rfl := Option.some.inj h
  exact (idx58 A0 c0 l0 w hr0).mono fun e w' ⟨he, hw⟩ => ⟨he, Drawn0.of_eq hw⟩
end Go.Proofs.YtpbbekbdpodedaaDoor
