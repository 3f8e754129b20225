/- The law RowParses holds for every input: the walk of its text comes to one plain Lean statement, which the text PureRowParses proves; the three listed tables are tied to the program's text. -/
import Derived.Test.YtpbbekbdpodedaaDoorRows
import Derived.Test.YtpbbekbdpodedaaDoorPRZ
import Derived.Test.YtpbbekbdpodedaaDoorL2
import Derived.Test.YtpbbekbdpodedaaDoorH8
import Derived.Stop.LaidErr
import Derived.Test.YtpbbekbdpodedaaDoorPureRowParses
import Derived.Test.YtpbbekbdpodedaaDoorL0
import Derived.Test.YtpbbekbdpodedaaDoorCards
import Derived.Test.YtpbbekbdpodedaaDoorTie
import Derived.SevenTiedAt
import Derived.LaidMore
import Derived.Stop.Joined
import Derived.WalkKit
import Derived.ProofKit
import Derived.OpenShut
import Derived.ShutString
import Derived.ChangeOld
import Derived.Below
import Derived.SizedLaws
namespace Go.Proofs.YtpbbekbdpodedaaDoor
open Go Go.RowKit
theorem star144 : "*" ++ "errors.errorString" = "*errors.errorString" := by decide
theorem row144 (u : TypeId) (h : Tryd.prog.typeName? 3 u = some "*errors.errorString") : u = 144 :=
  typeName_ptr_named (nm := "errors.errorString") (by rw [star144]; kernel_rfl) (by kernel_rfl) (by decide) u (by rw [star144]; exact h)
theorem mx_of_laid7 {W : World} (hSh : W.ShapedOpen Tryd.prog) (h : laidMetH Tryd.prog laid7 W) : MXOK W := by
  rw [MakeChecks.laidMetH_plain _ _ _ (by kernel_rfl)] at h
  obtain ⟨a, s, hv, _⟩ := laid_sentinel (g := 1) h.tail.tail.tail.tail (by kernel_rfl) (by kernel_rfl) Tryd.underlying93 row144 Tryd.underlying144 Tryd.underlying146 rfl rfl Tryd.underlying9 (by kernel_rfl) (by kernel_rfl)
  exact ⟨max_of_shaped hSh, _, _, hv⟩
end Go.Proofs.YtpbbekbdpodedaaDoor
namespace Go.Proofs.YtpbbekbdpodedaaDoor.rowParses
open Go.ChangeShapes Go.WideShapes Go.ChangeAt Go.RowKit
open Go.ChangeMaps (open_string shut_string)
set_option linter.unusedVariables false
set_option maxRecDepth 100000 in
theorem lifted (os : Os) (started : os.Started) (H : Type) (enc : TypeId × Value → H) :
    ReturnsInHanded {} Tryd.checked os 12 .any (fun w args => (Rows.rowParsesSpec.pre enc Tryd.prog Tryd.f12 [] false w args ∧ laidMetH Tryd.prog laid7 w) ∧ sizedMet enc Tryd.prog Tryd.f12 (OpenSpec.ofChange Rows.rowParsesSpec) false w args) (Rows.rowParsesSpec.post enc Tryd.prog Tryd.f12 false true false false) := by
  refine returnsInHanded_of_change_and_shaped (C := Tryd.checked) (X := fun w _ => laidMetH Tryd.prog laid7 w) (fun _ _ _ hh h => h.of_heap hh) own started (by kernel_rfl) Tryd.func12
    (ChangeSpec.witness_shaped (enc := enc) (C := Tryd.checked) (os := os) (X := fun w _ => laidMetH Tryd.prog laid7 w) false (doorW os) #[.string ByteArray.empty] 8 rfl (World.shaped_of_RefB (by kernel_rfl) (by kernel_rfl)) (by kernel_rfl) (by kernel_rfl) (by kernel_rfl) (door_met7 os _)) ?_
  intro W base args ds gs before hval0 hW hcnd hsz0 hL hSh _
  have hG0_ := mx_of_laid7 hSh hL
  have hG1_ := tab_of_laid7 hL
  clear hL
  have hsz : (DataW.weightsEach Tryd.prog (Tryd.f12.params.toList ++ Rows.rowParsesSpec.plain.varTypes Tryd.prog) (ds ++ gs)).all (· ≤ reachBytes) = true := hsz0
  have hval : ∀ (j : Nat) t v, Tryd.f12.params[j]? = some t → args[j]? = some v → Value.okWide Tryd.prog W .any base t v := hval0
  have hW' := hW
  obtain ⟨p, q, hA0, hV, rfl, hfz, hnd⟩ := hW
  have hA : DataW.TrodAll enc Tryd.prog W 0 (fun _ => true) true Tryd.f12.params.toList args.toList ds p := hA0
  rw [Tryd.params12] at hA hval hsz
  obtain ⟨v0, vs0, d0, ds0, p0, q0, hargs, rfl, rfl, h0, r0⟩ := trodAll_cons hA
  obtain ⟨rfl, rfl, rfl⟩ := trodAll_nil r0
  obtain rfl : args = #[v0] := by cases args; simp_all
  obtain ⟨rfl, rfl⟩ := trodVars_none hV
  obtain ⟨a0, rfl, rfl, rfl, y0⟩ := open_string Tryd.underlying9 (hval 0 9 v0 rfl rfl) h0
  have w0 : a0.size ≤ 140737488351232 := by
    have z := sized_string hsz (j := 0) (t := 9) rfl rfl
    rw [Array.length_toList] at z
    exact z
  clear hA0 hval0 hsz0 hsz
  refine (PR.schismalaw05_RowParses.walk Pure.RowParses a0 W w0 hG0_ hG1_).mono fun e W' ⟨he, bel⟩ => ?_
  subst he
  exact ⟨_, rfl, _, _, _, [], _, [], hW', trodAll_mk1 (shut_bool Tryd.underlying4 _), (trodAll_cons_mk (shut_string Tryd.underlying9 y0) trodAll_mk0), rfl, bel.frame _, fun h => by cases h⟩
theorem over : Rows.rowParsesRow.holds Tryd.pinned (OpenSpec.ofChange Rows.rowParsesSpec) :=
  OpenClaim.holds_of_wide 12 Tryd.f12 rfl rfl rfl rfl rfl rfl rfl ⟨rfl, rfl, rfl, rfl, rfl⟩ rfl rfl rfl rfl rfl (by kernel_rfl) Tryd.func12 (by kernel_rfl)
    (of_decide_eq_true (by kernel_rfl)) (by unfold Func.isWrapper; first | (rw [if_pos (by decide +kernel)]; kernel_rfl) | (rw [if_neg (by decide +kernel)]; exact ⟨rfl, rfl⟩))
    (fun os started H enc _ => lifted os started H enc)
theorem proved : Rows.RowParsesSaid := over
#print axioms proved
end Go.Proofs.YtpbbekbdpodedaaDoor.rowParses
namespace Go.Proofs.YtpbbekbdpodedaaDoor
/-- The row, under a short name, for the claim. -/
theorem rowParses_holds : Rows.RowParsesSaid := rowParses.proved
theorem rowParses_card : Rows.RowParsesCardSaid :=
  Claim7.holds_tied_plain_at .later [] [.data, .data, .data, .data, .sentinel, .sentinel, .pinned] true (true, "d1d12daea47902a75648658943d0ef050522ad5f7a225af7ced6ed59e1e99c88") true
    rowParses_holds (fun _ h => by cases h) (by kernel_rfl) (fun _ h => by cases h) rowParses_row_tie rfl ⟨rfl, rfl⟩ (by kernel_rfl) rfl
    (fun f fn hf hfn => by
      obtain rfl : f = 12 := Option.some.inj ((show Tryd.prog.funcNamed "schisma/schismalaw05.RowParses" = some 12 by kernel_rfl).symm.trans hf) |>.symm
      obtain rfl : fn = Tryd.f12 := (Option.some.inj (Tryd.func12.symm.trans hfn)).symm
      refine ⟨by kernel_rfl, fun j t ht => ?_⟩
      rw [Tryd.params12] at ht
      have H : ∀ t ∈ ([9] : List Nat), Tryd.prog.wantsStandIn t = false := by
        intro t h
        simp only [List.mem_cons, List.mem_nil_iff, or_false] at h
        rcases h with rfl <;> kernel_rfl
      exact H t (by simpa using Array.mem_of_getElem? ht))
    (by kernel_rfl)
#print axioms rowParses_card
end Go.Proofs.YtpbbekbdpodedaaDoor
