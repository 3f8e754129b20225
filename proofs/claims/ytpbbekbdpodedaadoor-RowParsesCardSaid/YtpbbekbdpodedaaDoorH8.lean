import Derived.Test.YtpbbekbdpodedaaDoorH4
set_option linter.unusedVariables false
set_option linter.unusedSimpArgs false
namespace Go.Proofs.YtpbbekbdpodedaaDoor
open Go.RowKit Go.Proofs.YtpbbekbdpodedaaDoorW.PrintWords Go.Proofs.YtpbbekbdpodedaaDoorW.PrintLast Go.Proofs.YtpbbekbdpodedaaDoorW.PrintMore
open H
/-- strconv.ErrRange holds an error that is not nil; and MaxOK. -/
def RngOK (w : World) : Prop := ∃ tp p, w.var? Tryd.prog "strconv.ErrRange" = some #[.iface tp p]
theorem var_below {w w' : World} {n : String} {cs : Array Value} (h : w.var? Tryd.prog n = some cs) (hb : Below w.heap.size w w') : w'.var? Tryd.prog n = some cs := by
  unfold World.var? at h ⊢
  cases hg : Tryd.prog.globalNamed n with
  | none => simp [hg] at h
  | some g =>
    simp only [hg, Option.bind_some] at h ⊢
    have hlt : g < w.heap.size := by
      rcases Nat.lt_or_ge g w.heap.size with h' | h'
      · exact h'
      · simp [Array.getElem?_eq_none h'] at h
    rw [hb.block g hlt]
    exact h
def MXOK (w : World) : Prop := MaxOK w ∧ RngOK w
theorem MXOK.below {w w' : World} (h : MXOK w) (hb : Below w.heap.size w w') : MXOK w' := by
  obtain ⟨h1, tp, p, h2⟩ := h
  exact ⟨h1.below hb, tp, p, var_below h2 hb⟩
end Go.Proofs.YtpbbekbdpodedaaDoor
namespace Go.Proofs.YtpbbekbdpodedaaDoor.PR
open Go.RowKit Go.Proofs.YtpbbekbdpodedaaDoorW.PrintWords Go.Proofs.YtpbbekbdpodedaaDoorW.PrintLast Go.Proofs.YtpbbekbdpodedaaDoorW.PrintMore
open H
/-- Atoi, at every text that is a number. -/
def strconv_AtoiE.f (a0 : ByteArray) : Option (Int × Option Int) := if a0.size ≤ 1000000 then (match Lib.atoiAll a0.data.toList with | .ok v => some (v, none) | .range => some (Lib.atoiSat a0.data.toList, some 0) | _ => none) else none
theorem strconv_AtoiE.calls0 (a0 : ByteArray) (r1 : Int) (w : World) (h : strconv_AtoiE.f a0 = some (r1, none)) :
    Calls Tryd.prog 78 #[.string a0] w fun e w' => e = .returned (.tuple #[.int .i64 r1, errW none]) ∧ Below w.heap.size w w' := by
  unfold strconv_AtoiE.f at h
  split at h
  · rename_i hs
    split at h
    · rename_i v hv
      cases Option.some.inj h
      refine (Tryd.strconv_Atoi_ok a0 (by omega) _ hv w).mono fun e w' ⟨he, hw⟩ => ⟨he, ?_⟩
      rcases hw with hw | ⟨t, hw⟩
      · subst hw; exact Below.refl _ _
      · subst hw; exact Lib.bytesWorld_below w 5 t
    · cases Option.some.inj h
    · cases h
  · cases h
theorem strconv_AtoiE.calls1 (a0 : ByteArray) (r1 : Int) (q : Int) (w : World) (hG_max : MXOK w) (h : strconv_AtoiE.f a0 = some (r1, some q)) :
    Calls Tryd.prog 78 #[.string a0] w fun e w' => ∃ N, e = .returned (.tuple #[.int .i64 r1, .iface 115 (.pointer (some ⟨N, 0, none⟩))]) ∧ Below w.heap.size w w' := by
  obtain ⟨_, tp, p, hv⟩ := hG_max
  unfold strconv_AtoiE.f at h
  split at h
  · rename_i hs
    split at h
    · cases Option.some.inj h
    · rename_i hr
      cases Option.some.inj h
      refine (Tryd.strconv_Atoi_range_var a0 (by omega) hr tp p w hv).mono fun e w' ⟨N, he, _, _, hb⟩ => ⟨N, he, hb⟩
    · cases h
  · cases h
end Go.Proofs.YtpbbekbdpodedaaDoor.PR
