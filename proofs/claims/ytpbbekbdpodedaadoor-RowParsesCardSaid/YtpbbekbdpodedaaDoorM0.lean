import Derived.Test.YtpbbekbdpodedaaDoorProg
import Derived.Below
import Derived.Deep.Draws
import Derived.Deep.AppendLies
import Derived.Maps.AppendAt
import Derived.OwnWalk
import Derived.Laws.BytesArg
import Derived.Laws.MakeOwn
import Derived.Laws.OwnMore
import Derived.Deep.OwnRows
import Derived.Tactics
import Derived.Lib.ConvBytes
import Derived.Laws.Slices
import Derived.WalkKit
import Derived.KernelRfl
import Derived.RowKit3
import Derived.Deep.LoopGhost
import Derived.Deep.QuietTactic
import Derived.BigQuiet
import Derived.WideLaws
import Derived.Deep.DeepCutAuto
import Derived.Deep.CutBlock
import Derived.Deep.RegionHeld3
import Derived.Laws.Rows
import Derived.Lib.AppendStr
import Derived.ArgAppend
import Derived.Laws.IdiomCopy
import Derived.OrdersHeld
import Derived.Laws.BitsLemmas
import Derived.RowKit
import Derived.Test.YtpbbekbdpodedaaDoorWWords
import Derived.Test.YtpbbekbdpodedaaDoorWLast
import Derived.Test.YtpbbekbdpodedaaDoorWTab
import Derived.Test.YtpbbekbdpodedaaDoorWFour
import Derived.Test.YtpbbekbdpodedaaDoorWQPut
import Derived.Test.YtpbbekbdpodedaaDoorWApart
import Derived.Test.YtpbbekbdpodedaaDoorWArr
import Derived.Test.YtpbbekbdpodedaaDoorWZeros
import Derived.Test.YtpbbekbdpodedaaDoorWFoot
import Derived.Test.YtpbbekbdpodedaaDoorWKept
import Derived.Test.YtpbbekbdpodedaaDoorWShare
import Derived.Test.YtpbbekbdpodedaaDoorWN
import Derived.Test.YtpbbekbdpodedaaDoorWFootNe
import Derived.Test.YtpbbekbdpodedaaDoorWAt
import Derived.Test.YtpbbekbdpodedaaDoorWEqStruct
import Derived.Test.YtpbbekbdpodedaaDoorWRepsOne
import Derived.Test.YtpbbekbdpodedaaDoorWInv
import Derived.Test.YtpbbekbdpodedaaDoorWInvWords
import Derived.Test.YtpbbekbdpodedaaDoorWGuard
import Derived.Test.YtpbbekbdpodedaaDoorWNEv
import Derived.Test.YtpbbekbdpodedaaDoorWMore
set_option linter.unusedVariables false
set_option linter.unusedSimpArgs false
namespace Go.Proofs.YtpbbekbdpodedaaDoor.Kd0
open Go.RowKit Go.Proofs.YtpbbekbdpodedaaDoorW.PrintWords Go.Proofs.YtpbbekbdpodedaaDoorW.PrintLast Go.Proofs.YtpbbekbdpodedaaDoorW.PrintMore
open Go.Proofs.YtpbbekbdpodedaaDoorW.PrintWords.Kd
variable {P : Program} {ops : Array Oper} {Q : Exit → Act → World → Prop} {rest : List Oper} {a : Act} {o : Oper} {α : Type}

/-- 'make([]T, 0, n)': an empty row of the call's own, with room. -/
theorem R_make0 (d : Kd α) {w0 W : World} (base e : Nat) (hgd : o.guard = none) {N : Tmp} (hd : o.dst = some N) (t : TypeId) (x y : Operand) (ho : o.op = .makeSlice t x y) (n : Int) (hx : a.eval x = .int .i64 0) (hy : a.eval y = .int .i64 n)
    (ht : P.underlying t = some (.slice e)) (z : Value) (bytes : Nat) (hinfo : (P.info? e).map (fun i => (i.zero, i.size, i.bytes)) = some (some z, d.sz, bytes)) (hz : z.cells.size = d.sz) (hs0 : 0 < d.sz) (hb0 : 0 < bytes)
    {ok : Nat → Prop} (hfresh : ok W.heap.size) (h0 : 0 ≤ n) (hl : n.toNat * bytes ≤ 281474976710656) (HB : Below base w0 W) (hbase : base ≤ W.heap.size)
    (h : ∀ v1 w1, d.R e w1 base ok v1 [] → Below base w0 w1 → W.grownBy w1 none → (∃ b, v1.ownBlock = some b ∧ W.heap.size ≤ b) → wpList P ops Q rest (a.put o.dst v1) w1) : wpList P ops Q (o :: rest) a W := by
  obtain ⟨m, rfl⟩ := Int.eq_ofNat_of_zero_le h0
  simp only [Int.toNat_natCast] at hl
  obtain ⟨i0, hi, hzz⟩ := Option.map_eq_some_iff.1 hinfo
  simp only [Prod.mk.injEq] at hzz
  obtain ⟨hz0, hz1, hz2⟩ := hzz
  have hm : m ≤ 281474976710656 := Nat.le_trans (Nat.le_mul_of_pos_right _ hb0) hl
  have hr := run_make (P := P) W t e i0 z ht hi hz0 .i64 .i64 (0 : Int) (m : Int) (by omega) (by omega)
    (by
      have h3 : ((i0.bytes * m : Nat) : Int) ≤ 281474976710656 := by rw [hz2, Nat.mul_comm]; omega
      rwa [Int.natCast_mul] at h3) (by omega)
  simp only [Int.toNat_natCast, Int.toNat_zero] at hr
  rw [hz1] at hr
  refine event_run hgd (show (execOp a.eval o).run P W = .ok (.value (.slice (some ⟨W.heap.size, 0, none⟩) 0 m)) (W.alloc (.cells (madeCells z.cells (m * d.sz)) e)) from by simp [execOp, ho, hx, hy, hr])
    (h _ _ ⟨fun k hk => ?_, [], ?_, ?_⟩ (HB.alloc hbase _) (World.grownBy_alloc W _ none) ⟨W.heap.size, by simp [Value.ownBlock], Nat.le_refl _⟩)
  · have : W.heap.size = k := by simpa [Value.ownBlock] using hk
    subst this
    exact hfresh
  · exact World.ownsRow_made W _ m hbase (by simp only [maxLen]; omega) (size_madeCells _ _)
  · exact Reps.none _ _
theorem S_make0 (d : Kd α) {w0 W : World} (base e : Nat) (hgd : o.guard = none) {N : Tmp} (hd : o.dst = some N) (t : TypeId) (x y : Operand) (ho : o.op = .makeSlice t x y) (n : Int) (hx : a.eval x = .int .i64 0) (hy : a.eval y = .int .i64 n)
    (ht : P.underlying t = some (.slice e)) (z : Value) (bytes : Nat) (hinfo : (P.info? e).map (fun i => (i.zero, i.size, i.bytes)) = some (some z, d.sz, bytes)) (hz : z.cells.size = d.sz) (hs0 : 0 < d.sz) (hb0 : 0 < bytes)
    {ok : Nat → Prop} (hfresh : ok W.heap.size) (h0 : 0 ≤ n) (hl : n.toNat * bytes ≤ 281474976710656) (HB : Below base w0 W) (hbase : base ≤ W.heap.size)
    (h : ∀ v1 w1, S d e w1 base ok v1 [] → Below base w0 w1 → W.grownBy w1 none → (∃ b, v1.ownBlock = some b ∧ W.heap.size ≤ b) → wpList P ops Q rest (a.put o.dst v1) w1) : wpList P ops Q (o :: rest) a W :=
  R_make0 (bare d) base e hgd hd t x y ho n hx hy ht z bytes hinfo hz hs0 hb0 (ok := ok) hfresh h0 hl HB hbase (fun v1 w1 hr => h v1 w1 (S_bare hr))
theorem N_make0 (d : Kd α) {w0 W : World} (base e : Nat) (hgd : o.guard = none) {N' : Tmp} (hd : o.dst = some N') (t : TypeId) (x y : Operand) (ho : o.op = .makeSlice t x y) (n : Int) (hx : a.eval x = .int .i64 0) (hy : a.eval y = .int .i64 n)
    (ht : P.underlying t = some (.slice e)) (z : Value) (bytes : Nat) (hinfo : (P.info? e).map (fun i => (i.zero, i.size, i.bytes)) = some (some z, d.sz, bytes)) (hz : z.cells.size = d.sz) (hs0 : 0 < d.sz) (hb0 : 0 < bytes)
    {ok : Nat → Prop} (hfresh : ok W.heap.size) (h0 : 0 ≤ n) (hl : n.toNat * bytes ≤ 281474976710656) (HB : Below base w0 W) (hbase : base ≤ W.heap.size)
    (h : ∀ v1 w1, N d e w1 base ok v1 [] → Below base w0 w1 → W.grownBy w1 none → (∃ b, v1.ownBlock = some b ∧ W.heap.size ≤ b) → wpList P ops Q rest (a.put o.dst v1) w1) : wpList P ops Q (o :: rest) a W := by
  refine R_make0 (raw d.sz) base e hgd hd t x y ho n hx hy ht z bytes hinfo hz hs0 hb0 (ok := fun k => k = W.heap.size) rfl h0 hl HB hbase ?_
  intro v1 w1 hr hb hg hat
  exact h v1 w1 (N_made hr hg hat rfl (okp := fun _ => False) (fun j y c hy hc => by simp at hy) (fun _ hk => hk.elim) hfresh) hb hg hat
end Go.Proofs.YtpbbekbdpodedaaDoor.Kd0
