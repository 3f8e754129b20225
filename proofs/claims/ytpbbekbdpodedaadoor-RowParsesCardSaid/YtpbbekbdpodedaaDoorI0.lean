import Derived.RangeFuncNested
import Derived.RangeFuncBound
import Derived.RangeFuncCalls
import Derived.RangeFuncLeaves
import Derived.RangeFuncBox
import Derived.Shelf.Abstract
import Derived.Shelf.RegionOpen
import Derived.OwnWalkIn
import Derived.TacticsInMore
import Derived.LoopNIn
import Derived.LoopIn
import Derived.OneCell
import Derived.Test.YtpbbekbdpodedaaDoorProg
import Derived.Below
import Derived.Deep.Draws
import Derived.Deep.AppendLies
import Derived.Maps.AppendAt
import Derived.OwnWalk
import Derived.Laws.BytesArg
import Derived.Laws.MakeOwn
import Derived.Laws.OwnMore
import Derived.Deep.OwnRows
import Derived.Tactics
import Derived.Lib.ConvBytes
import Derived.Laws.Slices
import Derived.WalkKit
import Derived.KernelRfl
import Derived.RowKit3
import Derived.Deep.LoopGhost
import Derived.Deep.QuietTactic
import Derived.BigQuiet
import Derived.WideLaws
import Derived.Deep.DeepCutAuto
import Derived.Deep.CutBlock
import Derived.Deep.RegionHeld3
import Derived.Laws.Rows
import Derived.Lib.AppendStr
import Derived.ArgAppend
import Derived.Laws.IdiomCopy
import Derived.OrdersHeld
import Derived.Laws.BitsLemmas
import Derived.RowKit
import Derived.Test.YtpbbekbdpodedaaDoorWWords
import Derived.Test.YtpbbekbdpodedaaDoorWLast
import Derived.Test.YtpbbekbdpodedaaDoorWTab
import Derived.Test.YtpbbekbdpodedaaDoorWFour
import Derived.Test.YtpbbekbdpodedaaDoorWQPut
import Derived.Test.YtpbbekbdpodedaaDoorWApart
import Derived.Test.YtpbbekbdpodedaaDoorWArr
import Derived.Test.YtpbbekbdpodedaaDoorWZeros
import Derived.Test.YtpbbekbdpodedaaDoorWFoot
import Derived.Test.YtpbbekbdpodedaaDoorWKept
import Derived.Test.YtpbbekbdpodedaaDoorWShare
import Derived.Test.YtpbbekbdpodedaaDoorWN
import Derived.Test.YtpbbekbdpodedaaDoorWFootNe
import Derived.Test.YtpbbekbdpodedaaDoorWAt
import Derived.Test.YtpbbekbdpodedaaDoorWEqStruct
import Derived.Test.YtpbbekbdpodedaaDoorWRepsOne
import Derived.Test.YtpbbekbdpodedaaDoorWInv
import Derived.Test.YtpbbekbdpodedaaDoorWInvWords
import Derived.Test.YtpbbekbdpodedaaDoorWGuard
import Derived.Test.YtpbbekbdpodedaaDoorWNEv
import Derived.Test.YtpbbekbdpodedaaDoorWMore
set_option linter.unusedVariables false
set_option linter.unusedSimpArgs false
namespace Go.Proofs.YtpbbekbdpodedaaDoor
open Go.RowKit Go.Shelf Go.Proofs.YtpbbekbdpodedaaDoorW.PrintWords Go.Proofs.YtpbbekbdpodedaaDoorW.PrintLast Go.Proofs.YtpbbekbdpodedaaDoorW.PrintMore
attribute [local go_sem] Oper.semAt_some

/-- What a round of a loop over the pairs of two rows keeps: all below n₀, and the two boxes. -/
structure KpB (n₀ Ba Bb : Nat) (W W' : World) : Prop where
  bel : Below n₀ W W'
  a : Ba < W.heap.size → W'.heap[Ba]? = W.heap[Ba]?
  b : Bb < W.heap.size → W'.heap[Bb]? = W.heap[Bb]?
theorem KpB.refl {n₀ Ba Bb : Nat} (W : World) : KpB n₀ Ba Bb W W := ⟨Below.refl _ _, fun _ => rfl, fun _ => rfl⟩
theorem KpB.trans {n₀ Ba Bb : Nat} {A B C : World} (h : KpB n₀ Ba Bb A B) (k : KpB n₀ Ba Bb B C) : KpB n₀ Ba Bb A C := ⟨h.bel.trans k.bel, fun hl => (k.a (Nat.lt_of_lt_of_le hl h.bel.size)).trans (h.a hl), fun hl => (k.b (Nat.lt_of_lt_of_le hl h.bel.size)).trans (h.b hl)⟩
theorem KpB.put {n₀ Ba Bb : Nat} {w : World} (hn : n₀ ≤ w.heap.size) (hA : Ba < w.heap.size) (hB : Bb < w.heap.size) (W : World) (l : Nat) (o o' : Obj) (hl : w.heap.size ≤ l) (h : W.heap[l]? = some o) (h1 : o.isCells = false) (h2 : o.isWalk = false) : KpB n₀ Ba Bb W (W.putObj l o') :=
  ⟨belowK_b hn W l o o' hl h h1 h2, fun _ => World.putObj_heap_other (by omega), fun _ => World.putObj_heap_other (by omega)⟩
/-- The first k pairs. -/
def prs (xs ys : List Int) (k : Nat) : List (Int × Int) := (List.range k).map fun (j : Nat) => (rd xs (j : Int), rd ys (j : Int))
theorem prs_succ (xs ys : List Int) (k : Nat) : prs xs ys (k + 1) = prs xs ys k ++ [(rd xs k, rd ys k)] := by simp [prs, List.range_succ]
theorem prs_length (xs ys : List Int) (k : Nat) : (prs xs ys k).length = k := by simp [prs]
theorem prs_all (xs ys : List Int) (h : xs.length = ys.length) : prs xs ys xs.length = xs.zip ys := by
  apply List.ext_getElem
  · simp [prs, h]
  · intro i h1 h2
    have hx : i < xs.length := by simp [prs] at h1; exact h1
    have hy : i < ys.length := by omega
    simp [prs, rd, List.getD_eq_getElem?_getD, hx, hy]

set_option maxHeartbeats 1000000 in
/-- row.pairs: the two rows are boxed; the function value captures the boxes. -/
theorem pairs_in (F : Fence) (n : Nat) (h61 : F.fn 61) (hro : F.round = none) (va vb : Value) (A0 A1 : Option Addr) (n0 c0 n1 c1 : Nat) (w : World) :
    CallsIn F n Tryd.prog 61 #[.slice A0 n0 c0, .slice A1 n1 c1] w fun e w' => e = .returned (.func (.func 82) #[] #[.pointer (some ⟨w.heap.size, 0, none⟩), .pointer (some ⟨w.heap.size + 1, 0, none⟩)]) ∧
      w' = (w.alloc (.cells #[.slice A0 n0 c0] 23)).alloc (.cells #[.slice A1 n1 c1] 23) := by
  refine callsIn_of_wp Tryd.func61 rfl h61 ?_ hro
  simp only [Tryd.ntmps61, List.size_toArray, List.length_cons, List.length_nil, Nat.reduceAdd, Nat.reduceSub, Array.replicate_succ, Array.replicate_zero, List.push_toArray, List.append_toArray, List.nil_append, List.cons_append]
  gi_wp2
  go_ret
  exact ⟨rfl, rfl⟩

set_option maxRecDepth 100000 in
set_option maxHeartbeats 2000000 in
theorem pairs1_in (F : Fence) (n : Nat) (h82 : F.fn 82) (hro : F.round = none) (hn : 1 ≤ n) (l Ba Bb : Nat) (A0 A1 : Option Addr) (c0 c1 : Nat) (l0 l1 : List Int) (hlen : l0.length = l1.length) (w0 : World)
    (hr0 : Kd.C (Kd.int .i64) w0 A0 l0.length l0) (hr1 : Kd.C (Kd.int .i64) w0 A1 l1.length l1) (J Jx : List (Int × Int) → World → Prop)
    (hY : ∀ pre x W, J pre W → pre.length < l0.length → YieldAt F (n - 1) Tryd.prog l #[.int .i64 x.1, .int .i64 x.2] W fun e W' =>
      (e = .returned (.bool true) ∧ J (pre ++ [x]) W' ∧ KpB w0.heap.size Ba Bb W W') ∨ (e = .returned (.bool false) ∧ Jx (pre ++ [x]) W'))
    (W : World) (hW : Below w0.heap.size w0 W) (hA : W.heap[Ba]? = some (.cells #[.slice A0 l0.length c0] 23 (0, 0))) (hB : W.heap[Bb]? = some (.cells #[.slice A1 l1.length c1] 23 (0, 0))) (h0 : J [] W) :
    CallsIn F n Tryd.prog 82 #[.func (.yield l) #[] #[], .pointer (some ⟨Ba, 0, none⟩), .pointer (some ⟨Bb, 0, none⟩)] W fun e W' => (∃ v, e = .returned v) ∧
      ((∃ ys, ys = prs l0 l1 l0.length ∧ J ys W') ∨ (∃ pre, (∃ k, k ≤ l0.length ∧ pre = prs l0 l1 k) ∧ Jx pre W')) := by
  have hm : l0.length ≤ 9223372036854775807 := Kd.C_max hr0
  have cA : W.cell? ⟨Ba, 0, none⟩ = some (.slice A0 l0.length c0) := cell_of_one hA
  have HL := Aside0.mk hlen
  clear hlen
  have HR0 := Aside0.mk hr0
  have HR1 := Aside0.mk hr1
  have HA := Aside0.mk hA
  have HB := Aside0.mk hB
  have HY := Aside0.mk hY
  clear hr0 hr1 hA hB hY
  refine callsIn_of_wp Tryd.func82 rfl h82 ?_ hro
  simp only [Tryd.ntmps82, List.size_toArray, List.length_cons, List.length_nil, Nat.reduceAdd, Nat.reduceSub, Array.replicate_succ, Array.replicate_zero, List.push_toArray, List.append_toArray, List.nil_append, List.cons_append]
  gi_wp2
  gi_loopw [8] (fun i wr => ∃ k : Nat, k ≤ l0.length ∧ i = .int .i64 k ∧ J (prs l0 l1 k) wr ∧ KpB w0.heap.size Ba Bb W wr)
    (fun i _ => l0.length - (intOf i).toNat)
  case atStart => exact ⟨0, Nat.zero_le _, rfl, h0, KpB.refl _⟩
  case round =>
    obtain ⟨k, hk, rfl, hJs, hnx⟩ := hrel
    by_cases hlt : k < l0.length
    · have hlt1 : k < l1.length := by have := HL.out; omega
      have hbw := hW.trans hnx.bel
      obtain ⟨ad0, e0, hc0⟩ := Kd.at_int (Kd.C_below HR0.out hbw) k (by omega) (by omega)
      obtain ⟨ad1, e1, hc1⟩ := Kd.at_int (Kd.C_below HR1.out hbw) k (by omega) (by omega)
      subst e0
      subst e1
      rw [Int.toNat_natCast] at hc0 hc1
      have cB : wr.cell? ⟨Bb, 0, none⟩ = some (.slice (some ad1) l1.length c1) := cell_of_one ((hnx.b (Array.getElem?_eq_some_iff.1 HB.out).1).trans HB.out)
      obtain ⟨fn, tmps, assign, body, hy, hR⟩ := HY.out _ (rd l0 k, rd l1 k) wr hJs (by rw [prs_length]; exact hlt)
      dsimp only at hy
      have HN := Aside0.mk hnx
      have HJ := Aside0.mk hJs
      clear hnx hJs hbw
      have HE := Aside0.mk (prs_succ l0 l1 k).symm
      generalize rd l0 k = x at hc0 hy hR HE
      generalize rd l1 k = y at hc1 hy hR HE
      have hE : prs l0 l1 k ++ [(x, y)] = prs l0 l1 (k + 1) := HE.out
      have HE2 := Aside0.mk hE
      clear hE
      gi_wp2
      refine hR.mono ?_
      rintro e W3 (⟨rfl, hJ3, hk3⟩ | ⟨rfl, hJx3⟩)
      · rw [HE2.out] at hJ3
        gi_wp2
        go_roundw
        case rel => exact ⟨k + 1, by omega, by simp, hJ3, HN.out.trans hk3⟩
        case measure => simp [intOf]; omega
      · rw [HE2.out] at hJx3
        gi_wp2
        refine bodyPost_ret (results_none rfl _ _ _) rfl ?_
        exact ⟨⟨_, rfl⟩, .inr ⟨_, ⟨k + 1, by omega, rfl⟩, hJx3⟩⟩
    · obtain rfl : k = l0.length := by omega
      gi_wp2
      go_end0
      exact ⟨⟨_, rfl⟩, .inl ⟨_, rfl, hJs⟩⟩
end Go.Proofs.YtpbbekbdpodedaaDoor
