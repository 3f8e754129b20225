import Derived.RangeFuncNested
import Derived.RangeFuncBound
import Derived.RangeFuncCalls
import Derived.RangeFuncLeaves
import Derived.RangeFuncBox
import Derived.Shelf.Abstract
import Derived.Shelf.RegionOpen
import Derived.OwnWalkIn
import Derived.TacticsInMore
import Derived.LoopNIn
import Derived.LoopIn
import Derived.OneCell
import Derived.Test.YtpbbekbdpodedaaDoorH1
import Derived.Test.YtpbbekbdpodedaaDoorI0
import Derived.Test.YtpbbekbdpodedaaDoorS0
import Derived.Test.YtpbbekbdpodedaaDoorS1
import Derived.Test.YtpbbekbdpodedaaDoorProg
import Derived.Below
import Derived.Deep.Draws
import Derived.Deep.AppendLies
import Derived.Maps.AppendAt
import Derived.OwnWalk
import Derived.Laws.BytesArg
import Derived.Laws.MakeOwn
import Derived.Laws.OwnMore
import Derived.Deep.OwnRows
import Derived.Tactics
import Derived.Lib.ConvBytes
import Derived.Laws.Slices
import Derived.WalkKit
import Derived.KernelRfl
import Derived.RowKit3
import Derived.Deep.LoopGhost
import Derived.Deep.QuietTactic
import Derived.BigQuiet
import Derived.WideLaws
import Derived.Deep.DeepCutAuto
import Derived.Deep.CutBlock
import Derived.Deep.RegionHeld3
import Derived.Laws.Rows
import Derived.Lib.AppendStr
import Derived.ArgAppend
import Derived.Laws.IdiomCopy
import Derived.OrdersHeld
import Derived.Laws.BitsLemmas
import Derived.RowKit
import Derived.Test.YtpbbekbdpodedaaDoorWWords
import Derived.Test.YtpbbekbdpodedaaDoorWLast
import Derived.Test.YtpbbekbdpodedaaDoorWTab
import Derived.Test.YtpbbekbdpodedaaDoorWFour
import Derived.Test.YtpbbekbdpodedaaDoorWQPut
import Derived.Test.YtpbbekbdpodedaaDoorWApart
import Derived.Test.YtpbbekbdpodedaaDoorWArr
import Derived.Test.YtpbbekbdpodedaaDoorWZeros
import Derived.Test.YtpbbekbdpodedaaDoorWFoot
import Derived.Test.YtpbbekbdpodedaaDoorWKept
import Derived.Test.YtpbbekbdpodedaaDoorWShare
import Derived.Test.YtpbbekbdpodedaaDoorWN
import Derived.Test.YtpbbekbdpodedaaDoorWFootNe
import Derived.Test.YtpbbekbdpodedaaDoorWAt
import Derived.Test.YtpbbekbdpodedaaDoorWEqStruct
import Derived.Test.YtpbbekbdpodedaaDoorWRepsOne
import Derived.Test.YtpbbekbdpodedaaDoorWInv
import Derived.Test.YtpbbekbdpodedaaDoorWInvWords
import Derived.Test.YtpbbekbdpodedaaDoorWGuard
import Derived.Test.YtpbbekbdpodedaaDoorWNEv
import Derived.Test.YtpbbekbdpodedaaDoorWMore
set_option linter.unusedVariables false
set_option linter.unusedSimpArgs false
namespace Go.Proofs.YtpbbekbdpodedaaDoor
open Go.RowKit Go.Shelf Go.Proofs.YtpbbekbdpodedaaDoorW.PrintWords Go.Proofs.YtpbbekbdpodedaaDoorW.PrintLast Go.Proofs.YtpbbekbdpodedaaDoorW.PrintMore
open H
attribute [local go_sem] Oper.semAt_some

theorem prs_take (xs ys : List Int) (k : Nat) (hk : k ≤ xs.length) (h : xs.length = ys.length) : prs xs ys k <+: prs xs ys xs.length := by
  obtain ⟨m, hm⟩ : ∃ m, xs.length = k + m := ⟨xs.length - k, by omega⟩
  rw [hm]
  exact ⟨(List.range m).map fun (j : Nat) => (rd xs ((k + j : Nat) : Int), rd ys ((k + j : Nat) : Int)), by simp [prs, List.range_add]⟩

/-- What Dot returns of a sum. -/
def dotN (s : Int × Int) : Int := if valB s.1 s.2 = true then valN s.1 s.2 else 0
def dotE (s : Int × Int) : Int := if valB s.1 s.2 = true then 0 else 4

/-- The iterator's contract, as the law of the loop asks it. -/
theorem pairs_stops (F : Fence) (n : Nat) (h82 : F.fn 82) (hro : F.round = none) (hn : 1 ≤ n) (Ba Bb : Nat) (A0 A1 : Option Addr) (c0 c1 : Nat) (l0 l1 : List Int) (hlen : l0.length = l1.length) (w0 : World)
    (hr0 : Kd.C (Kd.int .i64) w0 A0 l0.length l0) (hr1 : Kd.C (Kd.int .i64) w0 A1 l1.length l1) (w : World) (hb : Below w0.heap.size w0 w)
    (hA : w.heap[Ba]? = some (.cells #[.slice A0 l0.length c0] 23 (0, 0))) (hB : w.heap[Bb]? = some (.cells #[.slice A1 l1.length c1] 23 (0, 0))) :
    SeqStopsK F n Tryd.prog 82 #[.pointer (some ⟨Ba, 0, none⟩), .pointer (some ⟨Bb, 0, none⟩)] (fun x : Int × Int => #[Value.int .i64 x.1, Value.int .i64 x.2]) (KpB w0.heap.size Ba Bb) (fun ys => ys = l0.zip l1) (fun _ => True) l0.length w := fun l J Jx W hW _ _ hY h0 => by
  have hA' : W.heap[Ba]? = some (.cells #[.slice A0 l0.length c0] 23 (0, 0)) := (hW.block Ba (Array.getElem?_eq_some_iff.1 hA).1).trans hA
  have hB' : W.heap[Bb]? = some (.cells #[.slice A1 l1.length c1] 23 (0, 0)) := (hW.block Bb (Array.getElem?_eq_some_iff.1 hB).1).trans hB
  refine (pairs1_in F n h82 hro hn l Ba Bb A0 A1 c0 c1 l0 l1 hlen w0 hr0 hr1 J Jx hY W (hb.trans (hW.mono hb.size)) hA' hB' h0).mono ?_
  rintro e W' ⟨he, ⟨ys, rfl, hj⟩ | ⟨pre, _, hj⟩⟩
  · exact ⟨he, .inl ⟨_, prs_all l0 l1 hlen, hj⟩⟩
  · exact ⟨he, .inr ⟨_, trivial, hj⟩⟩

set_option maxRecDepth 100000 in
set_option maxHeartbeats 2000000 in
theorem dot_right (A0 : Option Addr) (c0 : Nat) (l0 : List Int) (A1 : Option Addr) (c1 : Nat) (l1 : List Int) (w : World) (hr0 : Kd.C (Kd.int .i64) w A0 l0.length l0) (hc0 : l0.length ≤ c0) (hr1 : Kd.C (Kd.int .i64) w A1 l1.length l1) (hc1 : l1.length ≤ c1)
    (hb : bth l0 l1 = 0) (hlen : l0.length = l1.length) (hlo : -1000000000000000000 < (sums (l0.zip l1)).2) (hhi : (sums (l0.zip l1)).2 < 1000000000000000000) :
    Calls Tryd.prog 36 #[.slice A0 l0.length c0, .slice A1 l1.length c1] w fun e w' => e = .returned (.tuple #[.int .i64 (dotN (sums (l0.zip l1))), .int .i64 (dotE (sums (l0.zip l1)))]) ∧ Below w.heap.size w w' := by
  have X := fun W (h0 : Kd.C (Kd.int .i64) W A0 l0.length l0) (h1 : Kd.C (Kd.int .i64) W A1 l1.length l1) => both_same A0 c0 l0 A1 c1 l1 W h0 hc0 h1 hc1
  rw [hb] at X
  have HX := Aside0.mk X
  have HR0 := Aside0.mk hr0
  have HR1 := Aside0.mk hr1
  have HL := Aside0.mk hlen
  have HLO := Aside0.mk hlo
  have HHI := Aside0.mk hhi
  clear X hr0 hr1 hb hlen hlo hhi hc0 hc1
  refine (callsIn_wide (n := 6)).1 ?_
  refine callsIn_of_wp_marks Tryd.func36 rfl trivial ?_ rfl
  simp only [Tryd.ntmps36, List.size_toArray, List.length_cons, List.length_nil, Nat.reduceAdd, Nat.reduceSub, Array.replicate_succ, Array.replicate_zero, List.push_toArray, List.append_toArray, List.nil_append, List.cons_append]
  gi_wp2_with (first | (refine ⟨trivial, ?_⟩; gi_at_call 60; refine (callsIn_wide.2 (HX.out _ HR0.out HR1.out)).mono ?_; rintro e w' ⟨rfl, rfl⟩) | (refine ⟨trivial, ?_⟩; gi_at_call 61; refine (pairs_in Fence.wide _ trivial rfl (.int .i64 0) (.int .i64 0) _ _ _ _ _ _ _).mono ?_; rintro e w' ⟨rfl, rfl⟩))
  have z0 : (((w.alloc (Obj.cells #[.int .i64 0, .int .i64 0] 79)).alloc (Obj.cells #[.slice A0 l0.length c0] 23)).alloc (Obj.cells #[.slice A1 l1.length c1] 23)).heap[w.heap.size]? = some (.cells #[.int .i64 0, .int .i64 0] 79 (0, 0)) := by
    rw [Below.heap_alloc _ _ _ (by simp; omega), Below.heap_alloc _ _ _ (by simp), World.alloc_heap_new]
  have z1 : (((w.alloc (Obj.cells #[.int .i64 0, .int .i64 0] 79)).alloc (Obj.cells #[.slice A0 l0.length c0] 23)).alloc (Obj.cells #[.slice A1 l1.length c1] 23)).heap[w.heap.size + 1]? = some (.cells #[.slice A0 l0.length c0] 23 (0, 0)) := by
    rw [Below.heap_alloc _ _ _ (by simp)]
    have := World.alloc_heap_new (w.alloc (Obj.cells #[.int .i64 0, .int .i64 0] 79)) (Obj.cells #[.slice A0 l0.length c0] 23)
    rwa [World.size_alloc] at this
  have z2 : (((w.alloc (Obj.cells #[.int .i64 0, .int .i64 0] 79)).alloc (Obj.cells #[.slice A0 l0.length c0] 23)).alloc (Obj.cells #[.slice A1 l1.length c1] 23)).heap[w.heap.size + 1 + 1]? = some (.cells #[.slice A1 l1.length c1] 23 (0, 0)) := by
    have := World.alloc_heap_new ((w.alloc (Obj.cells #[.int .i64 0, .int .i64 0] 79)).alloc (Obj.cells #[.slice A0 l0.length c0] 23)) (Obj.cells #[.slice A1 l1.length c1] 23)
    rwa [World.size_alloc, World.size_alloc] at this
  have zb : Below w.heap.size w (((w.alloc (Obj.cells #[.int .i64 0, .int .i64 0] 79)).alloc (Obj.cells #[.slice A0 l0.length c0] 23)).alloc (Obj.cells #[.slice A1 l1.length c1] 23)) := below_alloc (below_alloc (below_alloc (Below.refl _ _) _) _) _
  have zs : (((w.alloc (Obj.cells #[.int .i64 0, .int .i64 0] 79)).alloc (Obj.cells #[.slice A0 l0.length c0] 23)).alloc (Obj.cells #[.slice A1 l1.length c1] 23)).heap.size = w.heap.size + 3 := by simp
  generalize (((w.alloc (Obj.cells #[.int .i64 0, .int .i64 0] 79)).alloc (Obj.cells #[.slice A0 l0.length c0] 23)).alloc (Obj.cells #[.slice A1 l1.length c1] 23)) = W0 at z0 z1 z2 zb zs ⊢
  have ZS := Aside0.mk zs
  clear zs
  have Zb := Aside0.mk zb
  clear zb
  have Z0 := Aside0.mk z0
  clear z0
  refine wpIn_rangeFunc_ownG rfl (by omega) (gf := 82) (lb := #[.pointer (some ⟨w.heap.size + 1, 0, none⟩), .pointer (some ⟨w.heap.size + 1 + 1, 0, none⟩)]) rfl trivial (enters_of Tryd.func82 (by kernel_rfl) rfl)
    (pairs_stops Fence.wide (6 - 1) trivial rfl (by omega) (w.heap.size + 1) (w.heap.size + 1 + 1) A0 A1 c0 c1 l0 l1 HL.out w HR0.out HR1.out W0 Zb.out z1 z2) KpB.trans (KpB.put (by rw [ZS.out]; omega) (by rw [ZS.out]; omega) (by rw [ZS.out]; omega)) (Below.refl _ _) (fun _ => rfl)
    (fun pre W => W.heap[w.heap.size]? = some (.cells #[.int .i64 (sums pre).1, .int .i64 (sums pre).2] 79 (0, 0)) ∧ Below w.heap.size w W)
    (fun _ _ _ => False)
    (OwnFrom.and (fun s A B row hs hg hr => (hg.block _ (Array.getElem?_eq_some_iff.1 hs).1 (fun e => by have := (hr _ e.symm).1; rw [ZS.out] at this; omega)).trans hs) (ownFrom_below (Nat.le_refl _) (by rw [ZS.out]; omega)))
    (fun _ _ _ _ _ hs _ _ => hs)
    ⟨Z0.out, Zb.out⟩
    (fun x => { tmps := #[.slice A0 l0.length c0, .slice A1 l1.length c1, undef, undef, .int .i64 0, .int .i64 0, .int .i64 0, .pointer (some ⟨w.heap.size, 0, none⟩), .int .i64 x.1, .int .i64 x.2, undef, undef, .slice A0 l0.length c0, .slice A1 l1.length c1, .int .i64 0, .int .i64 0, .bool false, undef, .slice A0 l0.length c0, .slice A1 l1.length c1, .func (.func 82) #[] #[.pointer (some ⟨w.heap.size + 1, 0, none⟩), .pointer (some ⟨w.heap.size + 1 + 1, 0, none⟩)], .int .i64 x.1, .int .i64 x.2, undef, undef, undef, undef, undef, undef, undef, undef, undef, undef, undef], defers := [] }) ?assign ?body ?done ?stop
  case assign =>
    intro l x W K hK
    gi_wp2
    exact hK
  case body =>
    rintro l pre x W ⟨hc, hB⟩ _
    have HC := Aside0.mk hc
    clear hc
    gi_wp2_with (refine ⟨trivial, ?_⟩; gi_at_call 63; refine (CallsIn.inRound l (callsIn_wide.2 (sum_add_raw _ _ _ _ _ _ HC.out))).mono ?_; rintro e w' ⟨rfl, hc', hg⟩)
    have hsz : w.heap.size < W.heap.size := (Array.getElem?_eq_some_iff.1 HC.out).1
    exact ⟨KeepsFrom.of_grownBy hg (fun j e => by cases e; rw [ZS.out]; omega), ⟨(Below.refl _ W).grown hg (by omega) (fun j e => by cases e; exact Nat.le_refl _), fun hl => hg.block _ hl (fun e => by injection e with e; omega), fun hl => hg.block _ hl (fun e => by injection e with e; omega)⟩, by rw [sums_snoc]; exact hc', hB.grown hg hB.size (fun j e => by cases e; exact Nat.le_refl _)⟩
  case done =>
    rintro D ys W hD rfl ⟨hc, hB⟩ hK
    have q0 : W.cell? ⟨w.heap.size, 0, none⟩ = some (.int .i64 (sums (l0.zip l1)).1) := by simp [World.cell?, hc]
    have q1 : W.cell? ⟨w.heap.size, 1, none⟩ = some (.int .i64 (sums (l0.zip l1)).2) := by simp [World.cell?, hc]
    have hlo := HLO.out
    have hhi := HHI.out
    clear HLO HHI hc
    have HQ := Aside0.mk hK
    clear hK
    have HDD := Aside0.mk hD
    clear hD
    cases hv : valB (sums (l0.zip l1)).1 (sums (l0.zip l1)).2 with
    | true =>
      have HN := Aside0.mk (show dotN (sums (l0.zip l1)) = valN (sums (l0.zip l1)).1 (sums (l0.zip l1)).2 from by unfold dotN; rw [hv]; rfl)
      have HE := Aside0.mk (show dotE (sums (l0.zip l1)) = 0 from by unfold dotE; rw [hv]; rfl)
      have HV := Aside0.mk hv
      clear hv
      generalize (sums (l0.zip l1)).1 = hi at q0 q1 hlo hhi HN HV
      generalize (sums (l0.zip l1)).2 = lo at q0 q1 hlo hhi HN HV
      gi_wp2_with (refine ⟨trivial, ?_⟩; gi_at_call 64; refine (callsIn_wide.2 (value_any hi lo hlo hhi _)).mono ?_; rw [HV.out]; rintro e w2 ⟨rfl, hb2⟩)
      refine ⟨by simp, .inl ⟨_, _, rfl, run_takeDeferred ((hb2.block D (Array.getElem?_eq_some_iff.1 HQ.out).1).trans HQ.out), ?_⟩⟩
      have HQ2 := (hb2.block D (Array.getElem?_eq_some_iff.1 HQ.out).1).trans HQ.out
      exact ⟨_, results_tmp2 rfl _ _ _, by rw [HN.out, HE.out]; rfl, (hB.trans (hb2.mono hB.size)).trans (belowK_b (w := w) (Nat.le_refl _) w2 D _ _ (by have := HDD.out; have := ZS.out; omega) HQ2 rfl rfl)⟩
    | false =>
      have HN := Aside0.mk (show dotN (sums (l0.zip l1)) = 0 from by unfold dotN; rw [hv]; rfl)
      have HE := Aside0.mk (show dotE (sums (l0.zip l1)) = 4 from by unfold dotE; rw [hv]; rfl)
      have HV := Aside0.mk hv
      clear hv
      generalize (sums (l0.zip l1)).1 = hi at q0 q1 hlo hhi HN HV
      generalize (sums (l0.zip l1)).2 = lo at q0 q1 hlo hhi HN HV
      gi_wp2_with (refine ⟨trivial, ?_⟩; gi_at_call 64; refine (callsIn_wide.2 (value_any hi lo hlo hhi _)).mono ?_; rw [HV.out]; rintro e w2 ⟨rfl, hb2⟩)
      refine ⟨by simp, .inl ⟨_, _, rfl, run_takeDeferred ((hb2.block D (Array.getElem?_eq_some_iff.1 HQ.out).1).trans HQ.out), ?_⟩⟩
      have HQ2 := (hb2.block D (Array.getElem?_eq_some_iff.1 HQ.out).1).trans HQ.out
      exact ⟨_, results_tmp2 rfl _ _ _, by rw [HN.out, HE.out]; rfl, (hB.trans (hb2.mono hB.size)).trans (belowK_b (w := w) (Nat.le_refl _) w2 D _ _ (by have := HDD.out; have := ZS.out; omega) HQ2 rfl rfl)⟩
  case stop =>
    rintro D c pre W _ _ h _
    exact h.elim
end Go.Proofs.YtpbbekbdpodedaaDoor
