import Derived.RangeFuncNested
import Derived.RangeFuncBound
import Derived.RangeFuncCalls
import Derived.RangeFuncLeaves
import Derived.RangeFuncBox
import Derived.Shelf.Abstract
import Derived.Shelf.RegionOpen
import Derived.OwnWalkIn
import Derived.TacticsInMore
import Derived.LoopNIn
import Derived.LoopIn
import Derived.OneCell
import Derived.Test.YtpbbekbdpodedaaDoorH1
import Derived.Test.YtpbbekbdpodedaaDoorI0
import Derived.Test.YtpbbekbdpodedaaDoorS0
import Derived.Test.YtpbbekbdpodedaaDoorS1
import Derived.Test.YtpbbekbdpodedaaDoorD0
import Derived.Test.YtpbbekbdpodedaaDoorProg
import Derived.Below
import Derived.Deep.Draws
import Derived.Deep.AppendLies
import Derived.Maps.AppendAt
import Derived.OwnWalk
import Derived.Laws.BytesArg
import Derived.Laws.MakeOwn
import Derived.Laws.OwnMore
import Derived.Deep.OwnRows
import Derived.Tactics
import Derived.Lib.ConvBytes
import Derived.Laws.Slices
import Derived.WalkKit
import Derived.KernelRfl
import Derived.RowKit3
import Derived.Deep.LoopGhost
import Derived.Deep.QuietTactic
import Derived.BigQuiet
import Derived.WideLaws
import Derived.Deep.DeepCutAuto
import Derived.Deep.CutBlock
import Derived.Deep.RegionHeld3
import Derived.Laws.Rows
import Derived.Lib.AppendStr
import Derived.ArgAppend
import Derived.Laws.IdiomCopy
import Derived.OrdersHeld
import Derived.Laws.BitsLemmas
import Derived.RowKit
import Derived.Test.YtpbbekbdpodedaaDoorWWords
import Derived.Test.YtpbbekbdpodedaaDoorWLast
import Derived.Test.YtpbbekbdpodedaaDoorWTab
import Derived.Test.YtpbbekbdpodedaaDoorWFour
import Derived.Test.YtpbbekbdpodedaaDoorWQPut
import Derived.Test.YtpbbekbdpodedaaDoorWApart
import Derived.Test.YtpbbekbdpodedaaDoorWArr
import Derived.Test.YtpbbekbdpodedaaDoorWZeros
import Derived.Test.YtpbbekbdpodedaaDoorWFoot
import Derived.Test.YtpbbekbdpodedaaDoorWKept
import Derived.Test.YtpbbekbdpodedaaDoorWShare
import Derived.Test.YtpbbekbdpodedaaDoorWN
import Derived.Test.YtpbbekbdpodedaaDoorWFootNe
import Derived.Test.YtpbbekbdpodedaaDoorWAt
import Derived.Test.YtpbbekbdpodedaaDoorWEqStruct
import Derived.Test.YtpbbekbdpodedaaDoorWRepsOne
import Derived.Test.YtpbbekbdpodedaaDoorWInv
import Derived.Test.YtpbbekbdpodedaaDoorWInvWords
import Derived.Test.YtpbbekbdpodedaaDoorWGuard
import Derived.Test.YtpbbekbdpodedaaDoorWNEv
import Derived.Test.YtpbbekbdpodedaaDoorWMore
set_option linter.unusedVariables false
set_option linter.unusedSimpArgs false
namespace Go.Proofs.YtpbbekbdpodedaaDoor
open Go.RowKit Go.Shelf Go.Proofs.YtpbbekbdpodedaaDoorW.PrintWords Go.Proofs.YtpbbekbdpodedaaDoorW.PrintLast Go.Proofs.YtpbbekbdpodedaaDoorW.PrintMore
open H
attribute [local go_sem] Oper.semAt_some

theorem result_right (A0 : Option Addr) (c0 : Nat) (l0 : List Int) (w : World) (hr0 : Kd.C (Kd.int .i64) w A0 l0.length l0) (hc0 : l0.length ≤ c0) (h : chk l0 = 0) :
    Calls Tryd.prog 62 #[.slice A0 l0.length c0] w fun e w' => e = .returned (.tuple #[.slice A0 l0.length c0, .int .i64 0]) ∧ w = w' := by
  have HX := Aside0.mk (row_Check.same A0 c0 l0 0 w hr0 hc0 (by unfold row_Check.f; rw [h]))
  clear hr0 hc0 h
  go_enter Tryd.func62, Tryd.ntmps62
  go_wp2_with fail
  refine HX.out.mono ?_
  rintro e w' ⟨rfl, rfl⟩
  go_wp2_with fail
  go_ret2
  exact ⟨rfl, rfl⟩
theorem result_wrong (A0 : Option Addr) (c0 : Nat) (l0 : List Int) (w : World) (hr0 : Kd.C (Kd.int .i64) w A0 l0.length l0) (hc0 : l0.length ≤ c0) (h : chk l0 = 4) :
    Calls Tryd.prog 62 #[.slice A0 l0.length c0] w fun e w' => e = .returned (.tuple #[.slice none 0 0, .int .i64 4]) ∧ w = w' := by
  have HX := Aside0.mk (row_Check.same A0 c0 l0 4 w hr0 hc0 (by unfold row_Check.f; rw [h]))
  clear hr0 hc0 h
  go_enter Tryd.func62, Tryd.ntmps62
  go_wp2_with fail
  refine HX.out.mono ?_
  rintro e w' ⟨rfl, rfl⟩
  go_wp2_with fail
  go_ret2
  exact ⟨rfl, rfl⟩
/-- A row that is right, or nothing. -/
def okR (l : List Int) : List Int := if chk l = 0 then l else []
theorem info3A : (Tryd.prog.info? 3).map (fun i => (i.zero, i.size, i.bytes)) = some (some (.int .i64 0), 1, 8) := by kernel_rfl
/-- What Add and Sub return: the row, or nil. -/
def AddPost (r1 : List Int) (r2 : Int) (w : World) (e : Ending) (w' : World) : Prop := ∃ v0_ : Value, e = .returned (.tuple #[v0_, .int .i64 r2]) ∧ Kd.R (Kd.int .i64) 3 w' w.heap.size (fun _ => True) v0_ r1 ∧ Below w.heap.size w w'
theorem own_R {w : World} {b : Nat} {v : Value} {xs : List Int} (h : w.ownsRow b 3 1 v xs.length (xs.map (Value.int .i64))) : Kd.R (Kd.int .i64) 3 w b (fun _ => True) v xs :=
  Kd.R_of_own h (fun _ _ => trivial)

def addL (l : List (Int × Int)) : List Int := l.map fun x => wrap64 (x.1 + x.2)
theorem addL_snoc (l : List (Int × Int)) (x : Int × Int) : addL (l ++ [x]) = addL l ++ [wrap64 (x.1 + x.2)] := by simp [addL]
theorem addL_length (l : List (Int × Int)) : (addL l).length = l.length := by simp [addL]
set_option maxRecDepth 100000 in
set_option maxHeartbeats 4000000 in
theorem add_right (A0 : Option Addr) (c0 : Nat) (l0 : List Int) (A1 : Option Addr) (c1 : Nat) (l1 : List Int) (w : World) (hr0 : Kd.C (Kd.int .i64) w A0 l0.length l0) (hc0 : l0.length ≤ c0) (hr1 : Kd.C (Kd.int .i64) w A1 l1.length l1) (hc1 : l1.length ≤ c1)
    (hb : bth l0 l1 = 0) (hlen : l0.length = l1.length) (h64 : l0.length ≤ 64) :
    Calls Tryd.prog 28 #[.slice A0 l0.length c0, .slice A1 l1.length c1] w (AddPost (okR (addL (l0.zip l1))) (chk (addL (l0.zip l1))) w) := by
  have X := fun W (h0 : Kd.C (Kd.int .i64) W A0 l0.length l0) (h1 : Kd.C (Kd.int .i64) W A1 l1.length l1) => both_same A0 c0 l0 A1 c1 l1 W h0 hc0 h1 hc1
  rw [hb] at X
  have HX := Aside0.mk X
  have HR0 := Aside0.mk hr0
  have HR1 := Aside0.mk hr1
  have HL := Aside0.mk hlen
  clear X hr0 hr1 hb hlen hc0 hc1
  obtain ⟨i0, hi, hz0, hz1, hz2⟩ := info_parts info3A
  have hmk : ∀ W : World, (Instr.makeSlice 23 (.int .i64 0) (.int .i64 (l0.length : Int))).run Tryd.prog W = .ok (.slice (some ⟨W.heap.size, 0, none⟩) 0 l0.length) (W.alloc (.cells (madeCells #[Value.int .i64 0] l0.length) 3)) := fun W => by
    have := run_make (P := Tryd.prog) W 23 3 i0 (.int .i64 0) Tryd.underlying23 hi hz0 .i64 .i64 0 l0.length (by omega) (by omega) (by rw [hz2]; omega) (by omega)
    rw [hz1, Int.toNat_natCast, Int.toNat_zero, Nat.mul_one] at this
    exact this
  have HI := Aside0.mk hi
  have HZ0 := Aside0.mk hz0
  have HZ1 := Aside0.mk hz1
  have HZ2 := Aside0.mk hz2
  clear hi hz0 hz1 hz2
  refine (callsIn_wide (n := 6)).1 ?_
  refine callsIn_of_wp_marks Tryd.func28 rfl trivial ?_ rfl
  simp only [Tryd.ntmps28, List.size_toArray, List.length_cons, List.length_nil, Nat.reduceAdd, Nat.reduceSub, Array.replicate_succ, Array.replicate_zero, List.push_toArray, List.append_toArray, List.nil_append, List.cons_append]
  gi_wp2_with (first | (refine ⟨trivial, ?_⟩; gi_at_call 60; refine (callsIn_wide.2 (HX.out _ HR0.out HR1.out)).mono ?_; rintro e w' ⟨rfl, rfl⟩) | (refine ⟨trivial, ?_⟩; gi_at_call 61; refine (pairs_in Fence.wide _ trivial rfl (.int .i64 0) (.int .i64 0) _ _ _ _ _ _ _).mono ?_; rintro e w' ⟨rfl, rfl⟩))
  clear hmk
  have z0 : ((((w.alloc (Obj.cells (madeCells #[Value.int .i64 0] l0.length) 3)).alloc (Obj.cells #[.slice (some ⟨w.heap.size, 0, none⟩) 0 l0.length] 23)).alloc (Obj.cells #[.slice A0 l0.length c0] 23)).alloc (Obj.cells #[.slice A1 l1.length c1] 23)).ownsRow w.heap.size 3 1 (.slice (some ⟨w.heap.size, 0, none⟩) 0 l0.length) 0 [] :=
    (((World.ownsRow_made w (madeCells #[Value.int .i64 0] l0.length) l0.length (Nat.le_refl _) (by simp only [maxLen]; omega) (by rw [size_madeCells, Nat.mul_one])).alloc _).alloc _).alloc _
  have zx : Boxed ((((w.alloc (Obj.cells (madeCells #[Value.int .i64 0] l0.length) 3)).alloc (Obj.cells #[.slice (some ⟨w.heap.size, 0, none⟩) 0 l0.length] 23)).alloc (Obj.cells #[.slice A0 l0.length c0] 23)).alloc (Obj.cells #[.slice A1 l1.length c1] 23)) (w.heap.size + 1) 23 (.slice (some ⟨w.heap.size, 0, none⟩) 0 l0.length) := by
    have := Boxed.new (w.alloc (Obj.cells (madeCells #[Value.int .i64 0] l0.length) 3)) 23 (.slice (some ⟨w.heap.size, 0, none⟩) 0 l0.length)
    rw [World.size_alloc] at this
    exact (this.alloc _).alloc _
  have z1 : Boxed ((((w.alloc (Obj.cells (madeCells #[Value.int .i64 0] l0.length) 3)).alloc (Obj.cells #[.slice (some ⟨w.heap.size, 0, none⟩) 0 l0.length] 23)).alloc (Obj.cells #[.slice A0 l0.length c0] 23)).alloc (Obj.cells #[.slice A1 l1.length c1] 23)) (w.heap.size + 1 + 1) 23 (.slice A0 l0.length c0) := by
    have := Boxed.new ((w.alloc (Obj.cells (madeCells #[Value.int .i64 0] l0.length) 3)).alloc (Obj.cells #[.slice (some ⟨w.heap.size, 0, none⟩) 0 l0.length] 23)) 23 (.slice A0 l0.length c0)
    rw [World.size_alloc, World.size_alloc] at this
    exact this.alloc _
  have z2 : Boxed ((((w.alloc (Obj.cells (madeCells #[Value.int .i64 0] l0.length) 3)).alloc (Obj.cells #[.slice (some ⟨w.heap.size, 0, none⟩) 0 l0.length] 23)).alloc (Obj.cells #[.slice A0 l0.length c0] 23)).alloc (Obj.cells #[.slice A1 l1.length c1] 23)) (w.heap.size + 1 + 1 + 1) 23 (.slice A1 l1.length c1) := by
    have := Boxed.new (((w.alloc (Obj.cells (madeCells #[Value.int .i64 0] l0.length) 3)).alloc (Obj.cells #[.slice (some ⟨w.heap.size, 0, none⟩) 0 l0.length] 23)).alloc (Obj.cells #[.slice A0 l0.length c0] 23)) 23 (.slice A1 l1.length c1)
    rw [World.size_alloc, World.size_alloc, World.size_alloc] at this
    exact this
  have zb : Below w.heap.size w ((((w.alloc (Obj.cells (madeCells #[Value.int .i64 0] l0.length) 3)).alloc (Obj.cells #[.slice (some ⟨w.heap.size, 0, none⟩) 0 l0.length] 23)).alloc (Obj.cells #[.slice A0 l0.length c0] 23)).alloc (Obj.cells #[.slice A1 l1.length c1] 23)) := below_alloc (below_alloc (below_alloc (below_alloc (Below.refl _ _) _) _) _) _
  have zs : ((((w.alloc (Obj.cells (madeCells #[Value.int .i64 0] l0.length) 3)).alloc (Obj.cells #[.slice (some ⟨w.heap.size, 0, none⟩) 0 l0.length] 23)).alloc (Obj.cells #[.slice A0 l0.length c0] 23)).alloc (Obj.cells #[.slice A1 l1.length c1] 23)).heap.size = w.heap.size + 4 := by simp
  generalize ((((w.alloc (Obj.cells (madeCells #[Value.int .i64 0] l0.length) 3)).alloc (Obj.cells #[.slice (some ⟨w.heap.size, 0, none⟩) 0 l0.length] 23)).alloc (Obj.cells #[.slice A0 l0.length c0] 23)).alloc (Obj.cells #[.slice A1 l1.length c1] 23)) = W0 at z0 zx z1 z2 zb zs ⊢
  have ZS := Aside0.mk zs
  clear zs
  have Zb := Aside0.mk zb
  clear zb
  have Z0 := Aside0.mk z0
  clear z0
  have ZX := Aside0.mk zx
  clear zx
  have Z1 := Aside0.mk z1
  clear z1
  have Z2 := Aside0.mk z2
  clear z2
  refine wpIn_rangeFunc_ownG rfl (by omega) (gf := 82) (lb := #[.pointer (some ⟨w.heap.size + 1 + 1, 0, none⟩), .pointer (some ⟨w.heap.size + 1 + 1 + 1, 0, none⟩)]) rfl trivial (enters_of Tryd.func82 (by kernel_rfl) rfl)
    (pairs_stops Fence.wide (6 - 1) trivial rfl (by omega) (w.heap.size + 1 + 1) (w.heap.size + 1 + 1 + 1) A0 A1 c0 c1 l0 l1 HL.out w HR0.out HR1.out W0 Zb.out Z1.out Z2.out) KpB.trans (KpB.put (by rw [ZS.out]; omega) (by rw [ZS.out]; omega) (by rw [ZS.out]; omega)) (Below.refl _ _) (fun _ => rfl)
    (fun pre W => (∃ v, Boxed W (w.heap.size + 1) 23 v ∧ W.ownsRow w.heap.size 3 1 v (addL pre).length ((addL pre).map (Value.int .i64)) ∧ True) ∧ Boxed W (w.heap.size + 1 + 1) 23 (.slice A0 l0.length c0) ∧ Boxed W (w.heap.size + 1 + 1 + 1) 23 (.slice A1 l1.length c1) ∧ Below w.heap.size w W)
    (fun _ _ _ => False)
    (OwnFrom.and (Own.from (holdsRow_own w.heap.size (w.heap.size + 1) 23 3 1 (fun pre => (addL pre).length) (fun pre => (addL pre).map (Value.int .i64)) (fun pre v => True)) _)
      (OwnFrom.and (fun s A B row hs hg hr => hs.kept hg (fun e => by have := (hr _ e.symm).1; rw [ZS.out] at this; omega)) (OwnFrom.and (fun s A B row hs hg hr => hs.kept hg (fun e => by have := (hr _ e.symm).1; rw [ZS.out] at this; omega)) (ownFrom_below (Nat.le_refl _) (by rw [ZS.out]; omega)))))
    (fun _ _ _ _ _ hs _ _ => hs)
    ⟨⟨_, ZX.out, Z0.out, trivial⟩, Z1.out, Z2.out, Zb.out⟩
    (fun x => { tmps := #[.slice A0 l0.length c0, .slice A1 l1.length c1, undef, undef, .slice none 0 0, .int .i64 0, .int .i64 0, .pointer (some ⟨w.heap.size + 1, 0, none⟩), .int .i64 x.1, .int .i64 x.2, .slice A0 l0.length c0, .slice A1 l1.length c1, .int .i64 0, .int .i64 0, .bool false, undef, .slice A0 l0.length c0, .int .i64 l0.length, .slice (some ⟨w.heap.size, 0, none⟩) 0 l0.length, .slice A0 l0.length c0, .slice A1 l1.length c1, .func (.func 82) #[] #[.pointer (some ⟨w.heap.size + 1 + 1, 0, none⟩), .pointer (some ⟨w.heap.size + 1 + 1 + 1, 0, none⟩)], .int .i64 x.1, .int .i64 x.2, undef, undef, undef, undef, undef, undef, undef, undef, undef, undef], defers := [] }) ?assign ?body ?done ?stop
  case assign =>
    intro l x W K hK
    gi_wp2
    exact hK
  case body =>
    rintro l pre x W ⟨⟨v, hv, hrow, _⟩, hA, hB', hB⟩ hlt
    have hc := hv.cell
    have hpl : (addL pre).length ≤ 64 := by rw [addL_length]; omega
    have HA := Aside0.mk hA
    have HB' := Aside0.mk hB'
    clear hA hB'
    gi_wp2_with (gi_at_builtin; refine wpListIn_append_own _ rfl _ _ 23 rfl w.heap.size 3 i0 (.int .i64 0) 1 8 Tryd.underlying23 HI.out HZ0.out HZ1.out HZ2.out rfl (by decide) _ _ _ rfl (hrow.alloc _) ⟨W.heap.size, 0, none⟩ 1 1 [.int .i64 (wrap64 (x.1 + x.2))] rfl rfl (cell_one_new _ _ _) (by simp [Value.oneCell']) (by simp only [maxLen]; omega) (by omega) (by have := hB.size; simp; omega) ?_; intro v' w1 hown' hgrow _; obtain ⟨g', cap', rfl⟩ := ownsRow_succ hown'; have HA3 := Aside0.mk (((HA.out.alloc _).kept hgrow (HA.out.not_row (by decide) hrow)).kept (grownBy_setCell' w1 (w.heap.size + 1) (.slice (some ⟨g', 0, none⟩) ((addL pre).length + 1) cap')) (fun e_ => by injection e_ with e_; omega)); have HB3 := Aside0.mk (((HB'.out.alloc _).kept hgrow (HB'.out.not_row (by decide) hrow)).kept (grownBy_setCell' w1 (w.heap.size + 1) (.slice (some ⟨g', 0, none⟩) ((addL pre).length + 1) cap')) (fun e_ => by injection e_ with e_; omega)); obtain ⟨hv1, hv2, hr2, hk2, hb2⟩ := hv.appended (by decide) hrow hB.size (by omega) hown' hgrow; have hc1 := hv1.cell; have hf1 := hv1.frozen)
    exact ⟨hk2.from _, ⟨hb2, fun _ => HA3.out.trans HA.out.symm, fun _ => HB3.out.trans HB'.out.symm⟩, ⟨_, hv2, by rw [addL_snoc, List.length_append, List.map_append]; simpa using hr2, trivial⟩, HA3.out, HB3.out, hB.trans hb2⟩
  case done =>
    rintro D ys W hD rfl ⟨⟨v, hv, hrow, _⟩, _, _, hB⟩ hK
    have hR := own_R hrow
    obtain ⟨A, c, rfl, hlc, hC⟩ := Kd.R_reads hR
    have HQ := Aside0.mk hK
    clear hK
    have HDD := Aside0.mk hD
    clear hD
    have hq := hv.cell
    have HR := Aside0.mk hR
    have HC := Aside0.mk hC
    have HROW := Aside0.mk hrow
    clear hR hC hrow hv
    rcases chk_cases (addL (l0.zip l1)) with hk | hk
    · have HP := Aside0.mk (result_right A c (addL (l0.zip l1)) W HC.out hlc hk)
      have HK := Aside0.mk hk
      clear hk
      gi_wp2_with (refine ⟨trivial, ?_⟩; gi_at_call 62; refine (callsIn_wide.2 HP.out).mono ?_; rintro e w2 ⟨rfl, rfl⟩)
      refine ⟨by simp, .inl ⟨_, _, rfl, run_takeDeferred HQ.out, ?_⟩⟩
      refine ⟨_, results_tmp2 rfl _ _ _, .slice A (addL (l0.zip l1)).length c, by rw [HK.out]; rfl, ?_, hB.trans (belowK_b (w := w) (Nat.le_refl _) W D _ _ (by have := HDD.out; have := ZS.out; omega) HQ.out rfl rfl)⟩
      unfold okR; rw [if_pos HK.out]
      exact own_R (ownsRow_putObj HROW.out _ HQ.out rfl)
    · have HP := Aside0.mk (result_wrong A c (addL (l0.zip l1)) W HC.out hlc hk)
      have HK := Aside0.mk hk
      clear hk
      gi_wp2_with (refine ⟨trivial, ?_⟩; gi_at_call 62; refine (callsIn_wide.2 HP.out).mono ?_; rintro e w2 ⟨rfl, rfl⟩)
      refine ⟨by simp, .inl ⟨_, _, rfl, run_takeDeferred HQ.out, ?_⟩⟩
      refine ⟨_, results_tmp2 rfl _ _ _, .slice none 0 0, by rw [HK.out]; rfl, ?_, hB.trans (belowK_b (w := w) (Nat.le_refl _) W D _ _ (by have := HDD.out; have := ZS.out; omega) HQ.out rfl rfl)⟩
      unfold okR; rw [if_neg (by rw [HK.out]; decide)]
      exact Kd.R_nil _ _ _ _ _
  case stop =>
    rintro D c pre W _ _ h _
    exact h.elim

def subL (l : List (Int × Int)) : List Int := l.map fun x => wrap64 (x.1 - x.2)
theorem subL_snoc (l : List (Int × Int)) (x : Int × Int) : subL (l ++ [x]) = subL l ++ [wrap64 (x.1 - x.2)] := by simp [subL]
theorem subL_length (l : List (Int × Int)) : (subL l).length = l.length := by simp [subL]
set_option maxRecDepth 100000 in
set_option maxHeartbeats 4000000 in
theorem sub_right (A0 : Option Addr) (c0 : Nat) (l0 : List Int) (A1 : Option Addr) (c1 : Nat) (l1 : List Int) (w : World) (hr0 : Kd.C (Kd.int .i64) w A0 l0.length l0) (hc0 : l0.length ≤ c0) (hr1 : Kd.C (Kd.int .i64) w A1 l1.length l1) (hc1 : l1.length ≤ c1)
    (hb : bth l0 l1 = 0) (hlen : l0.length = l1.length) (h64 : l0.length ≤ 64) :
    Calls Tryd.prog 29 #[.slice A0 l0.length c0, .slice A1 l1.length c1] w (AddPost (okR (subL (l0.zip l1))) (chk (subL (l0.zip l1))) w) := by
  have X := fun W (h0 : Kd.C (Kd.int .i64) W A0 l0.length l0) (h1 : Kd.C (Kd.int .i64) W A1 l1.length l1) => both_same A0 c0 l0 A1 c1 l1 W h0 hc0 h1 hc1
  rw [hb] at X
  have HX := Aside0.mk X
  have HR0 := Aside0.mk hr0
  have HR1 := Aside0.mk hr1
  have HL := Aside0.mk hlen
  clear X hr0 hr1 hb hlen hc0 hc1
  obtain ⟨i0, hi, hz0, hz1, hz2⟩ := info_parts info3A
  have hmk : ∀ W : World, (Instr.makeSlice 23 (.int .i64 0) (.int .i64 (l0.length : Int))).run Tryd.prog W = .ok (.slice (some ⟨W.heap.size, 0, none⟩) 0 l0.length) (W.alloc (.cells (madeCells #[Value.int .i64 0] l0.length) 3)) := fun W => by
    have := run_make (P := Tryd.prog) W 23 3 i0 (.int .i64 0) Tryd.underlying23 hi hz0 .i64 .i64 0 l0.length (by omega) (by omega) (by rw [hz2]; omega) (by omega)
    rw [hz1, Int.toNat_natCast, Int.toNat_zero, Nat.mul_one] at this
    exact this
  have HI := Aside0.mk hi
  have HZ0 := Aside0.mk hz0
  have HZ1 := Aside0.mk hz1
  have HZ2 := Aside0.mk hz2
  clear hi hz0 hz1 hz2
  refine (callsIn_wide (n := 6)).1 ?_
  refine callsIn_of_wp_marks Tryd.func29 rfl trivial ?_ rfl
  simp only [Tryd.ntmps29, List.size_toArray, List.length_cons, List.length_nil, Nat.reduceAdd, Nat.reduceSub, Array.replicate_succ, Array.replicate_zero, List.push_toArray, List.append_toArray, List.nil_append, List.cons_append]
  gi_wp2_with (first | (refine ⟨trivial, ?_⟩; gi_at_call 60; refine (callsIn_wide.2 (HX.out _ HR0.out HR1.out)).mono ?_; rintro e w' ⟨rfl, rfl⟩) | (refine ⟨trivial, ?_⟩; gi_at_call 61; refine (pairs_in Fence.wide _ trivial rfl (.int .i64 0) (.int .i64 0) _ _ _ _ _ _ _).mono ?_; rintro e w' ⟨rfl, rfl⟩))
  clear hmk
  have z0 : ((((w.alloc (Obj.cells (madeCells #[Value.int .i64 0] l0.length) 3)).alloc (Obj.cells #[.slice (some ⟨w.heap.size, 0, none⟩) 0 l0.length] 23)).alloc (Obj.cells #[.slice A0 l0.length c0] 23)).alloc (Obj.cells #[.slice A1 l1.length c1] 23)).ownsRow w.heap.size 3 1 (.slice (some ⟨w.heap.size, 0, none⟩) 0 l0.length) 0 [] :=
    (((World.ownsRow_made w (madeCells #[Value.int .i64 0] l0.length) l0.length (Nat.le_refl _) (by simp only [maxLen]; omega) (by rw [size_madeCells, Nat.mul_one])).alloc _).alloc _).alloc _
  have zx : Boxed ((((w.alloc (Obj.cells (madeCells #[Value.int .i64 0] l0.length) 3)).alloc (Obj.cells #[.slice (some ⟨w.heap.size, 0, none⟩) 0 l0.length] 23)).alloc (Obj.cells #[.slice A0 l0.length c0] 23)).alloc (Obj.cells #[.slice A1 l1.length c1] 23)) (w.heap.size + 1) 23 (.slice (some ⟨w.heap.size, 0, none⟩) 0 l0.length) := by
    have := Boxed.new (w.alloc (Obj.cells (madeCells #[Value.int .i64 0] l0.length) 3)) 23 (.slice (some ⟨w.heap.size, 0, none⟩) 0 l0.length)
    rw [World.size_alloc] at this
    exact (this.alloc _).alloc _
  have z1 : Boxed ((((w.alloc (Obj.cells (madeCells #[Value.int .i64 0] l0.length) 3)).alloc (Obj.cells #[.slice (some ⟨w.heap.size, 0, none⟩) 0 l0.length] 23)).alloc (Obj.cells #[.slice A0 l0.length c0] 23)).alloc (Obj.cells #[.slice A1 l1.length c1] 23)) (w.heap.size + 1 + 1) 23 (.slice A0 l0.length c0) := by
    have := Boxed.new ((w.alloc (Obj.cells (madeCells #[Value.int .i64 0] l0.length) 3)).alloc (Obj.cells #[.slice (some ⟨w.heap.size, 0, none⟩) 0 l0.length] 23)) 23 (.slice A0 l0.length c0)
    rw [World.size_alloc, World.size_alloc] at this
    exact this.alloc _
  have z2 : Boxed ((((w.alloc (Obj.cells (madeCells #[Value.int .i64 0] l0.length) 3)).alloc (Obj.cells #[.slice (some ⟨w.heap.size, 0, none⟩) 0 l0.length] 23)).alloc (Obj.cells #[.slice A0 l0.length c0] 23)).alloc (Obj.cells #[.slice A1 l1.length c1] 23)) (w.heap.size + 1 + 1 + 1) 23 (.slice A1 l1.length c1) := by
    have := Boxed.new (((w.alloc (Obj.cells (madeCells #[Value.int .i64 0] l0.length) 3)).alloc (Obj.cells #[.slice (some ⟨w.heap.size, 0, none⟩) 0 l0.length] 23)).alloc (Obj.cells #[.slice A0 l0.length c0] 23)) 23 (.slice A1 l1.length c1)
    rw [World.size_alloc, World.size_alloc, World.size_alloc] at this
    exact this
  have zb : Below w.heap.size w ((((w.alloc (Obj.cells (madeCells #[Value.int .i64 0] l0.length) 3)).alloc (Obj.cells #[.slice (some ⟨w.heap.size, 0, none⟩) 0 l0.length] 23)).alloc (Obj.cells #[.slice A0 l0.length c0] 23)).alloc (Obj.cells #[.slice A1 l1.length c1] 23)) := below_alloc (below_alloc (below_alloc (below_alloc (Below.refl _ _) _) _) _) _
  have zs : ((((w.alloc (Obj.cells (madeCells #[Value.int .i64 0] l0.length) 3)).alloc (Obj.cells #[.slice (some ⟨w.heap.size, 0, none⟩) 0 l0.length] 23)).alloc (Obj.cells #[.slice A0 l0.length c0] 23)).alloc (Obj.cells #[.slice A1 l1.length c1] 23)).heap.size = w.heap.size + 4 := by simp
  generalize ((((w.alloc (Obj.cells (madeCells #[Value.int .i64 0] l0.length) 3)).alloc (Obj.cells #[.slice (some ⟨w.heap.size, 0, none⟩) 0 l0.length] 23)).alloc (Obj.cells #[.slice A0 l0.length c0] 23)).alloc (Obj.cells #[.slice A1 l1.length c1] 23)) = W0 at z0 zx z1 z2 zb zs ⊢
  have ZS := Aside0.mk zs
  clear zs
  have Zb := Aside0.mk zb
  clear zb
  have Z0 := Aside0.mk z0
  clear z0
  have ZX := Aside0.mk zx
  clear zx
  have Z1 := Aside0.mk z1
  clear z1
  have Z2 := Aside0.mk z2
  clear z2
  refine wpIn_rangeFunc_ownG rfl (by omega) (gf := 82) (lb := #[.pointer (some ⟨w.heap.size + 1 + 1, 0, none⟩), .pointer (some ⟨w.heap.size + 1 + 1 + 1, 0, none⟩)]) rfl trivial (enters_of Tryd.func82 (by kernel_rfl) rfl)
    (pairs_stops Fence.wide (6 - 1) trivial rfl (by omega) (w.heap.size + 1 + 1) (w.heap.size + 1 + 1 + 1) A0 A1 c0 c1 l0 l1 HL.out w HR0.out HR1.out W0 Zb.out Z1.out Z2.out) KpB.trans (KpB.put (by rw [ZS.out]; omega) (by rw [ZS.out]; omega) (by rw [ZS.out]; omega)) (Below.refl _ _) (fun _ => rfl)
    (fun pre W => (∃ v, Boxed W (w.heap.size + 1) 23 v ∧ W.ownsRow w.heap.size 3 1 v (subL pre).length ((subL pre).map (Value.int .i64)) ∧ True) ∧ Boxed W (w.heap.size + 1 + 1) 23 (.slice A0 l0.length c0) ∧ Boxed W (w.heap.size + 1 + 1 + 1) 23 (.slice A1 l1.length c1) ∧ Below w.heap.size w W)
    (fun _ _ _ => False)
    (OwnFrom.and (Own.from (holdsRow_own w.heap.size (w.heap.size + 1) 23 3 1 (fun pre => (subL pre).length) (fun pre => (subL pre).map (Value.int .i64)) (fun pre v => True)) _)
      (OwnFrom.and (fun s A B row hs hg hr => hs.kept hg (fun e => by have := (hr _ e.symm).1; rw [ZS.out] at this; omega)) (OwnFrom.and (fun s A B row hs hg hr => hs.kept hg (fun e => by have := (hr _ e.symm).1; rw [ZS.out] at this; omega)) (ownFrom_below (Nat.le_refl _) (by rw [ZS.out]; omega)))))
    (fun _ _ _ _ _ hs _ _ => hs)
    ⟨⟨_, ZX.out, Z0.out, trivial⟩, Z1.out, Z2.out, Zb.out⟩
    (fun x => { tmps := #[.slice A0 l0.length c0, .slice A1 l1.length c1, undef, undef, .slice none 0 0, .int .i64 0, .int .i64 0, .pointer (some ⟨w.heap.size + 1, 0, none⟩), .int .i64 x.1, .int .i64 x.2, .slice A0 l0.length c0, .slice A1 l1.length c1, .int .i64 0, .int .i64 0, .bool false, undef, .slice A0 l0.length c0, .int .i64 l0.length, .slice (some ⟨w.heap.size, 0, none⟩) 0 l0.length, .slice A0 l0.length c0, .slice A1 l1.length c1, .func (.func 82) #[] #[.pointer (some ⟨w.heap.size + 1 + 1, 0, none⟩), .pointer (some ⟨w.heap.size + 1 + 1 + 1, 0, none⟩)], .int .i64 x.1, .int .i64 x.2, undef, undef, undef, undef, undef, undef, undef, undef, undef, undef], defers := [] }) ?assign ?body ?done ?stop
  case assign =>
    intro l x W K hK
    gi_wp2
    exact hK
  case body =>
    rintro l pre x W ⟨⟨v, hv, hrow, _⟩, hA, hB', hB⟩ hlt
    have hc := hv.cell
    have hpl : (subL pre).length ≤ 64 := by rw [subL_length]; omega
    have HA := Aside0.mk hA
    have HB' := Aside0.mk hB'
    clear hA hB'
    gi_wp2_with (gi_at_builtin; refine wpListIn_append_own _ rfl _ _ 23 rfl w.heap.size 3 i0 (.int .i64 0) 1 8 Tryd.underlying23 HI.out HZ0.out HZ1.out HZ2.out rfl (by decide) _ _ _ rfl (hrow.alloc _) ⟨W.heap.size, 0, none⟩ 1 1 [.int .i64 (wrap64 (x.1 - x.2))] rfl rfl (cell_one_new _ _ _) (by simp [Value.oneCell']) (by simp only [maxLen]; omega) (by omega) (by have := hB.size; simp; omega) ?_; intro v' w1 hown' hgrow _; obtain ⟨g', cap', rfl⟩ := ownsRow_succ hown'; have HA3 := Aside0.mk (((HA.out.alloc _).kept hgrow (HA.out.not_row (by decide) hrow)).kept (grownBy_setCell' w1 (w.heap.size + 1) (.slice (some ⟨g', 0, none⟩) ((subL pre).length + 1) cap')) (fun e_ => by injection e_ with e_; omega)); have HB3 := Aside0.mk (((HB'.out.alloc _).kept hgrow (HB'.out.not_row (by decide) hrow)).kept (grownBy_setCell' w1 (w.heap.size + 1) (.slice (some ⟨g', 0, none⟩) ((subL pre).length + 1) cap')) (fun e_ => by injection e_ with e_; omega)); obtain ⟨hv1, hv2, hr2, hk2, hb2⟩ := hv.appended (by decide) hrow hB.size (by omega) hown' hgrow; have hc1 := hv1.cell; have hf1 := hv1.frozen)
    exact ⟨hk2.from _, ⟨hb2, fun _ => HA3.out.trans HA.out.symm, fun _ => HB3.out.trans HB'.out.symm⟩, ⟨_, hv2, by rw [subL_snoc, List.length_append, List.map_append]; simpa using hr2, trivial⟩, HA3.out, HB3.out, hB.trans hb2⟩
  case done =>
    rintro D ys W hD rfl ⟨⟨v, hv, hrow, _⟩, _, _, hB⟩ hK
    have hR := own_R hrow
    obtain ⟨A, c, rfl, hlc, hC⟩ := Kd.R_reads hR
    have HQ := Aside0.mk hK
    clear hK
    have HDD := Aside0.mk hD
    clear hD
    have hq := hv.cell
    have HR := Aside0.mk hR
    have HC := Aside0.mk hC
    have HROW := Aside0.mk hrow
    clear hR hC hrow hv
    rcases chk_cases (subL (l0.zip l1)) with hk | hk
    · have HP := Aside0.mk (result_right A c (subL (l0.zip l1)) W HC.out hlc hk)
      have HK := Aside0.mk hk
      clear hk
      gi_wp2_with (refine ⟨trivial, ?_⟩; gi_at_call 62; refine (callsIn_wide.2 HP.out).mono ?_; rintro e w2 ⟨rfl, rfl⟩)
      refine ⟨by simp, .inl ⟨_, _, rfl, run_takeDeferred HQ.out, ?_⟩⟩
      refine ⟨_, results_tmp2 rfl _ _ _, .slice A (subL (l0.zip l1)).length c, by rw [HK.out]; rfl, ?_, hB.trans (belowK_b (w := w) (Nat.le_refl _) W D _ _ (by have := HDD.out; have := ZS.out; omega) HQ.out rfl rfl)⟩
      unfold okR; rw [if_pos HK.out]
      exact own_R (ownsRow_putObj HROW.out _ HQ.out rfl)
    · have HP := Aside0.mk (result_wrong A c (subL (l0.zip l1)) W HC.out hlc hk)
      have HK := Aside0.mk hk
      clear hk
      gi_wp2_with (refine ⟨trivial, ?_⟩; gi_at_call 62; refine (callsIn_wide.2 HP.out).mono ?_; rintro e w2 ⟨rfl, rfl⟩)
      refine ⟨by simp, .inl ⟨_, _, rfl, run_takeDeferred HQ.out, ?_⟩⟩
      refine ⟨_, results_tmp2 rfl _ _ _, .slice none 0 0, by rw [HK.out]; rfl, ?_, hB.trans (belowK_b (w := w) (Nat.le_refl _) W D _ _ (by have := HDD.out; have := ZS.out; omega) HQ.out rfl rfl)⟩
      unfold okR; rw [if_neg (by rw [HK.out]; decide)]
      exact Kd.R_nil _ _ _ _ _
  case stop =>
    rintro D c pre W _ _ h _
    exact h.elim
end Go.Proofs.YtpbbekbdpodedaaDoor
