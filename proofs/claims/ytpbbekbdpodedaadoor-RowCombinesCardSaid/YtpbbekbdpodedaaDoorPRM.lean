-- WRITTEN BY wip/myprint.py (the kit's print, with contracts of this session's own beside it).
import Derived.Test.YtpbbekbdpodedaaDoorPR0
import Derived.Test.YtpbbekbdpodedaaDoorPR3
import Derived.Test.YtpbbekbdpodedaaDoorPR12
import Derived.Test.YtpbbekbdpodedaaDoorPR7
import Derived.Test.YtpbbekbdpodedaaDoorPRK
namespace Go.Proofs.YtpbbekbdpodedaaDoor.PR
open Go.RowKit Go.Proofs.YtpbbekbdpodedaaDoorW.PrintWords Go.Proofs.YtpbbekbdpodedaaDoorW.PrintLast Go.Proofs.YtpbbekbdpodedaaDoorW.PrintMore
attribute [local go_sem] max2_int min2_int max_two min_two max_three min_three max_four min_four   -- for this text's walks alone
set_option linter.unusedVariables false
set_option linter.unusedSimpArgs false

/-! ### schismalaw05_RowCombines: function 8 -/
mutual
def schismalaw05_RowCombines.j0 : Nat → List (List Int) → List Int → Bool → Option (Bool)
  | 0, _, _, _ => none
  | k + 1, x0, x1, x23 => if x23 = true then ((schismalaw05_known.f k).bind fun t209 => (some t209)) else ((row_Combine.f k x0 x1).bind fun bt210 => (if (x0.length : Int) = 0 then (if (bt210.1.length : Int) = 0 then (some (bt210.2 == 13)) else (some false)) else (schismalaw05_RowCombines.l0 k x0 x1 bt210.1 bt210.2 0)))
def schismalaw05_RowCombines.l0 : Nat → List (List Int) → List Int → List Int → Int → Int → Option (Bool)
  | 0, _, _, _, _, _ => none
  | k + 1, x0, x1, x5, x6, x7 => if x7 < (x0.length : Int) then (if 0 ≤ x7 then (if ((rd_L2 x0 x7).length : Int) > 10 then (some true) else ((schismaref05_Check.f k (rd_L2 x0 x7)).bind fun t216 => (if t216 = 0 then (if 0 < (x0.length : Int) then (schismalaw05_RowCombines.j2 k x0 x1 x5 x6 x7 t216 (((rd_L2 x0 x7).length : Int) != ((rd_L2 x0 0).length : Int))) else (none)) else (schismalaw05_RowCombines.j2 k x0 x1 x5 x6 x7 t216 false)))) else (none)) else ((schismaref05_Check.f k x1).bind fun t219 => (if t219 = 0 then (schismalaw05_RowCombines.j3 k x0 x1 x5 x6 t219 ((x1.length : Int) != (x0.length : Int))) else (schismalaw05_RowCombines.j3 k x0 x1 x5 x6 t219 false)))
def schismalaw05_RowCombines.j2 : Nat → List (List Int) → List Int → List Int → Int → Int → Int → Bool → Option (Bool)
  | 0, _, _, _, _, _, _, _ => none
  | k + 1, x0, x1, x5, x6, x7, x8, x71 => if x71 = true then (if 5 = 0 then (schismalaw05_RowCombines.l0 k x0 x1 x5 x6 (wrap64 (x7 + 1))) else (if (x5.length : Int) = 0 then (some (x6 == 5)) else (some false))) else (if x8 = 0 then (schismalaw05_RowCombines.l0 k x0 x1 x5 x6 (wrap64 (x7 + 1))) else (if (x5.length : Int) = 0 then (some (x6 == x8)) else (some false)))
def schismalaw05_RowCombines.j3 : Nat → List (List Int) → List Int → List Int → Int → Int → Bool → Option (Bool)
  | 0, _, _, _, _, _, _ => none
  | k + 1, x0, x1, x5, x6, x9, x92 => if x92 = true then (schismalaw05_RowCombines.j4 k x0 x1 x5 x6 5) else (schismalaw05_RowCombines.j4 k x0 x1 x5 x6 x9)
def schismalaw05_RowCombines.j4 : Nat → List (List Int) → List Int → List Int → Int → Int → Option (Bool)
  | 0, _, _, _, _, _ => none
  | k + 1, x0, x1, x5, x6, x9 => if x9 = 0 then ((schismaref05_Combine.f k x0 x1).bind fun bt220 => ((schismalaw05_same.f k x5 x6 bt220.1 bt220.2).bind fun t224 => (some t224))) else (if (x5.length : Int) = 0 then (some (x6 == x9)) else (some false))
end
def schismalaw05_RowCombines.f (k : Nat) (l0 : List (List Int)) (l1 : List Int) : Option (Bool) := (schismalaw05_known.f k).bind fun t208 => (if t208 = true then (if (l0.length : Int) > 6 then (schismalaw05_RowCombines.j0 k l0 l1 true) else (schismalaw05_RowCombines.j0 k l0 l1 (decide ((l1.length : Int) > 8)))) else (schismalaw05_RowCombines.j0 k l0 l1 true))
theorem schismalaw05_RowCombines.mono_l : ∀ k, (∀ y0 y1 y2, LeO (schismalaw05_RowCombines.j0 k y0 y1 y2) (schismalaw05_RowCombines.j0 (k + 1) y0 y1 y2)) ∧ (∀ y0 y1 y2 y3 y4, LeO (schismalaw05_RowCombines.l0 k y0 y1 y2 y3 y4) (schismalaw05_RowCombines.l0 (k + 1) y0 y1 y2 y3 y4)) ∧ (∀ y0 y1 y2 y3 y4 y5 y6, LeO (schismalaw05_RowCombines.j2 k y0 y1 y2 y3 y4 y5 y6) (schismalaw05_RowCombines.j2 (k + 1) y0 y1 y2 y3 y4 y5 y6)) ∧ (∀ y0 y1 y2 y3 y4 y5, LeO (schismalaw05_RowCombines.j3 k y0 y1 y2 y3 y4 y5) (schismalaw05_RowCombines.j3 (k + 1) y0 y1 y2 y3 y4 y5)) ∧ (∀ y0 y1 y2 y3 y4, LeO (schismalaw05_RowCombines.j4 k y0 y1 y2 y3 y4) (schismalaw05_RowCombines.j4 (k + 1) y0 y1 y2 y3 y4))
  | 0 => ⟨fun _ _ _ r h => by simp [schismalaw05_RowCombines.j0] at h, fun _ _ _ _ _ r h => by simp [schismalaw05_RowCombines.l0] at h, fun _ _ _ _ _ _ _ r h => by simp [schismalaw05_RowCombines.j2] at h, fun _ _ _ _ _ _ r h => by simp [schismalaw05_RowCombines.j3] at h, fun _ _ _ _ _ r h => by simp [schismalaw05_RowCombines.j4] at h⟩
  | k + 1 => by
    obtain ⟨ih0, ih1, ih2, ih3, ih4⟩ := schismalaw05_RowCombines.mono_l k
    refine ⟨?_, ?_, ?_, ?_, ?_⟩
    · intro y0 y1 y2
      unfold schismalaw05_RowCombines.j0
      repeat' first
      | (with_reducible exact ih0 _ _ _)
      | (with_reducible exact ih1 _ _ _ _ _)
      | (with_reducible exact ih2 _ _ _ _ _ _ _)
      | (with_reducible exact ih3 _ _ _ _ _ _)
      | (with_reducible exact ih4 _ _ _ _ _)
      | (with_reducible exact row_Combine.mono _ _ _)
      | (with_reducible exact schismalaw05_known.mono _)
      | (with_reducible exact schismalaw05_same.mono _ _ _ _ _)
      | (with_reducible exact schismaref05_Check.mono _ _)
      | (with_reducible exact schismaref05_Combine.mono _ _ _)
      | (with_reducible exact LeO.refl _)
      | (with_reducible exact LeO.none _)
      | (with_reducible refine LeO.ite ?_ ?_)
      | (with_reducible refine LeO.bind ?_ (fun _ => ?_))
      | exact ih0 _ _ _
      | exact ih1 _ _ _ _ _
      | exact ih2 _ _ _ _ _ _ _
      | exact ih3 _ _ _ _ _ _
      | exact ih4 _ _ _ _ _
      | exact row_Combine.mono _ _ _
      | exact schismalaw05_known.mono _
      | exact schismalaw05_same.mono _ _ _ _ _
      | exact schismaref05_Check.mono _ _
      | exact schismaref05_Combine.mono _ _ _
      | exact LeO.none _
      | refine LeO.ite ?_ ?_
      | refine LeO.bind ?_ (fun _ => ?_)
    · intro y0 y1 y2 y3 y4
      unfold schismalaw05_RowCombines.l0
      repeat' first
      | (with_reducible exact ih0 _ _ _)
      | (with_reducible exact ih1 _ _ _ _ _)
      | (with_reducible exact ih2 _ _ _ _ _ _ _)
      | (with_reducible exact ih3 _ _ _ _ _ _)
      | (with_reducible exact ih4 _ _ _ _ _)
      | (with_reducible exact row_Combine.mono _ _ _)
      | (with_reducible exact schismalaw05_known.mono _)
      | (with_reducible exact schismalaw05_same.mono _ _ _ _ _)
      | (with_reducible exact schismaref05_Check.mono _ _)
      | (with_reducible exact schismaref05_Combine.mono _ _ _)
      | (with_reducible exact LeO.refl _)
      | (with_reducible exact LeO.none _)
      | (with_reducible refine LeO.ite ?_ ?_)
      | (with_reducible refine LeO.bind ?_ (fun _ => ?_))
      | exact ih0 _ _ _
      | exact ih1 _ _ _ _ _
      | exact ih2 _ _ _ _ _ _ _
      | exact ih3 _ _ _ _ _ _
      | exact ih4 _ _ _ _ _
      | exact row_Combine.mono _ _ _
      | exact schismalaw05_known.mono _
      | exact schismalaw05_same.mono _ _ _ _ _
      | exact schismaref05_Check.mono _ _
      | exact schismaref05_Combine.mono _ _ _
      | exact LeO.none _
      | refine LeO.ite ?_ ?_
      | refine LeO.bind ?_ (fun _ => ?_)
    · intro y0 y1 y2 y3 y4 y5 y6
      unfold schismalaw05_RowCombines.j2
      repeat' first
      | (with_reducible exact ih0 _ _ _)
      | (with_reducible exact ih1 _ _ _ _ _)
      | (with_reducible exact ih2 _ _ _ _ _ _ _)
      | (with_reducible exact ih3 _ _ _ _ _ _)
      | (with_reducible exact ih4 _ _ _ _ _)
      | (with_reducible exact row_Combine.mono _ _ _)
      | (with_reducible exact schismalaw05_known.mono _)
      | (with_reducible exact schismalaw05_same.mono _ _ _ _ _)
      | (with_reducible exact schismaref05_Check.mono _ _)
      | (with_reducible exact schismaref05_Combine.mono _ _ _)
      | (with_reducible exact LeO.refl _)
      | (with_reducible exact LeO.none _)
      | (with_reducible refine LeO.ite ?_ ?_)
      | (with_reducible refine LeO.bind ?_ (fun _ => ?_))
      | exact ih0 _ _ _
      | exact ih1 _ _ _ _ _
      | exact ih2 _ _ _ _ _ _ _
      | exact ih3 _ _ _ _ _ _
      | exact ih4 _ _ _ _ _
      | exact row_Combine.mono _ _ _
      | exact schismalaw05_known.mono _
      | exact schismalaw05_same.mono _ _ _ _ _
      | exact schismaref05_Check.mono _ _
      | exact schismaref05_Combine.mono _ _ _
      | exact LeO.none _
      | refine LeO.ite ?_ ?_
      | refine LeO.bind ?_ (fun _ => ?_)
    · intro y0 y1 y2 y3 y4 y5
      unfold schismalaw05_RowCombines.j3
      repeat' first
      | (with_reducible exact ih0 _ _ _)
      | (with_reducible exact ih1 _ _ _ _ _)
      | (with_reducible exact ih2 _ _ _ _ _ _ _)
      | (with_reducible exact ih3 _ _ _ _ _ _)
      | (with_reducible exact ih4 _ _ _ _ _)
      | (with_reducible exact row_Combine.mono _ _ _)
      | (with_reducible exact schismalaw05_known.mono _)
      | (with_reducible exact schismalaw05_same.mono _ _ _ _ _)
      | (with_reducible exact schismaref05_Check.mono _ _)
      | (with_reducible exact schismaref05_Combine.mono _ _ _)
      | (with_reducible exact LeO.refl _)
      | (with_reducible exact LeO.none _)
      | (with_reducible refine LeO.ite ?_ ?_)
      | (with_reducible refine LeO.bind ?_ (fun _ => ?_))
      | exact ih0 _ _ _
      | exact ih1 _ _ _ _ _
      | exact ih2 _ _ _ _ _ _ _
      | exact ih3 _ _ _ _ _ _
      | exact ih4 _ _ _ _ _
      | exact row_Combine.mono _ _ _
      | exact schismalaw05_known.mono _
      | exact schismalaw05_same.mono _ _ _ _ _
      | exact schismaref05_Check.mono _ _
      | exact schismaref05_Combine.mono _ _ _
      | exact LeO.none _
      | refine LeO.ite ?_ ?_
      | refine LeO.bind ?_ (fun _ => ?_)
    · intro y0 y1 y2 y3 y4
      unfold schismalaw05_RowCombines.j4
      repeat' first
      | (with_reducible exact ih0 _ _ _)
      | (with_reducible exact ih1 _ _ _ _ _)
      | (with_reducible exact ih2 _ _ _ _ _ _ _)
      | (with_reducible exact ih3 _ _ _ _ _ _)
      | (with_reducible exact ih4 _ _ _ _ _)
      | (with_reducible exact row_Combine.mono _ _ _)
      | (with_reducible exact schismalaw05_known.mono _)
      | (with_reducible exact schismalaw05_same.mono _ _ _ _ _)
      | (with_reducible exact schismaref05_Check.mono _ _)
      | (with_reducible exact schismaref05_Combine.mono _ _ _)
      | (with_reducible exact LeO.refl _)
      | (with_reducible exact LeO.none _)
      | (with_reducible refine LeO.ite ?_ ?_)
      | (with_reducible refine LeO.bind ?_ (fun _ => ?_))
      | exact ih0 _ _ _
      | exact ih1 _ _ _ _ _
      | exact ih2 _ _ _ _ _ _ _
      | exact ih3 _ _ _ _ _ _
      | exact ih4 _ _ _ _ _
      | exact row_Combine.mono _ _ _
      | exact schismalaw05_known.mono _
      | exact schismalaw05_same.mono _ _ _ _ _
      | exact schismaref05_Check.mono _ _
      | exact schismaref05_Combine.mono _ _ _
      | exact LeO.none _
      | refine LeO.ite ?_ ?_
      | refine LeO.bind ?_ (fun _ => ?_)
theorem schismalaw05_RowCombines.mono : ∀ a0 a1 k, LeO (schismalaw05_RowCombines.f k a0 a1) (schismalaw05_RowCombines.f (k + 1) a0 a1) := by
  intro a0 a1 k
  obtain ⟨ih0, ih1, ih2, ih3, ih4⟩ := schismalaw05_RowCombines.mono_l k
  unfold schismalaw05_RowCombines.f
  repeat' first
      | (with_reducible exact ih0 _ _ _)
      | (with_reducible exact ih1 _ _ _ _ _)
      | (with_reducible exact ih2 _ _ _ _ _ _ _)
      | (with_reducible exact ih3 _ _ _ _ _ _)
      | (with_reducible exact ih4 _ _ _ _ _)
      | (with_reducible exact row_Combine.mono _ _ _)
      | (with_reducible exact schismalaw05_known.mono _)
      | (with_reducible exact schismalaw05_same.mono _ _ _ _ _)
      | (with_reducible exact schismaref05_Check.mono _ _)
      | (with_reducible exact schismaref05_Combine.mono _ _ _)
      | (with_reducible exact LeO.refl _)
      | (with_reducible exact LeO.none _)
      | (with_reducible refine LeO.ite ?_ ?_)
      | (with_reducible refine LeO.bind ?_ (fun _ => ?_))
      | exact ih0 _ _ _
      | exact ih1 _ _ _ _ _
      | exact ih2 _ _ _ _ _ _ _
      | exact ih3 _ _ _ _ _ _
      | exact ih4 _ _ _ _ _
      | exact row_Combine.mono _ _ _
      | exact schismalaw05_known.mono _
      | exact schismalaw05_same.mono _ _ _ _ _
      | exact schismaref05_Check.mono _ _
      | exact schismaref05_Combine.mono _ _ _
      | exact LeO.none _
      | refine LeO.ite ?_ ?_
      | refine LeO.bind ?_ (fun _ => ?_)
set_option maxHeartbeats 8000000 in
set_option maxRecDepth 100000 in
theorem schismalaw05_RowCombines.calls (k : Nat) (A0 : Option Addr) (c0 : Nat) (l0 : List (List Int)) (A1 : Option Addr) (c1 : Nat) (l1 : List Int) (r : Bool) (w : World) (hr0 : Kd.C (Kd.slice 3 (Kd.int .i64)) w A0 l0.length l0) (hc0 : l0.length ≤ c0) (hr1 : Kd.C (Kd.int .i64) w A1 l1.length l1) (hc1 : l1.length ≤ c1) (hG_tab : TabOK w) (h : schismalaw05_RowCombines.f k l0 l1 = some r) :
    Calls Tryd.prog 8 #[.slice A0 l0.length c0, .slice A1 l1.length c1] w fun e w' => e = .returned (.bool r) ∧ Below w.heap.size w w' := by
  have HR0 := Aside0.mk hr0
  have HC0 := Aside0.mk hc0
  clear hr0 hc0
  have HR1 := Aside0.mk hr1
  have HC1 := Aside0.mk hc1
  clear hr1 hc1
  have HG_tab := Aside0.mk hG_tab
  clear hG_tab
  have HB := Aside0.mk (Below.refl w.heap.size w)
  have H : ((schismalaw05_known.f k).bind fun t208 => (if t208 = true then (if (l0.length : Int) > 6 then (schismalaw05_RowCombines.j0 k l0 l1 true) else (schismalaw05_RowCombines.j0 k l0 l1 (decide ((l1.length : Int) > 8)))) else (schismalaw05_RowCombines.j0 k l0 l1 true))) = some r := h
  clear h
  have HC3 := Aside0.mk H
  clear H
  go_enter Tryd.func8, Tryd.ntmps8
  go_upto_region 1 with (fail)
  repeat (go_quiet (fail); go_upto_region 1 with (fail))
  go_cut [23] (fun v23 wc => ∃ (kq : Nat) (x23_2 : Bool), v23 = .bool x23_2 ∧ Aside0 (schismalaw05_RowCombines.j0 kq l0 l1 x23_2 = some r) ∧ Aside0 (kq ≤ k) ∧ Aside0 (Below w.heap.size w wc))
  case first =>
    have H := HC3.out
    clear HC3
    replace H := Option.bind_eq_some_iff.mp H
    obtain ⟨t208, A40, H⟩ := H
    replace H : (if t208 = true then (if (l0.length : Int) > 6 then (schismalaw05_RowCombines.j0 k l0 l1 true) else (schismalaw05_RowCombines.j0 k l0 l1 (decide ((l1.length : Int) > 8)))) else (schismalaw05_RowCombines.j0 k l0 l1 true)) = some r := H
    have A4 := Aside0.mk A40
    clear A40
    by_cases c5 : t208 = true
    · subst c5
      have H1 : (if (l0.length : Int) > 6 then (schismalaw05_RowCombines.j0 k l0 l1 true) else (schismalaw05_RowCombines.j0 k l0 l1 (decide ((l1.length : Int) > 8)))) = some r := by rw [if_pos rfl] at H; exact H
      clear H
      have H := H1
      clear H1
      by_cases c6 : (l0.length : Int) > 6
      · rw [if_pos c6] at H
        have c6b0 : decide (6 < (l0.length : Int)) = true := decide_eq_true c6
        have c6b1 : decide (6 < l0.length) = true := decide_eq_true (by omega)
        clear c6
        (first | rw [c6b0] | (simp only [i64_w, i32_w]; rw [c6b0]) | skip)
        have H' := Aside0.mk H
        clear H
        go_wp2_with (first | (go_at_call 13; (with_reducible refine (schismalaw05_known.calls k  true _ ?side1 A4.out).mono ?_); (case side1 => exact TabOK.below HG_tab.out (by repeat (first | (with_reducible first | exact HB.out | apply below_alloc | apply pw_below_drewN | apply below_drew1) | exact HB.out))); rintro e w7 ⟨rfl, hb⟩; have n0_ := Aside0.mk (below_step (by repeat (first | (with_reducible first | exact HB.out | apply below_alloc | apply pw_below_drewN | apply below_drew1) | exact HB.out)) hb); clear HB; have HB := n0_; clear n0_; (try clear hb); (try clear hb2); (try clear hk); (try clear hi)))
        repeat (go_quiet (first | (go_at_call 13; (with_reducible refine (schismalaw05_known.calls k  true _ ?side1 A4.out).mono ?_); (case side1 => exact TabOK.below HG_tab.out (by repeat (first | (with_reducible first | exact HB.out | apply below_alloc | apply pw_below_drewN | apply below_drew1) | exact HB.out))); rintro e w7 ⟨rfl, hb⟩; have n0_ := Aside0.mk (below_step (by repeat (first | (with_reducible first | exact HB.out | apply below_alloc | apply pw_below_drewN | apply below_drew1) | exact HB.out)) hb); clear HB; have HB := n0_; clear n0_; (try clear hb); (try clear hb2); (try clear hk); (try clear hi))); try go_wp2_with (first | (go_at_call 13; (with_reducible refine (schismalaw05_known.calls k  true _ ?side1 A4.out).mono ?_); (case side1 => exact TabOK.below HG_tab.out (by repeat (first | (with_reducible first | exact HB.out | apply below_alloc | apply pw_below_drewN | apply below_drew1) | exact HB.out))); rintro e w7 ⟨rfl, hb⟩; have n0_ := Aside0.mk (below_step (by repeat (first | (with_reducible first | exact HB.out | apply below_alloc | apply pw_below_drewN | apply below_drew1) | exact HB.out)) hb); clear HB; have HB := n0_; clear n0_; (try clear hb); (try clear hb2); (try clear hk); (try clear hi))))
        go_meet
        case rel => exact ⟨_, (true), (by first | rfl | (simp; done) | (simp [*]; done)), H', ⟨by first | omega | exact Nat.le_refl _⟩, ⟨by repeat (first | (with_reducible first | exact HB.out | apply below_alloc | apply pw_below_drewN | apply below_drew1) | exact HB.out)⟩⟩
      · rw [if_neg c6] at H
        have c6b0 : decide (6 < (l0.length : Int)) = false := decide_eq_false c6
        have c6b1 : decide (6 < l0.length) = false := decide_eq_false (by omega)
        clear c6
        (first | rw [c6b0] | (simp only [i64_w, i32_w]; rw [c6b0]) | skip)
        have H' := Aside0.mk H
        clear H
        go_wp2_with (first | (go_at_call 13; (with_reducible refine (schismalaw05_known.calls k  true _ ?side1 A4.out).mono ?_); (case side1 => exact TabOK.below HG_tab.out (by repeat (first | (with_reducible first | exact HB.out | apply below_alloc | apply pw_below_drewN | apply below_drew1) | exact HB.out))); rintro e w8 ⟨rfl, hb⟩; have n0_ := Aside0.mk (below_step (by repeat (first | (with_reducible first | exact HB.out | apply below_alloc | apply pw_below_drewN | apply below_drew1) | exact HB.out)) hb); clear HB; have HB := n0_; clear n0_; (try clear hb); (try clear hb2); (try clear hk); (try clear hi)))
        repeat (go_quiet (first | (go_at_call 13; (with_reducible refine (schismalaw05_known.calls k  true _ ?side1 A4.out).mono ?_); (case side1 => exact TabOK.below HG_tab.out (by repeat (first | (with_reducible first | exact HB.out | apply below_alloc | apply pw_below_drewN | apply below_drew1) | exact HB.out))); rintro e w8 ⟨rfl, hb⟩; have n0_ := Aside0.mk (below_step (by repeat (first | (with_reducible first | exact HB.out | apply below_alloc | apply pw_below_drewN | apply below_drew1) | exact HB.out)) hb); clear HB; have HB := n0_; clear n0_; (try clear hb); (try clear hb2); (try clear hk); (try clear hi))); try go_wp2_with (first | (go_at_call 13; (with_reducible refine (schismalaw05_known.calls k  true _ ?side1 A4.out).mono ?_); (case side1 => exact TabOK.below HG_tab.out (by repeat (first | (with_reducible first | exact HB.out | apply below_alloc | apply pw_below_drewN | apply below_drew1) | exact HB.out))); rintro e w8 ⟨rfl, hb⟩; have n0_ := Aside0.mk (below_step (by repeat (first | (with_reducible first | exact HB.out | apply below_alloc | apply pw_below_drewN | apply below_drew1) | exact HB.out)) hb); clear HB; have HB := n0_; clear n0_; (try clear hb); (try clear hb2); (try clear hk); (try clear hi))))
        go_meet
        case rel => exact ⟨_, (decide ((l1.length : Int) > 8)), (by first | rfl | (simp; done) | (simp [*]; done)), H', ⟨by first | omega | exact Nat.le_refl _⟩, ⟨by repeat (first | (with_reducible first | exact HB.out | apply below_alloc | apply pw_below_drewN | apply below_drew1) | exact HB.out)⟩⟩
    · replace c5 := Bool.eq_false_iff.mpr c5
      subst c5
      have H1 : (schismalaw05_RowCombines.j0 k l0 l1 true) = some r := by rw [if_neg (show ¬ (false = true) by decide)] at H; exact H
      clear H
      have H := H1
      clear H1
      have H' := Aside0.mk H
      clear H
      go_wp2_with (first | (go_at_call 13; (with_reducible refine (schismalaw05_known.calls k  false _ ?side1 A4.out).mono ?_); (case side1 => exact TabOK.below HG_tab.out (by repeat (first | (with_reducible first | exact HB.out | apply below_alloc | apply pw_below_drewN | apply below_drew1) | exact HB.out))); rintro e w9 ⟨rfl, hb⟩; have n0_ := Aside0.mk (below_step (by repeat (first | (with_reducible first | exact HB.out | apply below_alloc | apply pw_below_drewN | apply below_drew1) | exact HB.out)) hb); clear HB; have HB := n0_; clear n0_; (try clear hb); (try clear hb2); (try clear hk); (try clear hi)))
      repeat (go_quiet (first | (go_at_call 13; (with_reducible refine (schismalaw05_known.calls k  false _ ?side1 A4.out).mono ?_); (case side1 => exact TabOK.below HG_tab.out (by repeat (first | (with_reducible first | exact HB.out | apply below_alloc | apply pw_below_drewN | apply below_drew1) | exact HB.out))); rintro e w9 ⟨rfl, hb⟩; have n0_ := Aside0.mk (below_step (by repeat (first | (with_reducible first | exact HB.out | apply below_alloc | apply pw_below_drewN | apply below_drew1) | exact HB.out)) hb); clear HB; have HB := n0_; clear n0_; (try clear hb); (try clear hb2); (try clear hk); (try clear hi))); try go_wp2_with (first | (go_at_call 13; (with_reducible refine (schismalaw05_known.calls k  false _ ?side1 A4.out).mono ?_); (case side1 => exact TabOK.below HG_tab.out (by repeat (first | (with_reducible first | exact HB.out | apply below_alloc | apply pw_below_drewN | apply below_drew1) | exact HB.out))); rintro e w9 ⟨rfl, hb⟩; have n0_ := Aside0.mk (below_step (by repeat (first | (with_reducible first | exact HB.out | apply below_alloc | apply pw_below_drewN | apply below_drew1) | exact HB.out)) hb); clear HB; have HB := n0_; clear n0_; (try clear hb); (try clear hb2); (try clear hk); (try clear hi))))
      go_meet
      case rel => exact ⟨_, (true), (by first | rfl | (simp; done) | (simp [*]; done)), H', ⟨by first | omega | exact Nat.le_refl _⟩, ⟨by repeat (first | (with_reducible first | exact HB.out | apply below_alloc | apply pw_below_drewN | apply below_drew1) | exact HB.out)⟩⟩
  case rest =>
    clear HC3
    try clear c1
    try clear p2
    try clear c5
    try clear c6
    try clear c6b0
    try clear c6b1
    try clear c8
    obtain ⟨kq, x23_2, rfl, HA, HJ2, HB⟩ := hcut
    cases kq with
    | zero => exact absurd HA.out (by simp [schismalaw05_RowCombines.j0])
    | succ kj2 =>
      have H := HA.out
      clear HA
      simp only [schismalaw05_RowCombines.j0] at H
      by_cases c10 : x23_2 = true
      · subst c10
        have H1 : ((schismalaw05_known.f kj2).bind fun t209 => (some t209)) = some r := by rw [if_pos rfl] at H; exact H
        clear H
        have H := H1
        clear H1
        replace H := Option.bind_eq_some_iff.mp H
        obtain ⟨t209, A110, H⟩ := H
        replace H : (some t209) = some r := H
        have A11 := Aside0.mk A110
        clear A110
        obtain rfl := Option.some.inj H
        go_wp2_with (first | (go_at_call 13; (with_reducible refine (schismalaw05_known.calls kj2  t209 _ ?side1 A11.out).mono ?_); (case side1 => exact TabOK.below HG_tab.out (by repeat (first | (with_reducible first | exact HB.out | apply below_alloc | apply pw_below_drewN | apply below_drew1) | exact HB.out))); rintro e w12 ⟨rfl, hb⟩; have n0_ := Aside0.mk (below_step (by repeat (first | (with_reducible first | exact HB.out | apply below_alloc | apply pw_below_drewN | apply below_drew1) | exact HB.out)) hb); clear HB; have HB := n0_; clear n0_; (try clear hb); (try clear hb2); (try clear hk); (try clear hi)))
        repeat (go_quiet (first | (go_at_call 13; (with_reducible refine (schismalaw05_known.calls kj2  t209 _ ?side1 A11.out).mono ?_); (case side1 => exact TabOK.below HG_tab.out (by repeat (first | (with_reducible first | exact HB.out | apply below_alloc | apply pw_below_drewN | apply below_drew1) | exact HB.out))); rintro e w12 ⟨rfl, hb⟩; have n0_ := Aside0.mk (below_step (by repeat (first | (with_reducible first | exact HB.out | apply below_alloc | apply pw_below_drewN | apply below_drew1) | exact HB.out)) hb); clear HB; have HB := n0_; clear n0_; (try clear hb); (try clear hb2); (try clear hk); (try clear hi))); try go_wp2_with (first | (go_at_call 13; (with_reducible refine (schismalaw05_known.calls kj2  t209 _ ?side1 A11.out).mono ?_); (case side1 => exact TabOK.below HG_tab.out (by repeat (first | (with_reducible first | exact HB.out | apply below_alloc | apply pw_below_drewN | apply below_drew1) | exact HB.out))); rintro e w12 ⟨rfl, hb⟩; have n0_ := Aside0.mk (below_step (by repeat (first | (with_reducible first | exact HB.out | apply below_alloc | apply pw_below_drewN | apply below_drew1) | exact HB.out)) hb); clear HB; have HB := n0_; clear n0_; (try clear hb); (try clear hb2); (try clear hk); (try clear hi))))
        go_ret
        exact ⟨by first | rfl | (simp [errW_none, errW_some] <;> rfl) | (simp [*, errW_none, errW_some] <;> rfl), by repeat (first | (with_reducible first | exact HB.out | apply below_alloc | apply pw_below_drewN | apply below_drew1) | exact HB.out)⟩
      · replace c10 := Bool.eq_false_iff.mpr c10
        subst c10
        have H1 : ((row_Combine.f kj2 l0 l1).bind fun bt210 => (if (l0.length : Int) = 0 then (if (bt210.1.length : Int) = 0 then (some (bt210.2 == 13)) else (some false)) else (schismalaw05_RowCombines.l0 kj2 l0 l1 bt210.1 bt210.2 0))) = some r := by rw [if_neg (show ¬ (false = true) by decide)] at H; exact H
        clear H
        have H := H1
        clear H1
        replace H := Option.bind_eq_some_iff.mp H
        obtain ⟨⟨t210, t211⟩, A130, H⟩ := H
        replace H : (if (l0.length : Int) = 0 then (if (t210.length : Int) = 0 then (some (t211 == 13)) else (some false)) else (schismalaw05_RowCombines.l0 kj2 l0 l1 t210 t211 0)) = some r := H
        have A13 := Aside0.mk A130
        clear A130
        by_cases c14 : (l0.length : Int) = 0
        · rw [if_pos c14] at H
          have c14b0 : ((l0.length : Int) == 0) = true := beq_iff_eq.mpr c14
          have c14b1 : ((l0.length : Int) != 0) = false := bne_eq_false_iff_eq.mpr c14
          clear c14
          by_cases c15 : (t210.length : Int) = 0
          · rw [if_pos c15] at H
            have c15b0 : ((t210.length : Int) == 0) = true := beq_iff_eq.mpr c15
            have c15b1 : ((t210.length : Int) != 0) = false := bne_eq_false_iff_eq.mpr c15
            clear c15
            obtain rfl := Option.some.inj H
            go_wp2_with (first | (go_at_call 41; (with_reducible refine (row_Combine.calls kj2 _ _ l0 _ _ l1 t210 t211 _ ?side1 ?side2 ?side3 ?side4 A13.out).mono ?_); (case side1 => repeat (first | exact (Kd.C_below HR0.out HB.out) | (with_reducible refine Kd.C_alloc ?_ _) | (with_reducible refine Kd.C_drewN ?_ _) | (with_reducible refine Kd.C_drew ?_))); (case side2 => exact HC0.out); (case side3 => repeat (first | exact (Kd.C_below HR1.out HB.out) | (with_reducible refine Kd.C_alloc ?_ _) | (with_reducible refine Kd.C_drewN ?_ _) | (with_reducible refine Kd.C_drew ?_))); (case side4 => exact HC1.out); rintro e w16 ⟨v212, rfl, ho0, hb⟩; have n0_ := Aside0.mk (Kd.R_lower ho0 (below_size (by repeat (first | (with_reducible first | exact HB.out | apply below_alloc | apply pw_below_drewN | apply below_drew1) | exact HB.out)))); have n1_ := Aside0.mk (below_step (by repeat (first | (with_reducible first | exact HB.out | apply below_alloc | apply pw_below_drewN | apply below_drew1) | exact HB.out)) hb); clear HB; have HO213 := n0_; have HB := n1_; clear n0_ n1_; (try clear hb); (try clear hb2); (try clear hk); (try clear hi); (try clear ho0); obtain ⟨Ao17, co17, eo17⟩ := Kd.R_slice HO213.out; subst eo17))
            repeat (go_quiet (first | (go_at_call 41; (with_reducible refine (row_Combine.calls kj2 _ _ l0 _ _ l1 t210 t211 _ ?side1 ?side2 ?side3 ?side4 A13.out).mono ?_); (case side1 => repeat (first | exact (Kd.C_below HR0.out HB.out) | (with_reducible refine Kd.C_alloc ?_ _) | (with_reducible refine Kd.C_drewN ?_ _) | (with_reducible refine Kd.C_drew ?_))); (case side2 => exact HC0.out); (case side3 => repeat (first | exact (Kd.C_below HR1.out HB.out) | (with_reducible refine Kd.C_alloc ?_ _) | (with_reducible refine Kd.C_drewN ?_ _) | (with_reducible refine Kd.C_drew ?_))); (case side4 => exact HC1.out); rintro e w16 ⟨v212, rfl, ho0, hb⟩; have n0_ := Aside0.mk (Kd.R_lower ho0 (below_size (by repeat (first | (with_reducible first | exact HB.out | apply below_alloc | apply pw_below_drewN | apply below_drew1) | exact HB.out)))); have n1_ := Aside0.mk (below_step (by repeat (first | (with_reducible first | exact HB.out | apply below_alloc | apply pw_below_drewN | apply below_drew1) | exact HB.out)) hb); clear HB; have HO213 := n0_; have HB := n1_; clear n0_ n1_; (try clear hb); (try clear hb2); (try clear hk); (try clear hi); (try clear ho0); obtain ⟨Ao17, co17, eo17⟩ := Kd.R_slice HO213.out; subst eo17)); try go_wp2_with (first | (go_at_call 41; (with_reducible refine (row_Combine.calls kj2 _ _ l0 _ _ l1 t210 t211 _ ?side1 ?side2 ?side3 ?side4 A13.out).mono ?_); (case side1 => repeat (first | exact (Kd.C_below HR0.out HB.out) | (with_reducible refine Kd.C_alloc ?_ _) | (with_reducible refine Kd.C_drewN ?_ _) | (with_reducible refine Kd.C_drew ?_))); (case side2 => exact HC0.out); (case side3 => repeat (first | exact (Kd.C_below HR1.out HB.out) | (with_reducible refine Kd.C_alloc ?_ _) | (with_reducible refine Kd.C_drewN ?_ _) | (with_reducible refine Kd.C_drew ?_))); (case side4 => exact HC1.out); rintro e w16 ⟨v212, rfl, ho0, hb⟩; have n0_ := Aside0.mk (Kd.R_lower ho0 (below_size (by repeat (first | (with_reducible first | exact HB.out | apply below_alloc | apply pw_below_drewN | apply below_drew1) | exact HB.out)))); have n1_ := Aside0.mk (below_step (by repeat (first | (with_reducible first | exact HB.out | apply below_alloc | apply pw_below_drewN | apply below_drew1) | exact HB.out)) hb); clear HB; have HO213 := n0_; have HB := n1_; clear n0_ n1_; (try clear hb); (try clear hb2); (try clear hk); (try clear hi); (try clear ho0); obtain ⟨Ao17, co17, eo17⟩ := Kd.R_slice HO213.out; subst eo17)))
            go_ret
            exact ⟨by first | rfl | (simp [errW_none, errW_some] <;> rfl) | (simp [*, errW_none, errW_some] <;> rfl), by repeat (first | (with_reducible first | exact HB.out | apply below_alloc | apply pw_below_drewN | apply below_drew1) | exact HB.out)⟩
          · rw [if_neg c15] at H
            have c15b0 : ((t210.length : Int) == 0) = false := beq_eq_false_iff_ne.mpr c15
            have c15b1 : ((t210.length : Int) != 0) = true := bne_iff_ne.mpr c15
            have c15b2 : ¬ (t210 = []) := fun h_ => c15 (by rw [h_]; rfl)
            obtain rfl := Option.some.inj H
            go_wp2_with (first | (go_at_call 41; (with_reducible refine (row_Combine.calls kj2 _ _ l0 _ _ l1 t210 t211 _ ?side1 ?side2 ?side3 ?side4 A13.out).mono ?_); (case side1 => repeat (first | exact (Kd.C_below HR0.out HB.out) | (with_reducible refine Kd.C_alloc ?_ _) | (with_reducible refine Kd.C_drewN ?_ _) | (with_reducible refine Kd.C_drew ?_))); (case side2 => exact HC0.out); (case side3 => repeat (first | exact (Kd.C_below HR1.out HB.out) | (with_reducible refine Kd.C_alloc ?_ _) | (with_reducible refine Kd.C_drewN ?_ _) | (with_reducible refine Kd.C_drew ?_))); (case side4 => exact HC1.out); rintro e w18 ⟨v212, rfl, ho0, hb⟩; have n0_ := Aside0.mk (Kd.R_lower ho0 (below_size (by repeat (first | (with_reducible first | exact HB.out | apply below_alloc | apply pw_below_drewN | apply below_drew1) | exact HB.out)))); have n1_ := Aside0.mk (below_step (by repeat (first | (with_reducible first | exact HB.out | apply below_alloc | apply pw_below_drewN | apply below_drew1) | exact HB.out)) hb); clear HB; have HO213 := n0_; have HB := n1_; clear n0_ n1_; (try clear hb); (try clear hb2); (try clear hk); (try clear hi); (try clear ho0); obtain ⟨Ao19, co19, eo19⟩ := Kd.R_slice HO213.out; subst eo19))
            repeat (go_quiet (first | (go_at_call 41; (with_reducible refine (row_Combine.calls kj2 _ _ l0 _ _ l1 t210 t211 _ ?side1 ?side2 ?side3 ?side4 A13.out).mono ?_); (case side1 => repeat (first | exact (Kd.C_below HR0.out HB.out) | (with_reducible refine Kd.C_alloc ?_ _) | (with_reducible refine Kd.C_drewN ?_ _) | (with_reducible refine Kd.C_drew ?_))); (case side2 => exact HC0.out); (case side3 => repeat (first | exact (Kd.C_below HR1.out HB.out) | (with_reducible refine Kd.C_alloc ?_ _) | (with_reducible refine Kd.C_drewN ?_ _) | (with_reducible refine Kd.C_drew ?_))); (case side4 => exact HC1.out); rintro e w18 ⟨v212, rfl, ho0, hb⟩; have n0_ := Aside0.mk (Kd.R_lower ho0 (below_size (by repeat (first | (with_reducible first | exact HB.out | apply below_alloc | apply pw_below_drewN | apply below_drew1) | exact HB.out)))); have n1_ := Aside0.mk (below_step (by repeat (first | (with_reducible first | exact HB.out | apply below_alloc | apply pw_below_drewN | apply below_drew1) | exact HB.out)) hb); clear HB; have HO213 := n0_; have HB := n1_; clear n0_ n1_; (try clear hb); (try clear hb2); (try clear hk); (try clear hi); (try clear ho0); obtain ⟨Ao19, co19, eo19⟩ := Kd.R_slice HO213.out; subst eo19)); try go_wp2_with (first | (go_at_call 41; (with_reducible refine (row_Combine.calls kj2 _ _ l0 _ _ l1 t210 t211 _ ?side1 ?side2 ?side3 ?side4 A13.out).mono ?_); (case side1 => repeat (first | exact (Kd.C_below HR0.out HB.out) | (with_reducible refine Kd.C_alloc ?_ _) | (with_reducible refine Kd.C_drewN ?_ _) | (with_reducible refine Kd.C_drew ?_))); (case side2 => exact HC0.out); (case side3 => repeat (first | exact (Kd.C_below HR1.out HB.out) | (with_reducible refine Kd.C_alloc ?_ _) | (with_reducible refine Kd.C_drewN ?_ _) | (with_reducible refine Kd.C_drew ?_))); (case side4 => exact HC1.out); rintro e w18 ⟨v212, rfl, ho0, hb⟩; have n0_ := Aside0.mk (Kd.R_lower ho0 (below_size (by repeat (first | (with_reducible first | exact HB.out | apply below_alloc | apply pw_below_drewN | apply below_drew1) | exact HB.out)))); have n1_ := Aside0.mk (below_step (by repeat (first | (with_reducible first | exact HB.out | apply below_alloc | apply pw_below_drewN | apply below_drew1) | exact HB.out)) hb); clear HB; have HO213 := n0_; have HB := n1_; clear n0_ n1_; (try clear hb); (try clear hb2); (try clear hk); (try clear hi); (try clear ho0); obtain ⟨Ao19, co19, eo19⟩ := Kd.R_slice HO213.out; subst eo19)))
            go_ret
            exact ⟨by first | rfl | (simp [errW_none, errW_some] <;> rfl) | (simp [*, errW_none, errW_some] <;> rfl), by repeat (first | (with_reducible first | exact HB.out | apply below_alloc | apply pw_below_drewN | apply below_drew1) | exact HB.out)⟩
        · rw [if_neg c14] at H
          have c14b0 : ((l0.length : Int) == 0) = false := beq_eq_false_iff_ne.mpr c14
          have c14b1 : ((l0.length : Int) != 0) = true := bne_iff_ne.mpr c14
          have c14b2 : ¬ (l0 = []) := fun h_ => c14 (by rw [h_]; rfl)
          have H' := Aside0.mk H
          clear H
          go_wp2_with (first | (go_at_call 41; (with_reducible refine (row_Combine.calls kj2 _ _ l0 _ _ l1 t210 t211 _ ?side1 ?side2 ?side3 ?side4 A13.out).mono ?_); (case side1 => repeat (first | exact (Kd.C_below HR0.out HB.out) | (with_reducible refine Kd.C_alloc ?_ _) | (with_reducible refine Kd.C_drewN ?_ _) | (with_reducible refine Kd.C_drew ?_))); (case side2 => exact HC0.out); (case side3 => repeat (first | exact (Kd.C_below HR1.out HB.out) | (with_reducible refine Kd.C_alloc ?_ _) | (with_reducible refine Kd.C_drewN ?_ _) | (with_reducible refine Kd.C_drew ?_))); (case side4 => exact HC1.out); rintro e w20 ⟨v212, rfl, ho0, hb⟩; have n0_ := Aside0.mk (Kd.R_lower ho0 (below_size (by repeat (first | (with_reducible first | exact HB.out | apply below_alloc | apply pw_below_drewN | apply below_drew1) | exact HB.out)))); have n1_ := Aside0.mk (below_step (by repeat (first | (with_reducible first | exact HB.out | apply below_alloc | apply pw_below_drewN | apply below_drew1) | exact HB.out)) hb); clear HB; have HO213 := n0_; have HB := n1_; clear n0_ n1_; (try clear hb); (try clear hb2); (try clear hk); (try clear hi); (try clear ho0)))
          repeat (go_quiet (first | (go_at_call 41; (with_reducible refine (row_Combine.calls kj2 _ _ l0 _ _ l1 t210 t211 _ ?side1 ?side2 ?side3 ?side4 A13.out).mono ?_); (case side1 => repeat (first | exact (Kd.C_below HR0.out HB.out) | (with_reducible refine Kd.C_alloc ?_ _) | (with_reducible refine Kd.C_drewN ?_ _) | (with_reducible refine Kd.C_drew ?_))); (case side2 => exact HC0.out); (case side3 => repeat (first | exact (Kd.C_below HR1.out HB.out) | (with_reducible refine Kd.C_alloc ?_ _) | (with_reducible refine Kd.C_drewN ?_ _) | (with_reducible refine Kd.C_drew ?_))); (case side4 => exact HC1.out); rintro e w20 ⟨v212, rfl, ho0, hb⟩; have n0_ := Aside0.mk (Kd.R_lower ho0 (below_size (by repeat (first | (with_reducible first | exact HB.out | apply below_alloc | apply pw_below_drewN | apply below_drew1) | exact HB.out)))); have n1_ := Aside0.mk (below_step (by repeat (first | (with_reducible first | exact HB.out | apply below_alloc | apply pw_below_drewN | apply below_drew1) | exact HB.out)) hb); clear HB; have HO213 := n0_; have HB := n1_; clear n0_ n1_; (try clear hb); (try clear hb2); (try clear hk); (try clear hi); (try clear ho0))); try go_wp2_with (first | (go_at_call 41; (with_reducible refine (row_Combine.calls kj2 _ _ l0 _ _ l1 t210 t211 _ ?side1 ?side2 ?side3 ?side4 A13.out).mono ?_); (case side1 => repeat (first | exact (Kd.C_below HR0.out HB.out) | (with_reducible refine Kd.C_alloc ?_ _) | (with_reducible refine Kd.C_drewN ?_ _) | (with_reducible refine Kd.C_drew ?_))); (case side2 => exact HC0.out); (case side3 => repeat (first | exact (Kd.C_below HR1.out HB.out) | (with_reducible refine Kd.C_alloc ?_ _) | (with_reducible refine Kd.C_drewN ?_ _) | (with_reducible refine Kd.C_drew ?_))); (case side4 => exact HC1.out); rintro e w20 ⟨v212, rfl, ho0, hb⟩; have n0_ := Aside0.mk (Kd.R_lower ho0 (below_size (by repeat (first | (with_reducible first | exact HB.out | apply below_alloc | apply pw_below_drewN | apply below_drew1) | exact HB.out)))); have n1_ := Aside0.mk (below_step (by repeat (first | (with_reducible first | exact HB.out | apply below_alloc | apply pw_below_drewN | apply below_drew1) | exact HB.out)) hb); clear HB; have HO213 := n0_; have HB := n1_; clear n0_ n1_; (try clear hb); (try clear hb2); (try clear hk); (try clear hi); (try clear ho0))))
          go_loopg [7] kj2 (fun kq v7 w' => ∃ (x7_2 : Int), v7 = .int .i64 x7_2 ∧ Aside0 (schismalaw05_RowCombines.l0 kq l0 l1 t210 t211 x7_2 = some r) ∧ Aside0 (kq ≤ kj2) ∧ Aside0 (Kd.R (Kd.int .i64) 3 w' w.heap.size (fun _ => True) v212 t210) ∧ Aside0 (Below w.heap.size w w'))
          case atStart => exact ⟨(0), (by first | rfl | (simp; done) | (simp [*]; done)), H', ⟨Nat.le_refl _⟩, ⟨by (with_reducible repeat (first | apply Kd.R_alloc | apply Kd.R_drewN | apply Kd.R_drew)); exact HO213.out⟩, ⟨by repeat (first | (with_reducible first | exact HB.out | apply below_alloc | apply pw_below_drewN | apply below_drew1) | exact HB.out)⟩⟩
          case round =>
            clear H'
            try clear c1
            try clear p2
            try clear c5
            try clear c6
            try clear c6b0
            try clear c6b1
            try clear c8
            try clear c10
            try clear c14
            try clear c14b0
            try clear c14b1
            try clear c14b2
            try clear c15
            try clear c15b0
            try clear c15b1
            try clear c15b2
            try clear p2
            obtain ⟨x7_2, rfl, HA, HK2, HO_5, HB⟩ := hrel
            cases gk with
            | zero => exact absurd HA.out (by simp [schismalaw05_RowCombines.l0])
            | succ k2 =>
              have H := HA.out
              clear HA
              simp only [schismalaw05_RowCombines.l0] at H
              by_cases c21 : x7_2 < (l0.length : Int)
              · rw [if_pos c21] at H
                have c21b0 : decide (x7_2 < (l0.length : Int)) = true := decide_eq_true c21
                clear c21
                by_cases c22 : 0 ≤ x7_2
                · rw [if_pos c22] at H
                  have c22b0 : decide (0 ≤ x7_2) = true := decide_eq_true c22
                  clear c22
                  by_cases c23 : ((rd_L2 l0 x7_2).length : Int) > 10
                  · rw [if_pos c23] at H
                    have c23b0 : decide (10 < ((rd_L2 l0 x7_2).length : Int)) = true := decide_eq_true c23
                    have c23b1 : decide (10 < (rd_L2 l0 x7_2).length) = true := decide_eq_true (by omega)
                    clear c23
                    obtain rfl := Option.some.inj H
                    have p214 : 0 ≤ (x7_2 : Int) := of_decide_eq_true (by first | (with_reducible assumption) | assumption)
                    have q214 : x7_2 < (l0.length : Int) := of_decide_eq_true (by first | (with_reducible assumption) | assumption)
                    obtain ⟨ad214, A214_0, c214_0, e214, hx214_0, hl214_0, hi214_0⟩ := at_L2 HR0.out x7_2 p214 q214
                    cases e214
                    replace hx214_0 := (HB.out.cell (World.block_lt_of_cell? w _ hx214_0)).trans hx214_0
                    have HR214_0 := Aside0.mk hi214_0
                    have HC214_0 := Aside0.mk hl214_0
                    clear hi214_0 hl214_0
                    replace p214 := eq_true p214
                    replace q214 := eq_true q214
                    go_wp2
                    repeat (go_quiet (fail); try go_wp2)
                    go_ret
                    exact ⟨by first | rfl | (simp [errW_none, errW_some] <;> rfl) | (simp [*, errW_none, errW_some] <;> rfl), by repeat (first | (with_reducible first | exact HB.out | apply below_alloc | apply pw_below_drewN | apply below_drew1) | exact HB.out)⟩
                  · rw [if_neg c23] at H
                    have c23b0 : decide (10 < ((rd_L2 l0 x7_2).length : Int)) = false := decide_eq_false c23
                    have c23b1 : decide (10 < (rd_L2 l0 x7_2).length) = false := decide_eq_false (by omega)
                    clear c23
                    replace H := Option.bind_eq_some_iff.mp H
                    obtain ⟨t216, A240, H⟩ := H
                    replace H : (if t216 = 0 then (if 0 < (l0.length : Int) then (schismalaw05_RowCombines.j2 k2 l0 l1 t210 t211 x7_2 t216 (((rd_L2 l0 x7_2).length : Int) != ((rd_L2 l0 0).length : Int))) else (none)) else (schismalaw05_RowCombines.j2 k2 l0 l1 t210 t211 x7_2 t216 false)) = some r := H
                    have A24 := Aside0.mk A240
                    clear A240
                    have HC25 := Aside0.mk H
                    clear H
                    have p214 : 0 ≤ (x7_2 : Int) := of_decide_eq_true (by first | (with_reducible assumption) | assumption)
                    have q214 : x7_2 < (l0.length : Int) := of_decide_eq_true (by first | (with_reducible assumption) | assumption)
                    obtain ⟨ad214, A214_0, c214_0, e214, hx214_0, hl214_0, hi214_0⟩ := at_L2 HR0.out x7_2 p214 q214
                    cases e214
                    replace hx214_0 := (HB.out.cell (World.block_lt_of_cell? w _ hx214_0)).trans hx214_0
                    have HR214_0 := Aside0.mk hi214_0
                    have HC214_0 := Aside0.mk hl214_0
                    clear hi214_0 hl214_0
                    replace p214 := eq_true p214
                    replace q214 := eq_true q214
                    have p215 : 0 ≤ (x7_2 : Int) := of_decide_eq_true (by first | (with_reducible assumption) | assumption)
                    have q215 : x7_2 < (l0.length : Int) := of_decide_eq_true (by first | (with_reducible assumption) | assumption)
                    obtain ⟨ad215, A215_0, c215_0, e215, hx215_0, hl215_0, hi215_0⟩ := at_L2 HR0.out x7_2 p215 q215
                    obtain rfl : ad214 = ad215 := (by injection e215)
                    replace hx215_0 := (HB.out.cell (World.block_lt_of_cell? w _ hx215_0)).trans hx215_0
                    have HR215_0 := Aside0.mk hi215_0
                    have HC215_0 := Aside0.mk hl215_0
                    clear hi215_0 hl215_0
                    replace p215 := eq_true p215
                    replace q215 := eq_true q215
                    have ea_ := Option.some.inj (hx214_0.symm.trans hx215_0)
                    injection ea_ with ea_ en_ ec_
                    subst ea_
                    subst ec_
                    clear en_
                    go_upto_region 12 with (first | (go_at_call 14; (with_reducible refine (schismaref05_Check.calls k2 _ _ (rd_L2 l0 x7_2) t216 _ ?side1 ?side2 A24.out).mono ?_); (case side1 => repeat (first | exact (Kd.C_below HR215_0.out HB.out) | (with_reducible refine Kd.C_alloc ?_ _) | (with_reducible refine Kd.C_drewN ?_ _) | (with_reducible refine Kd.C_drew ?_))); (case side2 => exact HC215_0.out); rintro e w' ⟨rfl, ⟨nd, rfl⟩⟩; (try first | exact ⟨rfl, _, World.drewN_drewN _ _ _⟩ | exact ⟨rfl, _, Eq.trans (World.drewN_drewN _ _ _) (congrArg (World.drewN _) (Nat.add_assoc _ _ _))⟩)))
                    repeat (go_quiet (first | (go_at_call 14; (with_reducible refine (schismaref05_Check.calls k2 _ _ (rd_L2 l0 x7_2) t216 _ ?side1 ?side2 A24.out).mono ?_); (case side1 => repeat (first | exact (Kd.C_below HR215_0.out HB.out) | (with_reducible refine Kd.C_alloc ?_ _) | (with_reducible refine Kd.C_drewN ?_ _) | (with_reducible refine Kd.C_drew ?_))); (case side2 => exact HC215_0.out); rintro e w' ⟨rfl, ⟨nd, rfl⟩⟩; (try first | exact ⟨rfl, _, World.drewN_drewN _ _ _⟩ | exact ⟨rfl, _, Eq.trans (World.drewN_drewN _ _ _) (congrArg (World.drewN _) (Nat.add_assoc _ _ _))⟩))); go_upto_region 12 with (first | (go_at_call 14; (with_reducible refine (schismaref05_Check.calls k2 _ _ (rd_L2 l0 x7_2) t216 _ ?side1 ?side2 A24.out).mono ?_); (case side1 => repeat (first | exact (Kd.C_below HR215_0.out HB.out) | (with_reducible refine Kd.C_alloc ?_ _) | (with_reducible refine Kd.C_drewN ?_ _) | (with_reducible refine Kd.C_drew ?_))); (case side2 => exact HC215_0.out); rintro e w' ⟨rfl, ⟨nd, rfl⟩⟩; (try first | exact ⟨rfl, _, World.drewN_drewN _ _ _⟩ | exact ⟨rfl, _, Eq.trans (World.drewN_drewN _ _ _) (congrArg (World.drewN _) (Nat.add_assoc _ _ _))⟩))))
                    (try simp only [Act.put, List.setIfInBounds_toArray, List.set_cons_zero, List.set_cons_succ])
                    go_cut [71] (fun v71 wc => ∃ (kq : Nat) (x71_24 : Bool), v71 = .bool x71_24 ∧ Aside0 (schismalaw05_RowCombines.j2 kq l0 l1 t210 t211 x7_2 t216 x71_24 = some r) ∧ Aside0 (kq ≤ k2) ∧ Aside0 (Kd.R (Kd.int .i64) 3 wc w.heap.size (fun _ => True) v212 t210) ∧ Aside0 (Below w.heap.size w wc))
                    case first =>
                      have H := HC25.out
                      clear HC25
                      by_cases c26 : t216 = 0
                      · rw [if_pos c26] at H
                        have c26b0 : (t216 == 0) = true := beq_iff_eq.mpr c26
                        have c26b1 : (t216 != 0) = false := bne_eq_false_iff_eq.mpr c26
                        clear c26
                        (first | rw [c26b0] | (simp only [i64_w, i32_w]; rw [c26b0]) | skip)
                        by_cases c27 : 0 < (l0.length : Int)
                        · rw [if_pos c27] at H
                          have c27b0 : decide (0 < (l0.length : Int)) = true := decide_eq_true c27
                          have c27b1 : decide (0 < l0.length) = true := decide_eq_true (by omega)
                          clear c27
                          have H' := Aside0.mk H
                          clear H
                          have p217 : 0 ≤ (x7_2 : Int) := of_decide_eq_true (by first | (with_reducible assumption) | assumption)
                          have q217 : x7_2 < (l0.length : Int) := of_decide_eq_true (by first | (with_reducible assumption) | assumption)
                          obtain ⟨ad217, A217_0, c217_0, e217, hx217_0, hl217_0, hi217_0⟩ := at_L2 HR0.out x7_2 p217 q217
                          obtain rfl : ad214 = ad217 := (by injection e217)
                          replace hx217_0 := (HB.out.cell (World.block_lt_of_cell? w _ hx217_0)).trans hx217_0
                          have HR217_0 := Aside0.mk hi217_0
                          have HC217_0 := Aside0.mk hl217_0
                          clear hi217_0 hl217_0
                          replace p217 := eq_true p217
                          replace q217 := eq_true q217
                          have p218 : 0 ≤ (0 : Int) := (by omega)
                          have q218 : 0 < (l0.length : Int) := of_decide_eq_true (by first | (with_reducible assumption) | assumption)
                          obtain ⟨ad218, A218_0, c218_0, e218, hx218_0, hl218_0, hi218_0⟩ := at_L2 HR0.out 0 p218 q218
                          obtain rfl : ad214 = ad218 := (by injection e218)
                          have qi218 : (0 < l0.length) = True := eq_true (by omega)
                          (try rw [show ((0 : Int)).toNat = 0 from rfl] at hx218_0)
                          (try rw [Addr.add_zero'] at hx218_0)
                          replace hx218_0 := (HB.out.cell (World.block_lt_of_cell? w _ hx218_0)).trans hx218_0
                          have HR218_0 := Aside0.mk hi218_0
                          have HC218_0 := Aside0.mk hl218_0
                          clear hi218_0 hl218_0
                          replace p218 := eq_true p218
                          replace q218 := eq_true q218
                          go_wp2
                          repeat (go_quiet (fail); try go_wp2)
                          go_meet
                          case rel => exact ⟨_, ((((rd_L2 l0 x7_2).length : Int) != ((rd_L2 l0 0).length : Int))), (by first | rfl | (simp; done) | (simp [*]; done)), H', ⟨by have := HJ2.out; have := HK2.out; first | omega | exact Nat.le_refl _⟩, ⟨by (with_reducible repeat (first | apply Kd.R_alloc | apply Kd.R_drewN | apply Kd.R_drew)); exact HO_5.out⟩, ⟨by repeat (first | (with_reducible first | exact HB.out | apply below_alloc | apply pw_below_drewN | apply below_drew1) | exact HB.out)⟩⟩
                        · rw [if_neg c27] at H
                          exact absurd H (by simp)
                      · rw [if_neg c26] at H
                        have c26b0 : (t216 == 0) = false := beq_eq_false_iff_ne.mpr c26
                        have c26b1 : (t216 != 0) = true := bne_iff_ne.mpr c26
                        (first | rw [c26b0] | (simp only [i64_w, i32_w]; rw [c26b0]) | skip)
                        have H' := Aside0.mk H
                        clear H
                        go_wp2
                        repeat (go_quiet (fail); try go_wp2)
                        go_meet
                        case rel => exact ⟨_, (false), (by first | rfl | (simp; done) | (simp [*]; done)), H', ⟨by have := HJ2.out; have := HK2.out; first | omega | exact Nat.le_refl _⟩, ⟨by (with_reducible repeat (first | apply Kd.R_alloc | apply Kd.R_drewN | apply Kd.R_drew)); exact HO_5.out⟩, ⟨by repeat (first | (with_reducible first | exact HB.out | apply below_alloc | apply pw_below_drewN | apply below_drew1) | exact HB.out)⟩⟩
                    case rest =>
                      clear HC25
                      try clear c1
                      try clear c2
                      try clear p2
                      try clear q2
                      try clear hx2
                      try clear qi2
                      try clear c5
                      try clear c6
                      try clear c6b0
                      try clear c6b1
                      try clear c8
                      try clear c10
                      try clear c14
                      try clear c14b0
                      try clear c14b1
                      try clear c14b2
                      try clear c15
                      try clear c15b0
                      try clear c15b1
                      try clear c15b2
                      try clear c21
                      try clear c21b0
                      try clear p21
                      try clear q21
                      try clear hx21
                      try clear qi21
                      try clear c22
                      try clear c22b0
                      try clear c23
                      try clear c23b0
                      try clear c23b1
                      try clear c26
                      try clear c26b0
                      try clear c26b1
                      try clear c27
                      try clear c27b0
                      try clear c27b1
                      try clear hx214_0
                      try clear hx215_0
                      try clear hx217_0
                      try clear hx218_0
                      try clear p2
                      try clear p214
                      try clear p215
                      try clear p217
                      try clear p218
                      try clear q214
                      try clear q215
                      try clear q217
                      try clear q218
                      obtain ⟨kq, x71_24, rfl, HA, HJ24, HO_5, HB⟩ := hcut
                      cases kq with
                      | zero => exact absurd HA.out (by simp [schismalaw05_RowCombines.j2])
                      | succ kj24 =>
                        have H := HA.out
                        clear HA
                        simp only [schismalaw05_RowCombines.j2] at H
                        by_cases c28 : x71_24 = true
                        · subst c28
                          have H1 : (if 5 = 0 then (schismalaw05_RowCombines.l0 kj24 l0 l1 t210 t211 (wrap64 (x7_2 + 1))) else (if (t210.length : Int) = 0 then (some (t211 == 5)) else (some false))) = some r := by rw [if_pos rfl] at H; exact H
                          clear H
                          have H := H1
                          clear H1
                          by_cases c29 : 5 = 0
                          · exact absurd c29 (by decide)
                          · rw [if_neg c29] at H
                            have c29b0 : (5 == 0) = false := beq_eq_false_iff_ne.mpr c29
                            have c29b1 : (5 != 0) = true := bne_iff_ne.mpr c29
                            by_cases c30 : (t210.length : Int) = 0
                            · rw [if_pos c30] at H
                              have c30b0 : ((t210.length : Int) == 0) = true := beq_iff_eq.mpr c30
                              have c30b1 : ((t210.length : Int) != 0) = false := bne_eq_false_iff_eq.mpr c30
                              clear c30
                              obtain rfl := Option.some.inj H
                              obtain ⟨Ao31, co31, eo31⟩ := Kd.R_slice HO_5.out
                              subst eo31
                              go_wp2
                              repeat (go_quiet (fail); try go_wp2)
                              go_ret
                              exact ⟨by first | rfl | (simp [errW_none, errW_some] <;> rfl) | (simp [*, errW_none, errW_some] <;> rfl), by repeat (first | (with_reducible first | exact HB.out | apply below_alloc | apply pw_below_drewN | apply below_drew1) | exact HB.out)⟩
                            · rw [if_neg c30] at H
                              have c30b0 : ((t210.length : Int) == 0) = false := beq_eq_false_iff_ne.mpr c30
                              have c30b1 : ((t210.length : Int) != 0) = true := bne_iff_ne.mpr c30
                              have c30b2 : ¬ (t210 = []) := fun h_ => c30 (by rw [h_]; rfl)
                              obtain rfl := Option.some.inj H
                              obtain ⟨Ao32, co32, eo32⟩ := Kd.R_slice HO_5.out
                              subst eo32
                              go_wp2
                              repeat (go_quiet (fail); try go_wp2)
                              go_ret
                              exact ⟨by first | rfl | (simp [errW_none, errW_some] <;> rfl) | (simp [*, errW_none, errW_some] <;> rfl), by repeat (first | (with_reducible first | exact HB.out | apply below_alloc | apply pw_below_drewN | apply below_drew1) | exact HB.out)⟩
                        · replace c28 := Bool.eq_false_iff.mpr c28
                          subst c28
                          have H1 : (if t216 = 0 then (schismalaw05_RowCombines.l0 kj24 l0 l1 t210 t211 (wrap64 (x7_2 + 1))) else (if (t210.length : Int) = 0 then (some (t211 == t216)) else (some false))) = some r := by rw [if_neg (show ¬ (false = true) by decide)] at H; exact H
                          clear H
                          have H := H1
                          clear H1
                          by_cases c33 : t216 = 0
                          · rw [if_pos c33] at H
                            have c33b0 : (t216 == 0) = true := beq_iff_eq.mpr c33
                            have c33b1 : (t216 != 0) = false := bne_eq_false_iff_eq.mpr c33
                            clear c33
                            have H' := Aside0.mk H
                            clear H
                            go_wp2
                            repeat (go_quiet (fail); try go_wp2)
                            go_roundg kj24
                            case measure => have := HJ2.out; have := HK2.out; have := HJ24.out; omega
                            case rel => exact ⟨(wrap64 (x7_2 + 1)), (by first | rfl | (simp; done) | (simp [*]; done)), H', ⟨by have := HJ2.out; have := HK2.out; have := HJ24.out; omega⟩, ⟨by (with_reducible repeat (first | apply Kd.R_alloc | apply Kd.R_drewN | apply Kd.R_drew)); exact HO_5.out⟩, ⟨by repeat (first | (with_reducible first | exact HB.out | apply below_alloc | apply pw_below_drewN | apply below_drew1) | exact HB.out)⟩⟩
                          · rw [if_neg c33] at H
                            have c33b0 : (t216 == 0) = false := beq_eq_false_iff_ne.mpr c33
                            have c33b1 : (t216 != 0) = true := bne_iff_ne.mpr c33
                            by_cases c34 : (t210.length : Int) = 0
                            · rw [if_pos c34] at H
                              have c34b0 : ((t210.length : Int) == 0) = true := beq_iff_eq.mpr c34
                              have c34b1 : ((t210.length : Int) != 0) = false := bne_eq_false_iff_eq.mpr c34
                              clear c34
                              obtain rfl := Option.some.inj H
                              obtain ⟨Ao35, co35, eo35⟩ := Kd.R_slice HO_5.out
                              subst eo35
                              go_wp2
                              repeat (go_quiet (fail); try go_wp2)
                              go_ret
                              exact ⟨by first | rfl | (simp [errW_none, errW_some] <;> rfl) | (simp [*, errW_none, errW_some] <;> rfl), by repeat (first | (with_reducible first | exact HB.out | apply below_alloc | apply pw_below_drewN | apply below_drew1) | exact HB.out)⟩
                            · rw [if_neg c34] at H
                              have c34b0 : ((t210.length : Int) == 0) = false := beq_eq_false_iff_ne.mpr c34
                              have c34b1 : ((t210.length : Int) != 0) = true := bne_iff_ne.mpr c34
                              have c34b2 : ¬ (t210 = []) := fun h_ => c34 (by rw [h_]; rfl)
                              obtain rfl := Option.some.inj H
                              obtain ⟨Ao36, co36, eo36⟩ := Kd.R_slice HO_5.out
                              subst eo36
                              go_wp2
                              repeat (go_quiet (fail); try go_wp2)
                              go_ret
                              exact ⟨by first | rfl | (simp [errW_none, errW_some] <;> rfl) | (simp [*, errW_none, errW_some] <;> rfl), by repeat (first | (with_reducible first | exact HB.out | apply below_alloc | apply pw_below_drewN | apply below_drew1) | exact HB.out)⟩
                · rw [if_neg c22] at H
                  exact absurd H (by simp)
              · rw [if_neg c21] at H
                have c21b0 : decide (x7_2 < (l0.length : Int)) = false := decide_eq_false c21
                clear c21
                replace H := Option.bind_eq_some_iff.mp H
                obtain ⟨t219, A370, H⟩ := H
                replace H : (if t219 = 0 then (schismalaw05_RowCombines.j3 k2 l0 l1 t210 t211 t219 ((l1.length : Int) != (l0.length : Int))) else (schismalaw05_RowCombines.j3 k2 l0 l1 t210 t211 t219 false)) = some r := H
                have A37 := Aside0.mk A370
                clear A370
                have HC38 := Aside0.mk H
                clear H
                go_upto_region 17 with (first | (go_at_call 14; (with_reducible refine (schismaref05_Check.calls k2 _ _ l1 t219 _ ?side1 ?side2 A37.out).mono ?_); (case side1 => repeat (first | exact (Kd.C_below HR1.out HB.out) | (with_reducible refine Kd.C_alloc ?_ _) | (with_reducible refine Kd.C_drewN ?_ _) | (with_reducible refine Kd.C_drew ?_))); (case side2 => exact HC1.out); rintro e w' ⟨rfl, ⟨nd, rfl⟩⟩; (try first | exact ⟨rfl, _, World.drewN_drewN _ _ _⟩ | exact ⟨rfl, _, Eq.trans (World.drewN_drewN _ _ _) (congrArg (World.drewN _) (Nat.add_assoc _ _ _))⟩)))
                repeat (go_quiet (first | (go_at_call 14; (with_reducible refine (schismaref05_Check.calls k2 _ _ l1 t219 _ ?side1 ?side2 A37.out).mono ?_); (case side1 => repeat (first | exact (Kd.C_below HR1.out HB.out) | (with_reducible refine Kd.C_alloc ?_ _) | (with_reducible refine Kd.C_drewN ?_ _) | (with_reducible refine Kd.C_drew ?_))); (case side2 => exact HC1.out); rintro e w' ⟨rfl, ⟨nd, rfl⟩⟩; (try first | exact ⟨rfl, _, World.drewN_drewN _ _ _⟩ | exact ⟨rfl, _, Eq.trans (World.drewN_drewN _ _ _) (congrArg (World.drewN _) (Nat.add_assoc _ _ _))⟩))); go_upto_region 17 with (first | (go_at_call 14; (with_reducible refine (schismaref05_Check.calls k2 _ _ l1 t219 _ ?side1 ?side2 A37.out).mono ?_); (case side1 => repeat (first | exact (Kd.C_below HR1.out HB.out) | (with_reducible refine Kd.C_alloc ?_ _) | (with_reducible refine Kd.C_drewN ?_ _) | (with_reducible refine Kd.C_drew ?_))); (case side2 => exact HC1.out); rintro e w' ⟨rfl, ⟨nd, rfl⟩⟩; (try first | exact ⟨rfl, _, World.drewN_drewN _ _ _⟩ | exact ⟨rfl, _, Eq.trans (World.drewN_drewN _ _ _) (congrArg (World.drewN _) (Nat.add_assoc _ _ _))⟩))))
                (try simp only [Act.put, List.setIfInBounds_toArray, List.set_cons_zero, List.set_cons_succ])
                go_cut [92] (fun v92 wc => ∃ (kq : Nat) (x92_37 : Bool), v92 = .bool x92_37 ∧ Aside0 (schismalaw05_RowCombines.j3 kq l0 l1 t210 t211 t219 x92_37 = some r) ∧ Aside0 (kq ≤ k2) ∧ Aside0 (Kd.R (Kd.int .i64) 3 wc w.heap.size (fun _ => True) v212 t210) ∧ Aside0 (Below w.heap.size w wc))
                case first =>
                  have H := HC38.out
                  clear HC38
                  by_cases c39 : t219 = 0
                  · rw [if_pos c39] at H
                    have c39b0 : (t219 == 0) = true := beq_iff_eq.mpr c39
                    have c39b1 : (t219 != 0) = false := bne_eq_false_iff_eq.mpr c39
                    clear c39
                    (first | rw [c39b0] | (simp only [i64_w, i32_w]; rw [c39b0]) | skip)
                    have H' := Aside0.mk H
                    clear H
                    go_wp2
                    repeat (go_quiet (fail); try go_wp2)
                    go_meet
                    case rel => exact ⟨_, (((l1.length : Int) != (l0.length : Int))), (by first | rfl | (simp; done) | (simp [*]; done)), H', ⟨by have := HJ2.out; have := HK2.out; first | omega | exact Nat.le_refl _⟩, ⟨by (with_reducible repeat (first | apply Kd.R_alloc | apply Kd.R_drewN | apply Kd.R_drew)); exact HO_5.out⟩, ⟨by repeat (first | (with_reducible first | exact HB.out | apply below_alloc | apply pw_below_drewN | apply below_drew1) | exact HB.out)⟩⟩
                  · rw [if_neg c39] at H
                    have c39b0 : (t219 == 0) = false := beq_eq_false_iff_ne.mpr c39
                    have c39b1 : (t219 != 0) = true := bne_iff_ne.mpr c39
                    (first | rw [c39b0] | (simp only [i64_w, i32_w]; rw [c39b0]) | skip)
                    have H' := Aside0.mk H
                    clear H
                    go_wp2
                    repeat (go_quiet (fail); try go_wp2)
                    go_meet
                    case rel => exact ⟨_, (false), (by first | rfl | (simp; done) | (simp [*]; done)), H', ⟨by have := HJ2.out; have := HK2.out; first | omega | exact Nat.le_refl _⟩, ⟨by (with_reducible repeat (first | apply Kd.R_alloc | apply Kd.R_drewN | apply Kd.R_drew)); exact HO_5.out⟩, ⟨by repeat (first | (with_reducible first | exact HB.out | apply below_alloc | apply pw_below_drewN | apply below_drew1) | exact HB.out)⟩⟩
                case rest =>
                  clear HC38
                  try clear c1
                  try clear c2
                  try clear p2
                  try clear q2
                  try clear hx2
                  try clear qi2
                  try clear c3
                  try clear c5
                  try clear c6
                  try clear c6b0
                  try clear c6b1
                  try clear p6
                  try clear c8
                  try clear c10
                  try clear c14
                  try clear c14b0
                  try clear c14b1
                  try clear c14b2
                  try clear c15
                  try clear c15b0
                  try clear c15b1
                  try clear c15b2
                  try clear c21
                  try clear c21b0
                  try clear p21
                  try clear q21
                  try clear hx21
                  try clear qi21
                  try clear c22
                  try clear c22b0
                  try clear c23
                  try clear c23b0
                  try clear c23b1
                  try clear c26
                  try clear c26b0
                  try clear c26b1
                  try clear c27
                  try clear c27b0
                  try clear c27b1
                  try clear c28
                  try clear c29
                  try clear c29b0
                  try clear c29b1
                  try clear c30
                  try clear c30b0
                  try clear c30b1
                  try clear c30b2
                  try clear c33
                  try clear c33b0
                  try clear c33b1
                  try clear c34
                  try clear c34b0
                  try clear c34b1
                  try clear c34b2
                  try clear c39
                  try clear c39b0
                  try clear c39b1
                  try clear hx214_0
                  try clear hx215_0
                  try clear hx217_0
                  try clear hx218_0
                  try clear p2
                  try clear p21
                  try clear p214
                  try clear p215
                  try clear p217
                  try clear p218
                  try clear q2
                  try clear q21
                  try clear q214
                  try clear q215
                  try clear q217
                  try clear q218
                  obtain ⟨kq, x92_37, rfl, HA, HJ37, HO_5, HB⟩ := hcut
                  cases kq with
                  | zero => exact absurd HA.out (by simp [schismalaw05_RowCombines.j3])
                  | succ kj37 =>
                    have H := HA.out
                    clear HA
                    simp only [schismalaw05_RowCombines.j3] at H
                    have HC40 := Aside0.mk H
                    clear H
                    go_upto_if 92 with (fail)
                    repeat (go_quiet (fail); go_upto_if 92 with (fail))
                    go_cut [9] (fun v9 wc => ∃ (kq : Nat) (x9_39 : Int), v9 = .int .i64 x9_39 ∧ Aside0 (schismalaw05_RowCombines.j4 kq l0 l1 t210 t211 x9_39 = some r) ∧ Aside0 (kq ≤ kj37) ∧ Aside0 (Kd.R (Kd.int .i64) 3 wc w.heap.size (fun _ => True) v212 t210) ∧ Aside0 (Below w.heap.size w wc))
                    case first =>
                      have H := HC40.out
                      clear HC40
                      by_cases c41 : x92_37 = true
                      · subst c41
                        have H1 : (schismalaw05_RowCombines.j4 kj37 l0 l1 t210 t211 5) = some r := by rw [if_pos rfl] at H; exact H
                        clear H
                        have H := H1
                        clear H1
                        have H' := Aside0.mk H
                        clear H
                        go_wp2
                        repeat (go_quiet (fail); try go_wp2)
                        go_meet
                        case rel => exact ⟨_, (5), (by first | rfl | (simp; done) | (simp [*]; done)), H', ⟨by have := HJ2.out; have := HK2.out; have := HJ37.out; first | omega | exact Nat.le_refl _⟩, ⟨by (with_reducible repeat (first | apply Kd.R_alloc | apply Kd.R_drewN | apply Kd.R_drew)); exact HO_5.out⟩, ⟨by repeat (first | (with_reducible first | exact HB.out | apply below_alloc | apply pw_below_drewN | apply below_drew1) | exact HB.out)⟩⟩
                      · replace c41 := Bool.eq_false_iff.mpr c41
                        subst c41
                        have H1 : (schismalaw05_RowCombines.j4 kj37 l0 l1 t210 t211 t219) = some r := by rw [if_neg (show ¬ (false = true) by decide)] at H; exact H
                        clear H
                        have H := H1
                        clear H1
                        have H' := Aside0.mk H
                        clear H
                        go_wp2
                        repeat (go_quiet (fail); try go_wp2)
                        go_meet
                        case rel => exact ⟨_, (t219), (by first | rfl | (simp; done) | (simp [*]; done)), H', ⟨by have := HJ2.out; have := HK2.out; have := HJ37.out; first | omega | exact Nat.le_refl _⟩, ⟨by (with_reducible repeat (first | apply Kd.R_alloc | apply Kd.R_drewN | apply Kd.R_drew)); exact HO_5.out⟩, ⟨by repeat (first | (with_reducible first | exact HB.out | apply below_alloc | apply pw_below_drewN | apply below_drew1) | exact HB.out)⟩⟩
                    case rest =>
                      clear HC40
                      try clear c1
                      try clear c2
                      try clear p2
                      try clear q2
                      try clear hx2
                      try clear qi2
                      try clear c3
                      try clear c4
                      try clear c5
                      try clear c6
                      try clear c6b0
                      try clear c6b1
                      try clear p6
                      try clear c8
                      try clear c10
                      try clear c14
                      try clear c14b0
                      try clear c14b1
                      try clear c14b2
                      try clear c15
                      try clear c15b0
                      try clear c15b1
                      try clear c15b2
                      try clear c21
                      try clear c21b0
                      try clear p21
                      try clear q21
                      try clear hx21
                      try clear qi21
                      try clear c22
                      try clear c22b0
                      try clear c23
                      try clear c23b0
                      try clear c23b1
                      try clear c26
                      try clear c26b0
                      try clear c26b1
                      try clear c27
                      try clear c27b0
                      try clear c27b1
                      try clear c28
                      try clear c29
                      try clear c29b0
                      try clear c29b1
                      try clear c30
                      try clear c30b0
                      try clear c30b1
                      try clear c30b2
                      try clear c33
                      try clear c33b0
                      try clear c33b1
                      try clear c34
                      try clear c34b0
                      try clear c34b1
                      try clear c34b2
                      try clear c39
                      try clear c39b0
                      try clear c39b1
                      try clear c41
                      try clear hx214_0
                      try clear hx215_0
                      try clear hx217_0
                      try clear hx218_0
                      try clear p2
                      try clear p21
                      try clear p214
                      try clear p215
                      try clear p217
                      try clear p218
                      try clear p6
                      try clear q2
                      try clear q21
                      try clear q214
                      try clear q215
                      try clear q217
                      try clear q218
                      obtain ⟨kq, x9_39, rfl, HA, HJ39, HO_5, HB⟩ := hcut
                      cases kq with
                      | zero => exact absurd HA.out (by simp [schismalaw05_RowCombines.j4])
                      | succ kj39 =>
                        have H := HA.out
                        clear HA
                        simp only [schismalaw05_RowCombines.j4] at H
                        by_cases c42 : x9_39 = 0
                        · rw [if_pos c42] at H
                          have c42b0 : (x9_39 == 0) = true := beq_iff_eq.mpr c42
                          have c42b1 : (x9_39 != 0) = false := bne_eq_false_iff_eq.mpr c42
                          clear c42
                          replace H := Option.bind_eq_some_iff.mp H
                          obtain ⟨⟨t220, t221⟩, A430, H⟩ := H
                          replace H : ((schismalaw05_same.f kj39 t210 t211 t220 t221).bind fun t224 => (some t224)) = some r := H
                          have A43 := Aside0.mk A430
                          clear A430
                          replace H := Option.bind_eq_some_iff.mp H
                          obtain ⟨t224, A440, H⟩ := H
                          replace H : (some t224) = some r := H
                          have A44 := Aside0.mk A440
                          clear A440
                          obtain rfl := Option.some.inj H
                          go_wp2_with (first | (go_at_call 42; (with_reducible refine (schismaref05_Combine.calls kj39 _ _ l0 _ _ l1 t220 t221 _ ?side1 ?side2 ?side3 ?side4 A43.out).mono ?_); (case side1 => repeat (first | exact (Kd.C_below HR0.out HB.out) | (with_reducible refine Kd.C_alloc ?_ _) | (with_reducible refine Kd.C_drewN ?_ _) | (with_reducible refine Kd.C_drew ?_))); (case side2 => exact HC0.out); (case side3 => repeat (first | exact (Kd.C_below HR1.out HB.out) | (with_reducible refine Kd.C_alloc ?_ _) | (with_reducible refine Kd.C_drewN ?_ _) | (with_reducible refine Kd.C_drew ?_))); (case side4 => exact HC1.out); rintro e w45 ⟨v222, rfl, ho0, hb⟩; have n0_ := Aside0.mk (Kd.R_elder' (by (with_reducible repeat (first | apply Kd.R_alloc | apply Kd.R_drewN | apply Kd.R_drew)); exact HO_5.out) (Kd.R_base ho0) hb); have n1_ := Aside0.mk (Kd.R_lower (Kd.R_new' ho0 (Kd.R_lt (by (with_reducible repeat (first | apply Kd.R_alloc | apply Kd.R_drewN | apply Kd.R_drew)); exact HO_5.out))) (below_size (by repeat (first | (with_reducible first | exact HB.out | apply below_alloc | apply pw_below_drewN | apply below_drew1) | exact HB.out)))); have n2_ := Aside0.mk (below_step (by repeat (first | (with_reducible first | exact HB.out | apply below_alloc | apply pw_below_drewN | apply below_drew1) | exact HB.out)) hb); clear HO_5; clear HB; have HO_5 := n0_; have HO223 := n1_; have HB := n2_; clear n0_ n1_ n2_; (try clear hb); (try clear hb2); (try clear hk); (try clear hi); (try clear ho0); obtain ⟨Ao46, co46, eo46⟩ := Kd.R_slice HO_5.out; subst eo46; obtain ⟨Ao47, co47, eo47⟩ := Kd.R_slice HO223.out; subst eo47) | (go_at_call 33; (with_reducible refine (schismalaw05_same.calls kj39 _ _ t210 t211 _ _ t220 t221 t224 _ ?side1 ?side2 ?side3 ?side4 A44.out).mono ?_); (case side1 => repeat (first | exact (Kd.R_reads' HO_5.out).2.2 | (with_reducible refine Kd.C_alloc ?_ _) | (with_reducible refine Kd.C_drewN ?_ _) | (with_reducible refine Kd.C_drew ?_))); (case side2 => exact (Kd.R_reads' HO_5.out).2.1); (case side3 => repeat (first | exact (Kd.R_reads' HO223.out).2.2 | (with_reducible refine Kd.C_alloc ?_ _) | (with_reducible refine Kd.C_drewN ?_ _) | (with_reducible refine Kd.C_drew ?_))); (case side4 => exact (Kd.R_reads' HO223.out).2.1); rintro e w' ⟨rfl, ⟨nd, rfl⟩⟩; (try first | exact ⟨rfl, _, World.drewN_drewN _ _ _⟩ | exact ⟨rfl, _, Eq.trans (World.drewN_drewN _ _ _) (congrArg (World.drewN _) (Nat.add_assoc _ _ _))⟩)))
                          repeat (go_quiet (first | (go_at_call 42; (with_reducible refine (schismaref05_Combine.calls kj39 _ _ l0 _ _ l1 t220 t221 _ ?side1 ?side2 ?side3 ?side4 A43.out).mono ?_); (case side1 => repeat (first | exact (Kd.C_below HR0.out HB.out) | (with_reducible refine Kd.C_alloc ?_ _) | (with_reducible refine Kd.C_drewN ?_ _) | (with_reducible refine Kd.C_drew ?_))); (case side2 => exact HC0.out); (case side3 => repeat (first | exact (Kd.C_below HR1.out HB.out) | (with_reducible refine Kd.C_alloc ?_ _) | (with_reducible refine Kd.C_drewN ?_ _) | (with_reducible refine Kd.C_drew ?_))); (case side4 => exact HC1.out); rintro e w45 ⟨v222, rfl, ho0, hb⟩; have n0_ := Aside0.mk (Kd.R_elder' (by (with_reducible repeat (first | apply Kd.R_alloc | apply Kd.R_drewN | apply Kd.R_drew)); exact HO_5.out) (Kd.R_base ho0) hb); have n1_ := Aside0.mk (Kd.R_lower (Kd.R_new' ho0 (Kd.R_lt (by (with_reducible repeat (first | apply Kd.R_alloc | apply Kd.R_drewN | apply Kd.R_drew)); exact HO_5.out))) (below_size (by repeat (first | (with_reducible first | exact HB.out | apply below_alloc | apply pw_below_drewN | apply below_drew1) | exact HB.out)))); have n2_ := Aside0.mk (below_step (by repeat (first | (with_reducible first | exact HB.out | apply below_alloc | apply pw_below_drewN | apply below_drew1) | exact HB.out)) hb); clear HO_5; clear HB; have HO_5 := n0_; have HO223 := n1_; have HB := n2_; clear n0_ n1_ n2_; (try clear hb); (try clear hb2); (try clear hk); (try clear hi); (try clear ho0); obtain ⟨Ao46, co46, eo46⟩ := Kd.R_slice HO_5.out; subst eo46; obtain ⟨Ao47, co47, eo47⟩ := Kd.R_slice HO223.out; subst eo47) | (go_at_call 33; (with_reducible refine (schismalaw05_same.calls kj39 _ _ t210 t211 _ _ t220 t221 t224 _ ?side1 ?side2 ?side3 ?side4 A44.out).mono ?_); (case side1 => repeat (first | exact (Kd.R_reads' HO_5.out).2.2 | (with_reducible refine Kd.C_alloc ?_ _) | (with_reducible refine Kd.C_drewN ?_ _) | (with_reducible refine Kd.C_drew ?_))); (case side2 => exact (Kd.R_reads' HO_5.out).2.1); (case side3 => repeat (first | exact (Kd.R_reads' HO223.out).2.2 | (with_reducible refine Kd.C_alloc ?_ _) | (with_reducible refine Kd.C_drewN ?_ _) | (with_reducible refine Kd.C_drew ?_))); (case side4 => exact (Kd.R_reads' HO223.out).2.1); rintro e w' ⟨rfl, ⟨nd, rfl⟩⟩; (try first | exact ⟨rfl, _, World.drewN_drewN _ _ _⟩ | exact ⟨rfl, _, Eq.trans (World.drewN_drewN _ _ _) (congrArg (World.drewN _) (Nat.add_assoc _ _ _))⟩))); try go_wp2_with (first | (go_at_call 42; (with_reducible refine (schismaref05_Combine.calls kj39 _ _ l0 _ _ l1 t220 t221 _ ?side1 ?side2 ?side3 ?side4 A43.out).mono ?_); (case side1 => repeat (first | exact (Kd.C_below HR0.out HB.out) | (with_reducible refine Kd.C_alloc ?_ _) | (with_reducible refine Kd.C_drewN ?_ _) | (with_reducible refine Kd.C_drew ?_))); (case side2 => exact HC0.out); (case side3 => repeat (first | exact (Kd.C_below HR1.out HB.out) | (with_reducible refine Kd.C_alloc ?_ _) | (with_reducible refine Kd.C_drewN ?_ _) | (with_reducible refine Kd.C_drew ?_))); (case side4 => exact HC1.out); rintro e w45 ⟨v222, rfl, ho0, hb⟩; have n0_ := Aside0.mk (Kd.R_elder' (by (with_reducible repeat (first | apply Kd.R_alloc | apply Kd.R_drewN | apply Kd.R_drew)); exact HO_5.out) (Kd.R_base ho0) hb); have n1_ := Aside0.mk (Kd.R_lower (Kd.R_new' ho0 (Kd.R_lt (by (with_reducible repeat (first | apply Kd.R_alloc | apply Kd.R_drewN | apply Kd.R_drew)); exact HO_5.out))) (below_size (by repeat (first | (with_reducible first | exact HB.out | apply below_alloc | apply pw_below_drewN | apply below_drew1) | exact HB.out)))); have n2_ := Aside0.mk (below_step (by repeat (first | (with_reducible first | exact HB.out | apply below_alloc | apply pw_below_drewN | apply below_drew1) | exact HB.out)) hb); clear HO_5; clear HB; have HO_5 := n0_; have HO223 := n1_; have HB := n2_; clear n0_ n1_ n2_; (try clear hb); (try clear hb2); (try clear hk); (try clear hi); (try clear ho0); obtain ⟨Ao46, co46, eo46⟩ := Kd.R_slice HO_5.out; subst eo46; obtain ⟨Ao47, co47, eo47⟩ := Kd.R_slice HO223.out; subst eo47) | (go_at_call 33; (with_reducible refine (schismalaw05_same.calls kj39 _ _ t210 t211 _ _ t220 t221 t224 _ ?side1 ?side2 ?side3 ?side4 A44.out).mono ?_); (case side1 => repeat (first | exact (Kd.R_reads' HO_5.out).2.2 | (with_reducible refine Kd.C_alloc ?_ _) | (with_reducible refine Kd.C_drewN ?_ _) | (with_reducible refine Kd.C_drew ?_))); (case side2 => exact (Kd.R_reads' HO_5.out).2.1); (case side3 => repeat (first | exact (Kd.R_reads' HO223.out).2.2 | (with_reducible refine Kd.C_alloc ?_ _) | (with_reducible refine Kd.C_drewN ?_ _) | (with_reducible refine Kd.C_drew ?_))); (case side4 => exact (Kd.R_reads' HO223.out).2.1); rintro e w' ⟨rfl, ⟨nd, rfl⟩⟩; (try first | exact ⟨rfl, _, World.drewN_drewN _ _ _⟩ | exact ⟨rfl, _, Eq.trans (World.drewN_drewN _ _ _) (congrArg (World.drewN _) (Nat.add_assoc _ _ _))⟩))))
                          go_ret
                          exact ⟨by first | rfl | (simp [errW_none, errW_some] <;> rfl) | (simp [*, errW_none, errW_some] <;> rfl), by repeat (first | (with_reducible first | exact HB.out | apply below_alloc | apply pw_below_drewN | apply below_drew1) | exact HB.out)⟩
                        · rw [if_neg c42] at H
                          have c42b0 : (x9_39 == 0) = false := beq_eq_false_iff_ne.mpr c42
                          have c42b1 : (x9_39 != 0) = true := bne_iff_ne.mpr c42
                          by_cases c48 : (t210.length : Int) = 0
                          · rw [if_pos c48] at H
                            have c48b0 : ((t210.length : Int) == 0) = true := beq_iff_eq.mpr c48
                            have c48b1 : ((t210.length : Int) != 0) = false := bne_eq_false_iff_eq.mpr c48
                            clear c48
                            obtain rfl := Option.some.inj H
                            obtain ⟨Ao49, co49, eo49⟩ := Kd.R_slice HO_5.out
                            subst eo49
                            go_wp2
                            repeat (go_quiet (fail); try go_wp2)
                            go_ret
                            exact ⟨by first | rfl | (simp [errW_none, errW_some] <;> rfl) | (simp [*, errW_none, errW_some] <;> rfl), by repeat (first | (with_reducible first | exact HB.out | apply below_alloc | apply pw_below_drewN | apply below_drew1) | exact HB.out)⟩
                          · rw [if_neg c48] at H
                            have c48b0 : ((t210.length : Int) == 0) = false := beq_eq_false_iff_ne.mpr c48
                            have c48b1 : ((t210.length : Int) != 0) = true := bne_iff_ne.mpr c48
                            have c48b2 : ¬ (t210 = []) := fun h_ => c48 (by rw [h_]; rfl)
                            obtain rfl := Option.some.inj H
                            obtain ⟨Ao50, co50, eo50⟩ := Kd.R_slice HO_5.out
                            subst eo50
                            go_wp2
                            repeat (go_quiet (fail); try go_wp2)
                            go_ret
                            exact ⟨by first | rfl | (simp [errW_none, errW_some] <;> rfl) | (simp [*, errW_none, errW_some] <;> rfl), by repeat (first | (with_reducible first | exact HB.out | apply below_alloc | apply pw_below_drewN | apply below_drew1) | exact HB.out)⟩

/-- THE ONE PURE STATEMENT of schismalaw05_RowCombines. -/
def schismalaw05_RowCombines.Pure : Prop := ∀ (l0 : List (List Int)) (l1 : List Int), ∃ k, schismalaw05_RowCombines.f k l0 l1 = some true
theorem schismalaw05_RowCombines.walk (P : schismalaw05_RowCombines.Pure) (a0 : Option Addr) (cap0 : Nat) (l0 : List (List Int)) (a1 : Option Addr) (len1 cap1 : Nat) (z1 : List Int) (w : World) (hr0 : Kd.C (Kd.slice 3 (Kd.int .i64)) w a0 l0.length l0) (hc0 : l0.length ≤ cap0) (w1 : (a1 = none ∧ len1 = 0 ∧ cap1 = 0 ∧ z1 = []) ∨ ∃ x, a1 = some x ∧ len1 ≤ cap1 ∧ cap1 ≤ maxLen ∧ z1.length = cap1 ∧ (∀ i, i < z1.length → w.cell? (x.add i) = some (.int .i64 (z1.getD i 0))) ∧ ∀ n ∈ z1, (Lit.int .i64 n).wf = true) (hG_tab : TabOK w) :
    Calls Tryd.prog 8 #[.slice a0 l0.length cap0, .slice a1 len1 cap1] w fun e w' => e = .returned (.bool true) ∧ Below w.heap.size w w' := by
  obtain ⟨l1, rfl, hr1, hm1, hw1, hc1⟩ := ReadsInt.ofRowC w1
  obtain ⟨k, h⟩ := P l0 l1
  refine (schismalaw05_RowCombines.calls k _ _ l0 _ _ l1 true w hr0 hc0 (Kd.C_of_reads (d := (0 : Int)) (h1 := fun _ => rfl) hr1) hc1 hG_tab h).mono ?_
  rintro e w' ⟨rfl, hd⟩
  exact ⟨rfl, hd⟩

end Go.Proofs.YtpbbekbdpodedaaDoor.PR
