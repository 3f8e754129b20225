-- WRITTEN BY wip/myprint.py (the kit's print, with contracts of this session's own beside it).
import Derived.Test.YtpbbekbdpodedaaDoorPR0
import Derived.Test.YtpbbekbdpodedaaDoorPR3
import Derived.Test.YtpbbekbdpodedaaDoorPR6
import Derived.Test.YtpbbekbdpodedaaDoorPR10
namespace Go.Proofs.YtpbbekbdpodedaaDoor.PR
open Go.RowKit Go.Proofs.YtpbbekbdpodedaaDoorW.PrintWords Go.Proofs.YtpbbekbdpodedaaDoorW.PrintLast Go.Proofs.YtpbbekbdpodedaaDoorW.PrintMore
attribute [local go_sem] max2_int min2_int max_two min_two max_three min_three max_four min_four   -- for this text's walks alone
set_option linter.unusedVariables false
set_option linter.unusedSimpArgs false

/-! ### schismalaw05_RowUnits: function 5 -/
mutual
def schismalaw05_RowUnits.j0 : Nat → Int → Int → List Int → Int → List Int → Int → Bool → Option (Bool)
  | 0, _, _, _, _, _, _, _ => none
  | k + 1, x0, x1, x5, x6, x7, x8, x27 => if x27 = true then (if (wrap64 ((x5.length : Int) + (x7.length : Int))) = 0 then (if x6 = 3 then (some (x8 == 3)) else (some false)) else (some false)) else (if x6 = 0 then (if (x5.length : Int) = x0 then ((schismaref05_IsZero.f k x5).bind fun t310 => (schismalaw05_RowUnits.j1 k x0 x1 x7 x8 (!t310))) else (schismalaw05_RowUnits.j1 k x0 x1 x7 x8 true)) else (schismalaw05_RowUnits.j1 k x0 x1 x7 x8 true))
def schismalaw05_RowUnits.j1 : Nat → Int → Int → List Int → Int → Bool → Option (Bool)
  | 0, _, _, _, _, _ => none
  | k + 1, x0, x1, x7, x8, x54 => if x54 = true then (some false) else (if x1 < 0 then (schismalaw05_RowUnits.j2 k x0 x1 x7 x8 true) else (schismalaw05_RowUnits.j2 k x0 x1 x7 x8 (decide (x1 ≥ x0))))
def schismalaw05_RowUnits.j2 : Nat → Int → Int → List Int → Int → Bool → Option (Bool)
  | 0, _, _, _, _, _ => none
  | k + 1, x0, x1, x7, x8, x61 => if x61 = true then (if (x7.length : Int) = 0 then (some (x8 == 3)) else (some false)) else (if x8 = 0 then (if (x7.length : Int) = x0 then (if 0 ≤ x1 then (if x1 < (x7.length : Int) then (if (rd x7 x1) = 1 then ((schismaref05_IsZero.f k (x7.set (x1 : Int).toNat 0)).bind fun t313 => (some t313)) else (some false)) else (none)) else (none)) else (some false)) else (some false))
end
def schismalaw05_RowUnits.f (k : Nat) (a0 : Int) (a1 : Int) : Option (Bool) := (schismalaw05_known.f k).bind fun t301 => (if t301 = true then ((row_Zero.f a0).bind fun bt302 => ((row_Unit.f a0 a1).bind fun bt306 => (if a0 < 0 then (schismalaw05_RowUnits.j0 k a0 a1 bt302.1 bt302.2 bt306.1 bt306.2 true) else (schismalaw05_RowUnits.j0 k a0 a1 bt302.1 bt302.2 bt306.1 bt306.2 (decide (a0 > 64)))))) else (some false))
theorem schismalaw05_RowUnits.mono_l : ∀ k, (∀ y0 y1 y2 y3 y4 y5 y6, LeO (schismalaw05_RowUnits.j0 k y0 y1 y2 y3 y4 y5 y6) (schismalaw05_RowUnits.j0 (k + 1) y0 y1 y2 y3 y4 y5 y6)) ∧ (∀ y0 y1 y2 y3 y4, LeO (schismalaw05_RowUnits.j1 k y0 y1 y2 y3 y4) (schismalaw05_RowUnits.j1 (k + 1) y0 y1 y2 y3 y4)) ∧ (∀ y0 y1 y2 y3 y4, LeO (schismalaw05_RowUnits.j2 k y0 y1 y2 y3 y4) (schismalaw05_RowUnits.j2 (k + 1) y0 y1 y2 y3 y4))
  | 0 => ⟨fun _ _ _ _ _ _ _ r h => by simp [schismalaw05_RowUnits.j0] at h, fun _ _ _ _ _ r h => by simp [schismalaw05_RowUnits.j1] at h, fun _ _ _ _ _ r h => by simp [schismalaw05_RowUnits.j2] at h⟩
  | k + 1 => by
    obtain ⟨ih0, ih1, ih2⟩ := schismalaw05_RowUnits.mono_l k
    refine ⟨?_, ?_, ?_⟩
    · intro y0 y1 y2 y3 y4 y5 y6
      unfold schismalaw05_RowUnits.j0
      repeat' first
      | (with_reducible exact ih0 _ _ _ _ _ _ _)
      | (with_reducible exact ih1 _ _ _ _ _)
      | (with_reducible exact ih2 _ _ _ _ _)
      | (with_reducible exact schismalaw05_known.mono _)
      | (with_reducible exact schismaref05_IsZero.mono _ _)
      | (with_reducible exact LeO.refl _)
      | (with_reducible exact LeO.none _)
      | (with_reducible refine LeO.ite ?_ ?_)
      | (with_reducible refine LeO.bind ?_ (fun _ => ?_))
      | exact ih0 _ _ _ _ _ _ _
      | exact ih1 _ _ _ _ _
      | exact ih2 _ _ _ _ _
      | exact schismalaw05_known.mono _
      | exact schismaref05_IsZero.mono _ _
      | exact LeO.none _
      | refine LeO.ite ?_ ?_
      | refine LeO.bind ?_ (fun _ => ?_)
    · intro y0 y1 y2 y3 y4
      unfold schismalaw05_RowUnits.j1
      repeat' first
      | (with_reducible exact ih0 _ _ _ _ _ _ _)
      | (with_reducible exact ih1 _ _ _ _ _)
      | (with_reducible exact ih2 _ _ _ _ _)
      | (with_reducible exact schismalaw05_known.mono _)
      | (with_reducible exact schismaref05_IsZero.mono _ _)
      | (with_reducible exact LeO.refl _)
      | (with_reducible exact LeO.none _)
      | (with_reducible refine LeO.ite ?_ ?_)
      | (with_reducible refine LeO.bind ?_ (fun _ => ?_))
      | exact ih0 _ _ _ _ _ _ _
      | exact ih1 _ _ _ _ _
      | exact ih2 _ _ _ _ _
      | exact schismalaw05_known.mono _
      | exact schismaref05_IsZero.mono _ _
      | exact LeO.none _
      | refine LeO.ite ?_ ?_
      | refine LeO.bind ?_ (fun _ => ?_)
    · intro y0 y1 y2 y3 y4
      unfold schismalaw05_RowUnits.j2
      repeat' first
      | (with_reducible exact ih0 _ _ _ _ _ _ _)
      | (with_reducible exact ih1 _ _ _ _ _)
      | (with_reducible exact ih2 _ _ _ _ _)
      | (with_reducible exact schismalaw05_known.mono _)
      | (with_reducible exact schismaref05_IsZero.mono _ _)
      | (with_reducible exact LeO.refl _)
      | (with_reducible exact LeO.none _)
      | (with_reducible refine LeO.ite ?_ ?_)
      | (with_reducible refine LeO.bind ?_ (fun _ => ?_))
      | exact ih0 _ _ _ _ _ _ _
      | exact ih1 _ _ _ _ _
      | exact ih2 _ _ _ _ _
      | exact schismalaw05_known.mono _
      | exact schismaref05_IsZero.mono _ _
      | exact LeO.none _
      | refine LeO.ite ?_ ?_
      | refine LeO.bind ?_ (fun _ => ?_)
theorem schismalaw05_RowUnits.mono : ∀ a0 a1 k, LeO (schismalaw05_RowUnits.f k a0 a1) (schismalaw05_RowUnits.f (k + 1) a0 a1) := by
  intro a0 a1 k
  obtain ⟨ih0, ih1, ih2⟩ := schismalaw05_RowUnits.mono_l k
  unfold schismalaw05_RowUnits.f
  repeat' first
      | (with_reducible exact ih0 _ _ _ _ _ _ _)
      | (with_reducible exact ih1 _ _ _ _ _)
      | (with_reducible exact ih2 _ _ _ _ _)
      | (with_reducible exact schismalaw05_known.mono _)
      | (with_reducible exact schismaref05_IsZero.mono _ _)
      | (with_reducible exact LeO.refl _)
      | (with_reducible exact LeO.none _)
      | (with_reducible refine LeO.ite ?_ ?_)
      | (with_reducible refine LeO.bind ?_ (fun _ => ?_))
      | exact ih0 _ _ _ _ _ _ _
      | exact ih1 _ _ _ _ _
      | exact ih2 _ _ _ _ _
      | exact schismalaw05_known.mono _
      | exact schismaref05_IsZero.mono _ _
      | exact LeO.none _
      | refine LeO.ite ?_ ?_
      | refine LeO.bind ?_ (fun _ => ?_)
set_option maxHeartbeats 8000000 in
set_option maxRecDepth 100000 in
theorem schismalaw05_RowUnits.calls (k : Nat) (a0 : Int) (a1 : Int) (r : Bool) (w : World) (hG_tab : TabOK w) (h : schismalaw05_RowUnits.f k a0 a1 = some r) :
    Calls Tryd.prog 5 #[.int .i64 a0, .int .i64 a1] w fun e w' => e = .returned (.bool r) ∧ Below w.heap.size w w' := by
  have HG_tab := Aside0.mk hG_tab
  clear hG_tab
  have HB := Aside0.mk (Below.refl w.heap.size w)
  have H : ((schismalaw05_known.f k).bind fun t301 => (if t301 = true then ((row_Zero.f a0).bind fun bt302 => ((row_Unit.f a0 a1).bind fun bt306 => (if a0 < 0 then (schismalaw05_RowUnits.j0 k a0 a1 bt302.1 bt302.2 bt306.1 bt306.2 true) else (schismalaw05_RowUnits.j0 k a0 a1 bt302.1 bt302.2 bt306.1 bt306.2 (decide (a0 > 64)))))) else (some false))) = some r := h
  clear h
  replace H := Option.bind_eq_some_iff.mp H
  obtain ⟨t301, A30, H⟩ := H
  replace H : (if t301 = true then ((row_Zero.f a0).bind fun bt302 => ((row_Unit.f a0 a1).bind fun bt306 => (if a0 < 0 then (schismalaw05_RowUnits.j0 k a0 a1 bt302.1 bt302.2 bt306.1 bt306.2 true) else (schismalaw05_RowUnits.j0 k a0 a1 bt302.1 bt302.2 bt306.1 bt306.2 (decide (a0 > 64)))))) else (some false)) = some r := H
  have A3 := Aside0.mk A30
  clear A30
  by_cases c4 : t301 = true
  · subst c4
    have H1 : ((row_Zero.f a0).bind fun bt302 => ((row_Unit.f a0 a1).bind fun bt306 => (if a0 < 0 then (schismalaw05_RowUnits.j0 k a0 a1 bt302.1 bt302.2 bt306.1 bt306.2 true) else (schismalaw05_RowUnits.j0 k a0 a1 bt302.1 bt302.2 bt306.1 bt306.2 (decide (a0 > 64)))))) = some r := by rw [if_pos rfl] at H; exact H
    clear H
    have H := H1
    clear H1
    replace H := Option.bind_eq_some_iff.mp H
    obtain ⟨⟨t302, t303⟩, A50, H⟩ := H
    replace H : ((row_Unit.f a0 a1).bind fun bt306 => (if a0 < 0 then (schismalaw05_RowUnits.j0 k a0 a1 t302 t303 bt306.1 bt306.2 true) else (schismalaw05_RowUnits.j0 k a0 a1 t302 t303 bt306.1 bt306.2 (decide (a0 > 64))))) = some r := H
    have A5 := Aside0.mk A50
    clear A50
    replace H := Option.bind_eq_some_iff.mp H
    obtain ⟨⟨t306, t307⟩, A60, H⟩ := H
    replace H : (if a0 < 0 then (schismalaw05_RowUnits.j0 k a0 a1 t302 t303 t306 t307 true) else (schismalaw05_RowUnits.j0 k a0 a1 t302 t303 t306 t307 (decide (a0 > 64)))) = some r := H
    have A6 := Aside0.mk A60
    clear A60
    have HC7 := Aside0.mk H
    clear H
    go_enter Tryd.func5, Tryd.ntmps5
    go_upto_region 5 with (first | ((with_reducible refine gate_callee (f := 13) rfl ?_); refine goesL_ (some 9) rfl rfl Tryd.func13 (by kernel_rfl) rfl #[] rfl (by (try simp only [List.map_toArray, List.map_cons, List.map_nil]); first | done | rfl | (simp only [List.length_drop, List.length_take]; rfl)) ?_; (with_reducible refine (schismalaw05_known.calls k  true _ ?side1 A3.out).mono ?_); (case side1 => exact TabOK.below HG_tab.out (by repeat (first | (with_reducible first | exact HB.out | apply below_alloc | apply pw_below_drewN | apply below_drew1) | exact HB.out))); rintro e w8 ⟨rfl, hb⟩; refine ⟨_, rfl, ?_⟩; have n0_ := Aside0.mk (below_step (by repeat (first | (with_reducible first | exact HB.out | apply below_alloc | apply pw_below_drewN | apply below_drew1) | exact HB.out)) hb); clear HB; have HB := n0_; clear n0_; (try clear hb); (try clear hb2); (try clear hk); (try clear hi)) | ((with_reducible refine gate_callee (f := 26) rfl ?_); refine goesL_ (some 13) rfl rfl Tryd.func26 (by kernel_rfl) rfl #[.int .i64 a0] rfl (by (try simp only [List.map_toArray, List.map_cons, List.map_nil]); first | done | rfl | (simp only [List.length_drop, List.length_take]; rfl)) ?_; (with_reducible refine (row_Zero.calls a0 t302 t303 _ A5.out).mono ?_); rintro e w9 ⟨v304, rfl, ho0, hb⟩; refine ⟨_, rfl, ?_⟩; have n0_ := Aside0.mk (Kd.R_lower ho0 (below_size (by repeat (first | (with_reducible first | exact HB.out | apply below_alloc | apply pw_below_drewN | apply below_drew1) | exact HB.out)))); have n1_ := Aside0.mk (below_step (by repeat (first | (with_reducible first | exact HB.out | apply below_alloc | apply pw_below_drewN | apply below_drew1) | exact HB.out)) hb); clear HB; have HO305 := n0_; have HB := n1_; clear n0_ n1_; (try clear hb); (try clear hb2); (try clear hk); (try clear hi); (try clear ho0)) | ((with_reducible refine gate_callee (f := 27) rfl ?_); refine goesL_ (some 19) rfl rfl Tryd.func27 (by kernel_rfl) rfl #[.int .i64 a0, .int .i64 a1] rfl (by (try simp only [List.map_toArray, List.map_cons, List.map_nil]); first | done | rfl | (simp only [List.length_drop, List.length_take]; rfl)) ?_; (with_reducible refine (row_Unit.calls a0 a1 t306 t307 _ A6.out).mono ?_); rintro e w10 ⟨v308, rfl, ho0, hb⟩; refine ⟨_, rfl, ?_⟩; have n0_ := Aside0.mk (Kd.R_elder' (by (with_reducible repeat (first | apply Kd.R_alloc | apply Kd.R_drewN | apply Kd.R_drew)); exact HO305.out) (Kd.R_base ho0) hb); have n1_ := Aside0.mk (Kd.R_lower (Kd.R_new' ho0 (Kd.R_lt (by (with_reducible repeat (first | apply Kd.R_alloc | apply Kd.R_drewN | apply Kd.R_drew)); exact HO305.out))) (below_size (by repeat (first | (with_reducible first | exact HB.out | apply below_alloc | apply pw_below_drewN | apply below_drew1) | exact HB.out)))); have n2_ := Aside0.mk (below_step (by repeat (first | (with_reducible first | exact HB.out | apply below_alloc | apply pw_below_drewN | apply below_drew1) | exact HB.out)) hb); clear HO305; clear HB; have HO305 := n0_; have HO309 := n1_; have HB := n2_; clear n0_ n1_ n2_; (try clear hb); (try clear hb2); (try clear hk); (try clear hi); (try clear ho0)))
    (try simp only [Act.put, List.setIfInBounds_toArray, List.set_cons_zero, List.set_cons_succ])
    go_cut [27] (fun v27 wc => ∃ (kq : Nat) (x27_6 : Bool), v27 = .bool x27_6 ∧ Aside0 (schismalaw05_RowUnits.j0 kq a0 a1 t302 t303 t306 t307 x27_6 = some r) ∧ Aside0 (kq ≤ k) ∧ Aside0 (Kd.R (Kd.int .i64) 3 wc w.heap.size (fun k_ => some k_ ≠ (v308 : Value).ownBlock) v304 t302) ∧ Aside0 (Kd.R (Kd.int .i64) 3 wc w.heap.size (fun k_ => some k_ ≠ (v304 : Value).ownBlock) v308 t306) ∧ Aside0 (Below w.heap.size w wc))
    case first =>
      have H := HC7.out
      clear HC7
      by_cases c11 : a0 < 0
      · rw [if_pos c11] at H
        have c11b0 : decide (a0 < 0) = true := decide_eq_true c11
        clear c11
        (first | rw [c11b0] | (simp only [i64_w, i32_w]; rw [c11b0]) | skip)
        have H' := Aside0.mk H
        clear H
        go_wp2
        go_meet
        case rel => exact ⟨_, (true), (by first | rfl | (simp; done) | (simp [*]; done)), H', ⟨by first | omega | exact Nat.le_refl _⟩, ⟨by (with_reducible repeat (first | apply Kd.R_alloc | apply Kd.R_drewN | apply Kd.R_drew)); exact Kd.R_mono HO305.out (fun _ hk => hk.2)⟩, ⟨by (with_reducible repeat (first | apply Kd.R_alloc | apply Kd.R_drewN | apply Kd.R_drew)); exact Kd.R_mono HO309.out (fun _ hk => hk.2)⟩, ⟨by repeat (first | (with_reducible first | exact HB.out | apply below_alloc | apply pw_below_drewN | apply below_drew1) | exact HB.out)⟩⟩
      · rw [if_neg c11] at H
        have c11b0 : decide (a0 < 0) = false := decide_eq_false c11
        clear c11
        (first | rw [c11b0] | (simp only [i64_w, i32_w]; rw [c11b0]) | skip)
        have H' := Aside0.mk H
        clear H
        go_wp2
        go_meet
        case rel => exact ⟨_, (decide (a0 > 64)), (by first | rfl | (simp; done) | (simp [*]; done)), H', ⟨by first | omega | exact Nat.le_refl _⟩, ⟨by (with_reducible repeat (first | apply Kd.R_alloc | apply Kd.R_drewN | apply Kd.R_drew)); exact Kd.R_mono HO305.out (fun _ hk => hk.2)⟩, ⟨by (with_reducible repeat (first | apply Kd.R_alloc | apply Kd.R_drewN | apply Kd.R_drew)); exact Kd.R_mono HO309.out (fun _ hk => hk.2)⟩, ⟨by repeat (first | (with_reducible first | exact HB.out | apply below_alloc | apply pw_below_drewN | apply below_drew1) | exact HB.out)⟩⟩
    case rest =>
      clear HC7
      try clear c1
      try clear c2
      try clear p2
      try clear c4
      try clear c5
      try clear c11
      try clear c11b0
      obtain ⟨kq, x27_6, rfl, HA, HJ6, HO_5, HO_7, HB⟩ := hcut
      cases kq with
      | zero => exact absurd HA.out (by simp [schismalaw05_RowUnits.j0])
      | succ kj6 =>
        have H := HA.out
        clear HA
        simp only [schismalaw05_RowUnits.j0] at H
        by_cases c12 : x27_6 = true
        · subst c12
          have H1 : (if (wrap64 ((t302.length : Int) + (t306.length : Int))) = 0 then (if t303 = 3 then (some (t307 == 3)) else (some false)) else (some false)) = some r := by rw [if_pos rfl] at H; exact H
          clear H
          have H := H1
          clear H1
          by_cases c13 : (wrap64 ((t302.length : Int) + (t306.length : Int))) = 0
          · rw [if_pos c13] at H
            have c13b0 : ((wrap64 ((t302.length : Int) + (t306.length : Int))) == 0) = true := beq_iff_eq.mpr c13
            have c13b1 : ((wrap64 ((t302.length : Int) + (t306.length : Int))) != 0) = false := bne_eq_false_iff_eq.mpr c13
            clear c13
            by_cases c14 : t303 = 3
            · rw [if_pos c14] at H
              have c14b0 : (t303 == 3) = true := beq_iff_eq.mpr c14
              have c14b1 : (t303 != 3) = false := bne_eq_false_iff_eq.mpr c14
              clear c14
              obtain rfl := Option.some.inj H
              obtain ⟨Ao15, co15, eo15⟩ := Kd.R_slice HO_5.out
              subst eo15
              obtain ⟨Ao16, co16, eo16⟩ := Kd.R_slice HO_7.out
              subst eo16
              go_wp2
              go_ret
              exact ⟨by first | rfl | (simp [errW_none, errW_some] <;> rfl) | (simp [*, errW_none, errW_some] <;> rfl), by repeat (first | (with_reducible first | exact HB.out | apply below_alloc | apply pw_below_drewN | apply below_drew1) | exact HB.out)⟩
            · rw [if_neg c14] at H
              have c14b0 : (t303 == 3) = false := beq_eq_false_iff_ne.mpr c14
              have c14b1 : (t303 != 3) = true := bne_iff_ne.mpr c14
              obtain rfl := Option.some.inj H
              obtain ⟨Ao17, co17, eo17⟩ := Kd.R_slice HO_5.out
              subst eo17
              obtain ⟨Ao18, co18, eo18⟩ := Kd.R_slice HO_7.out
              subst eo18
              go_wp2
              go_ret
              exact ⟨by first | rfl | (simp [errW_none, errW_some] <;> rfl) | (simp [*, errW_none, errW_some] <;> rfl), by repeat (first | (with_reducible first | exact HB.out | apply below_alloc | apply pw_below_drewN | apply below_drew1) | exact HB.out)⟩
          · rw [if_neg c13] at H
            have c13b0 : ((wrap64 ((t302.length : Int) + (t306.length : Int))) == 0) = false := beq_eq_false_iff_ne.mpr c13
            have c13b1 : ((wrap64 ((t302.length : Int) + (t306.length : Int))) != 0) = true := bne_iff_ne.mpr c13
            obtain rfl := Option.some.inj H
            obtain ⟨Ao19, co19, eo19⟩ := Kd.R_slice HO_5.out
            subst eo19
            obtain ⟨Ao20, co20, eo20⟩ := Kd.R_slice HO_7.out
            subst eo20
            go_wp2
            go_ret
            exact ⟨by first | rfl | (simp [errW_none, errW_some] <;> rfl) | (simp [*, errW_none, errW_some] <;> rfl), by repeat (first | (with_reducible first | exact HB.out | apply below_alloc | apply pw_below_drewN | apply below_drew1) | exact HB.out)⟩
        · replace c12 := Bool.eq_false_iff.mpr c12
          subst c12
          have H1 : (if t303 = 0 then (if (t302.length : Int) = a0 then ((schismaref05_IsZero.f kj6 t302).bind fun t310 => (schismalaw05_RowUnits.j1 kj6 a0 a1 t306 t307 (!t310))) else (schismalaw05_RowUnits.j1 kj6 a0 a1 t306 t307 true)) else (schismalaw05_RowUnits.j1 kj6 a0 a1 t306 t307 true)) = some r := by rw [if_neg (show ¬ (false = true) by decide)] at H; exact H
          clear H
          have H := H1
          clear H1
          have HC21 := Aside0.mk H
          clear H
          go_upto_region 7 with (fail)
          go_cut [54] (fun v54 wc => ∃ (kq : Nat) (x54_20 : Bool), v54 = .bool x54_20 ∧ Aside0 (schismalaw05_RowUnits.j1 kq a0 a1 t306 t307 x54_20 = some r) ∧ Aside0 (kq ≤ kj6) ∧ Aside0 (Kd.R (Kd.int .i64) 3 wc w.heap.size (fun _ => True) v308 t306) ∧ Aside0 (Below w.heap.size w wc))
          case first =>
            have H := HC21.out
            clear HC21
            by_cases c22 : t303 = 0
            · rw [if_pos c22] at H
              have c22b0 : (t303 == 0) = true := beq_iff_eq.mpr c22
              have c22b1 : (t303 != 0) = false := bne_eq_false_iff_eq.mpr c22
              clear c22
              (first | rw [c22b0] | (simp only [i64_w, i32_w]; rw [c22b0]) | skip)
              by_cases c23 : (t302.length : Int) = a0
              · rw [if_pos c23] at H
                have c23b0 : ((t302.length : Int) == a0) = true := beq_iff_eq.mpr c23
                have c23b1 : ((t302.length : Int) != a0) = false := bne_eq_false_iff_eq.mpr c23
                clear c23
                replace H := Option.bind_eq_some_iff.mp H
                obtain ⟨t310, A240, H⟩ := H
                replace H : (schismalaw05_RowUnits.j1 kj6 a0 a1 t306 t307 (!t310)) = some r := H
                have A24 := Aside0.mk A240
                clear A240
                have H' := Aside0.mk H
                clear H
                obtain ⟨Ao25, co25, eo25⟩ := Kd.R_slice HO_5.out
                subst eo25
                go_wp2_with (first | (go_at_call 23; (with_reducible refine (schismaref05_IsZero.calls kj6 _ _ t302 t310 _ ?side1 ?side2 A24.out).mono ?_); (case side1 => repeat (first | exact (Kd.R_reads' HO_5.out).2.2 | (with_reducible refine Kd.C_alloc ?_ _) | (with_reducible refine Kd.C_drewN ?_ _) | (with_reducible refine Kd.C_drew ?_))); (case side2 => exact (Kd.R_reads' HO_5.out).2.1); rintro e w' ⟨rfl, ⟨nd, rfl⟩⟩))
                go_meet
                case rel => exact ⟨_, (!t310), (by first | rfl | (simp; done) | (simp [*]; done)), H', ⟨by have := HJ6.out; first | omega | exact Nat.le_refl _⟩, ⟨by (with_reducible repeat (first | apply Kd.R_alloc | apply Kd.R_drewN | apply Kd.R_drew)); exact Kd.R_mono HO_7.out (fun _ hk => trivial)⟩, ⟨by repeat (first | (with_reducible first | exact HB.out | apply below_alloc | apply pw_below_drewN | apply below_drew1) | exact HB.out)⟩⟩
              · rw [if_neg c23] at H
                have c23b0 : ((t302.length : Int) == a0) = false := beq_eq_false_iff_ne.mpr c23
                have c23b1 : ((t302.length : Int) != a0) = true := bne_iff_ne.mpr c23
                have H' := Aside0.mk H
                clear H
                obtain ⟨Ao26, co26, eo26⟩ := Kd.R_slice HO_5.out
                subst eo26
                go_wp2
                go_meet
                case rel => exact ⟨_, (true), (by first | rfl | (simp; done) | (simp [*]; done)), H', ⟨by have := HJ6.out; first | omega | exact Nat.le_refl _⟩, ⟨by (with_reducible repeat (first | apply Kd.R_alloc | apply Kd.R_drewN | apply Kd.R_drew)); exact Kd.R_mono HO_7.out (fun _ hk => trivial)⟩, ⟨by repeat (first | (with_reducible first | exact HB.out | apply below_alloc | apply pw_below_drewN | apply below_drew1) | exact HB.out)⟩⟩
            · rw [if_neg c22] at H
              have c22b0 : (t303 == 0) = false := beq_eq_false_iff_ne.mpr c22
              have c22b1 : (t303 != 0) = true := bne_iff_ne.mpr c22
              (first | rw [c22b0] | (simp only [i64_w, i32_w]; rw [c22b0]) | skip)
              have H' := Aside0.mk H
              clear H
              go_wp2
              go_meet
              case rel => exact ⟨_, (true), (by first | rfl | (simp; done) | (simp [*]; done)), H', ⟨by have := HJ6.out; first | omega | exact Nat.le_refl _⟩, ⟨by (with_reducible repeat (first | apply Kd.R_alloc | apply Kd.R_drewN | apply Kd.R_drew)); exact Kd.R_mono HO_7.out (fun _ hk => trivial)⟩, ⟨by repeat (first | (with_reducible first | exact HB.out | apply below_alloc | apply pw_below_drewN | apply below_drew1) | exact HB.out)⟩⟩
          case rest =>
            clear HC21
            try clear c1
            try clear c2
            try clear p2
            try clear c4
            try clear c5
            try clear p6
            try clear c11
            try clear c11b0
            try clear c12
            try clear c13
            try clear c13b0
            try clear c13b1
            try clear c14
            try clear c14b0
            try clear c14b1
            try clear c22
            try clear c22b0
            try clear c22b1
            try clear c23
            try clear c23b0
            try clear c23b1
            try clear c26
            try clear p2
            obtain ⟨kq, x54_20, rfl, HA, HJ20, HO_7, HB⟩ := hcut
            cases kq with
            | zero => exact absurd HA.out (by simp [schismalaw05_RowUnits.j1])
            | succ kj20 =>
              have H := HA.out
              clear HA
              simp only [schismalaw05_RowUnits.j1] at H
              by_cases c27 : x54_20 = true
              · subst c27
                have H1 : (some false) = some r := by rw [if_pos rfl] at H; exact H
                clear H
                have H := H1
                clear H1
                obtain rfl := Option.some.inj H
                go_wp2
                go_ret
                exact ⟨by first | rfl | (simp [errW_none, errW_some] <;> rfl) | (simp [*, errW_none, errW_some] <;> rfl), by repeat (first | (with_reducible first | exact HB.out | apply below_alloc | apply pw_below_drewN | apply below_drew1) | exact HB.out)⟩
              · replace c27 := Bool.eq_false_iff.mpr c27
                subst c27
                have H1 : (if a1 < 0 then (schismalaw05_RowUnits.j2 kj20 a0 a1 t306 t307 true) else (schismalaw05_RowUnits.j2 kj20 a0 a1 t306 t307 (decide (a1 ≥ a0)))) = some r := by rw [if_neg (show ¬ (false = true) by decide)] at H; exact H
                clear H
                have H := H1
                clear H1
                have HC28 := Aside0.mk H
                clear H
                go_upto_region 9 with (fail)
                go_cut [61] (fun v61 wc => ∃ (kq : Nat) (x61_27 : Bool), v61 = .bool x61_27 ∧ Aside0 (schismalaw05_RowUnits.j2 kq a0 a1 t306 t307 x61_27 = some r) ∧ Aside0 (kq ≤ kj20) ∧ Aside0 (Kd.R (Kd.int .i64) 3 wc w.heap.size (fun _ => True) v308 t306) ∧ Aside0 (Below w.heap.size w wc))
                case first =>
                  have H := HC28.out
                  clear HC28
                  by_cases c29 : a1 < 0
                  · rw [if_pos c29] at H
                    have c29b0 : decide (a1 < 0) = true := decide_eq_true c29
                    clear c29
                    (first | rw [c29b0] | (simp only [i64_w, i32_w]; rw [c29b0]) | skip)
                    have H' := Aside0.mk H
                    clear H
                    go_wp2
                    go_meet
                    case rel => exact ⟨_, (true), (by first | rfl | (simp; done) | (simp [*]; done)), H', ⟨by have := HJ6.out; have := HJ20.out; first | omega | exact Nat.le_refl _⟩, ⟨by (with_reducible repeat (first | apply Kd.R_alloc | apply Kd.R_drewN | apply Kd.R_drew)); exact HO_7.out⟩, ⟨by repeat (first | (with_reducible first | exact HB.out | apply below_alloc | apply pw_below_drewN | apply below_drew1) | exact HB.out)⟩⟩
                  · rw [if_neg c29] at H
                    have c29b0 : decide (a1 < 0) = false := decide_eq_false c29
                    clear c29
                    (first | rw [c29b0] | (simp only [i64_w, i32_w]; rw [c29b0]) | skip)
                    have H' := Aside0.mk H
                    clear H
                    go_wp2
                    go_meet
                    case rel => exact ⟨_, (decide (a1 ≥ a0)), (by first | rfl | (simp; done) | (simp [*]; done)), H', ⟨by have := HJ6.out; have := HJ20.out; first | omega | exact Nat.le_refl _⟩, ⟨by (with_reducible repeat (first | apply Kd.R_alloc | apply Kd.R_drewN | apply Kd.R_drew)); exact HO_7.out⟩, ⟨by repeat (first | (with_reducible first | exact HB.out | apply below_alloc | apply pw_below_drewN | apply below_drew1) | exact HB.out)⟩⟩
                case rest =>
                  clear HC28
                  try clear c1
                  try clear c2
                  try clear p2
                  try clear c4
                  try clear c5
                  try clear p6
                  try clear c11
                  try clear c11b0
                  try clear c12
                  try clear c13
                  try clear c13b0
                  try clear c13b1
                  try clear c14
                  try clear c14b0
                  try clear c14b1
                  try clear c22
                  try clear c22b0
                  try clear c22b1
                  try clear c23
                  try clear c23b0
                  try clear c23b1
                  try clear c26
                  try clear c27
                  try clear c29
                  try clear c29b0
                  try clear p2
                  try clear p6
                  obtain ⟨kq, x61_27, rfl, HA, HJ27, HO_7, HB⟩ := hcut
                  cases kq with
                  | zero => exact absurd HA.out (by simp [schismalaw05_RowUnits.j2])
                  | succ kj27 =>
                    have H := HA.out
                    clear HA
                    simp only [schismalaw05_RowUnits.j2] at H
                    by_cases c30 : x61_27 = true
                    · subst c30
                      have H1 : (if (t306.length : Int) = 0 then (some (t307 == 3)) else (some false)) = some r := by rw [if_pos rfl] at H; exact H
                      clear H
                      have H := H1
                      clear H1
                      by_cases c31 : (t306.length : Int) = 0
                      · rw [if_pos c31] at H
                        have c31b0 : ((t306.length : Int) == 0) = true := beq_iff_eq.mpr c31
                        have c31b1 : ((t306.length : Int) != 0) = false := bne_eq_false_iff_eq.mpr c31
                        clear c31
                        obtain rfl := Option.some.inj H
                        obtain ⟨Ao32, co32, eo32⟩ := Kd.R_slice HO_7.out
                        subst eo32
                        go_wp2
                        go_ret
                        exact ⟨by first | rfl | (simp [errW_none, errW_some] <;> rfl) | (simp [*, errW_none, errW_some] <;> rfl), by repeat (first | (with_reducible first | exact HB.out | apply below_alloc | apply pw_below_drewN | apply below_drew1) | exact HB.out)⟩
                      · rw [if_neg c31] at H
                        have c31b0 : ((t306.length : Int) == 0) = false := beq_eq_false_iff_ne.mpr c31
                        have c31b1 : ((t306.length : Int) != 0) = true := bne_iff_ne.mpr c31
                        have c31b2 : ¬ (t306 = []) := fun h_ => c31 (by rw [h_]; rfl)
                        obtain rfl := Option.some.inj H
                        obtain ⟨Ao33, co33, eo33⟩ := Kd.R_slice HO_7.out
                        subst eo33
                        go_wp2
                        go_ret
                        exact ⟨by first | rfl | (simp [errW_none, errW_some] <;> rfl) | (simp [*, errW_none, errW_some] <;> rfl), by repeat (first | (with_reducible first | exact HB.out | apply below_alloc | apply pw_below_drewN | apply below_drew1) | exact HB.out)⟩
                    · replace c30 := Bool.eq_false_iff.mpr c30
                      subst c30
                      have H1 : (if t307 = 0 then (if (t306.length : Int) = a0 then (if 0 ≤ a1 then (if a1 < (t306.length : Int) then (if (rd t306 a1) = 1 then ((schismaref05_IsZero.f kj27 (t306.set (a1 : Int).toNat 0)).bind fun t313 => (some t313)) else (some false)) else (none)) else (none)) else (some false)) else (some false)) = some r := by rw [if_neg (show ¬ (false = true) by decide)] at H; exact H
                      clear H
                      have H := H1
                      clear H1
                      by_cases c34 : t307 = 0
                      · rw [if_pos c34] at H
                        have c34b0 : (t307 == 0) = true := beq_iff_eq.mpr c34
                        have c34b1 : (t307 != 0) = false := bne_eq_false_iff_eq.mpr c34
                        clear c34
                        by_cases c35 : (t306.length : Int) = a0
                        · rw [if_pos c35] at H
                          have c35b0 : ((t306.length : Int) == a0) = true := beq_iff_eq.mpr c35
                          have c35b1 : ((t306.length : Int) != a0) = false := bne_eq_false_iff_eq.mpr c35
                          clear c35
                          by_cases c36 : 0 ≤ a1
                          · rw [if_pos c36] at H
                            have c36b0 : decide (0 ≤ a1) = true := decide_eq_true c36
                            clear c36
                            by_cases c37 : a1 < (t306.length : Int)
                            · rw [if_pos c37] at H
                              have c37b0 : decide (a1 < (t306.length : Int)) = true := decide_eq_true c37
                              clear c37
                              by_cases c38 : (rd t306 a1) = 1
                              · rw [if_pos c38] at H
                                have c38b0 : ((rd t306 a1) == 1) = true := beq_iff_eq.mpr c38
                                have c38b1 : ((rd t306 a1) != 1) = false := bne_eq_false_iff_eq.mpr c38
                                clear c38
                                obtain ⟨y312, hy312⟩ : ∃ y_ : List Int, y_ = (t306.set (a1 : Int).toNat 0) := ⟨_, rfl⟩
                                replace H : ((schismaref05_IsZero.f kj27 y312).bind fun t313 => (some t313)) = some r := by first | (rw [hy312]; with_reducible exact H) | (have H2_ := (Option.bind_some _ _).symm.trans H; rw [hy312]; with_reducible exact H2_) | (have H2_ := (Option.bind_some _ _).symm.trans H; with_reducible exact H2_) | with_reducible exact H | (rw [hy312]; exact H) | exact H
                                have Ny312 := Aside0.mk hy312
                                clear hy312
                                replace H := Option.bind_eq_some_iff.mp H
                                obtain ⟨t313, A400, H⟩ := H
                                replace H : (some t313) = some r := H
                                have A40 := Aside0.mk A400
                                clear A400
                                obtain rfl := Option.some.inj H
                                obtain ⟨Ao41, co41, eo41⟩ := Kd.R_slice HO_7.out
                                subst eo41
                                have p311 : 0 ≤ (a1 : Int) := of_decide_eq_true (by first | (with_reducible assumption) | assumption)
                                have q311 : a1 < (t306.length : Int) := of_decide_eq_true (by first | (with_reducible assumption) | assumption)
                                obtain ⟨ad311, e311, hx311_0⟩ := Kd.at_int (Kd.R_reads' HO_7.out).2.2 a1 p311 q311
                                cases e311
                                replace p311 := eq_true p311
                                replace q311 := eq_true q311
                                have p39 : 0 ≤ (a1 : Int) := of_decide_eq_true (by first | (with_reducible assumption) | assumption)
                                have q39 : (a1 : Int) < ((t306.length : Int) : Int) := of_decide_eq_true (by first | (with_reducible assumption) | assumption)
                                obtain ⟨go39, co39, eo39, gb39, gl39, cl39, HG39⟩ := Kd.R_form HO_7.out (by omega)
                                (first | cases eo39 | (injection eo39 with ea_ en_ ec_; (first | subst ea_ | (injection ea_ with ea_; subst ea_)); subst ec_; clear en_))
                                have GB39 := Aside0.mk gb39
                                have GG39 := Aside0.mk HG39
                                clear gb39 gl39 HG39
                                (first | simp only [add_plain] at hx311_0 | skip)
                                obtain ⟨hx39_0, hf39_0⟩ := Kd.R_celln 0 HO_7.out (a1 : Int) p39 q39
                                replace p39 := eq_true p39
                                replace q39 := eq_true q39
                                have HP42 := Kd.R_putg HO_7.out (a1 : Int) 0
                                go_wp2_with (first | ((with_reducible refine gate_store (t := 3) (p := 86) rfl ?_); refine store_event (t := 3) (p := 86) (v := ?vo_w43) (w1 := (wc.setCell ⟨go39, (a1 : Int).toNat, none⟩ (.int .i64 0))) ?hg ?ho ?hn ?hr ?_; (case ho => rfl); (case hg => rfl); (case hn => rfl); (case hr => first | (go_simp; done) | (go_simp; rfl)); intro w43 hw; have hg : wc.grownBy w43 (some go39) := (by rw [hw]; exact HP42.2); have hp_ : Kd.R (Kd.int .i64) 3 w43 w.heap.size (fun _ => True) (.slice (some ⟨go39, 0, none⟩) t306.length co41) y312 := (by rw [hw, Ny312.out]; exact HP42.1); clear HP42; have n0_ := Aside0.mk (hp_); have n1_ := Aside0.mk ((by rw [hw]; exact below_set (HB.out) GB39.out : Below w.heap.size w w43)); clear HO_7; clear HB; have HO_7 := n0_; have HB := n1_; clear n0_ n1_; clear hg hw hp_) | ((with_reducible refine gate_callee (f := 23) rfl ?_); refine goesL_ (some 88) rfl rfl Tryd.func23 (by kernel_rfl) rfl #[.slice (some ⟨go39, 0, none⟩) y312.length co41] rfl (by (try simp only [List.map_toArray, List.map_cons, List.map_nil]); first | done | (rw [show y312.length = t306.length from (Kd.R_reads' HO_7.out).1.symm] <;> rfl) | rfl | (simp only [List.length_drop, List.length_take]; rfl)) ?_; (with_reducible refine (schismaref05_IsZero.calls kj27 _ _ y312 t313 _ ?side1 ?side2 A40.out).mono ?_); (case side1 => repeat (first | exact (Kd.R_reads' HO_7.out).2.2 | (with_reducible refine Kd.C_alloc ?_ _) | (with_reducible refine Kd.C_drewN ?_ _) | (with_reducible refine Kd.C_drew ?_))); (case side2 => rw [show y312.length = t306.length from (Kd.R_reads' HO_7.out).1.symm]; exact (Kd.R_reads' HO_7.out).2.1); rintro e w' ⟨rfl, ⟨nd, rfl⟩⟩; refine ⟨_, rfl, ?_⟩))
                                go_ret
                                exact ⟨by first | rfl | (simp [errW_none, errW_some] <;> rfl) | (simp [*, errW_none, errW_some] <;> rfl), by repeat (first | (with_reducible first | exact HB.out | apply below_alloc | apply pw_below_drewN | apply below_drew1) | exact HB.out)⟩
                              · rw [if_neg c38] at H
                                have c38b0 : ((rd t306 a1) == 1) = false := beq_eq_false_iff_ne.mpr c38
                                have c38b1 : ((rd t306 a1) != 1) = true := bne_iff_ne.mpr c38
                                obtain rfl := Option.some.inj H
                                obtain ⟨Ao44, co44, eo44⟩ := Kd.R_slice HO_7.out
                                subst eo44
                                have p311 : 0 ≤ (a1 : Int) := of_decide_eq_true (by first | (with_reducible assumption) | assumption)
                                have q311 : a1 < (t306.length : Int) := of_decide_eq_true (by first | (with_reducible assumption) | assumption)
                                obtain ⟨ad311, e311, hx311_0⟩ := Kd.at_int (Kd.R_reads' HO_7.out).2.2 a1 p311 q311
                                cases e311
                                replace p311 := eq_true p311
                                replace q311 := eq_true q311
                                go_wp2
                                go_ret
                                exact ⟨by first | rfl | (simp [errW_none, errW_some] <;> rfl) | (simp [*, errW_none, errW_some] <;> rfl), by repeat (first | (with_reducible first | exact HB.out | apply below_alloc | apply pw_below_drewN | apply below_drew1) | exact HB.out)⟩
                            · rw [if_neg c37] at H
                              exact absurd H (by simp)
                          · rw [if_neg c36] at H
                            exact absurd H (by simp)
                        · rw [if_neg c35] at H
                          have c35b0 : ((t306.length : Int) == a0) = false := beq_eq_false_iff_ne.mpr c35
                          have c35b1 : ((t306.length : Int) != a0) = true := bne_iff_ne.mpr c35
                          obtain rfl := Option.some.inj H
                          obtain ⟨Ao45, co45, eo45⟩ := Kd.R_slice HO_7.out
                          subst eo45
                          go_wp2
                          go_ret
                          exact ⟨by first | rfl | (simp [errW_none, errW_some] <;> rfl) | (simp [*, errW_none, errW_some] <;> rfl), by repeat (first | (with_reducible first | exact HB.out | apply below_alloc | apply pw_below_drewN | apply below_drew1) | exact HB.out)⟩
                      · rw [if_neg c34] at H
                        have c34b0 : (t307 == 0) = false := beq_eq_false_iff_ne.mpr c34
                        have c34b1 : (t307 != 0) = true := bne_iff_ne.mpr c34
                        obtain rfl := Option.some.inj H
                        go_wp2
                        go_ret
                        exact ⟨by first | rfl | (simp [errW_none, errW_some] <;> rfl) | (simp [*, errW_none, errW_some] <;> rfl), by repeat (first | (with_reducible first | exact HB.out | apply below_alloc | apply pw_below_drewN | apply below_drew1) | exact HB.out)⟩
  · replace c4 := Bool.eq_false_iff.mpr c4
    subst c4
    have H1 : (some false) = some r := by rw [if_neg (show ¬ (false = true) by decide)] at H; exact H
    clear H
    have H := H1
    clear H1
    obtain rfl := Option.some.inj H
    go_enter Tryd.func5, Tryd.ntmps5
    go_wp2_with (first | ((with_reducible refine gate_callee (f := 13) rfl ?_); refine goesL_ (some 9) rfl rfl Tryd.func13 (by kernel_rfl) rfl #[] rfl (by (try simp only [List.map_toArray, List.map_cons, List.map_nil]); first | done | rfl | (simp only [List.length_drop, List.length_take]; rfl)) ?_; (with_reducible refine (schismalaw05_known.calls k  false _ ?side1 A3.out).mono ?_); (case side1 => exact TabOK.below HG_tab.out (by repeat (first | (with_reducible first | exact HB.out | apply below_alloc | apply pw_below_drewN | apply below_drew1) | exact HB.out))); rintro e w46 ⟨rfl, hb⟩; refine ⟨_, rfl, ?_⟩; have n0_ := Aside0.mk (below_step (by repeat (first | (with_reducible first | exact HB.out | apply below_alloc | apply pw_below_drewN | apply below_drew1) | exact HB.out)) hb); clear HB; have HB := n0_; clear n0_; (try clear hb); (try clear hb2); (try clear hk); (try clear hi)))
    go_ret
    exact ⟨by first | rfl | (simp [errW_none, errW_some] <;> rfl) | (simp [*, errW_none, errW_some] <;> rfl), by repeat (first | (with_reducible first | exact HB.out | apply below_alloc | apply pw_below_drewN | apply below_drew1) | exact HB.out)⟩

/-- THE ONE PURE STATEMENT of schismalaw05_RowUnits: yours. -/
def schismalaw05_RowUnits.Pure : Prop := ∀ (a0 : Int) (a1 : Int), (Lit.int .i64 a0).wf = true → (Lit.int .i64 a1).wf = true → ∃ k, schismalaw05_RowUnits.f k a0 a1 = some true
theorem schismalaw05_RowUnits.walk (P : schismalaw05_RowUnits.Pure) (a0 : Int) (a1 : Int) (w : World) (w0 : (Lit.int .i64 a0).wf = true) (w1 : (Lit.int .i64 a1).wf = true) (hG_tab : TabOK w) :
    Calls Tryd.prog 5 #[.int .i64 a0, .int .i64 a1] w fun e w' => e = .returned (.bool true) ∧ Below w.heap.size w w' := by
  obtain ⟨k, h⟩ := P a0 a1 w0 w1
  refine (schismalaw05_RowUnits.calls k a0 a1 true w hG_tab h).mono ?_
  rintro e w' ⟨rfl, hd⟩
  exact ⟨rfl, hd⟩

end Go.Proofs.YtpbbekbdpodedaaDoor.PR
