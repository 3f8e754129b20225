-- WRITTEN BY wip/myprint.py (the kit's print, with contracts of this session's own beside it).
import Derived.Test.YtpbbekbdpodedaaDoorPR0
namespace Go.Proofs.YtpbbekbdpodedaaDoor.PR
open Go.RowKit Go.Proofs.YtpbbekbdpodedaaDoorW.PrintWords Go.Proofs.YtpbbekbdpodedaaDoorW.PrintLast Go.Proofs.YtpbbekbdpodedaaDoorW.PrintMore
attribute [local go_sem] max2_int min2_int max_two min_two max_three min_three max_four min_four   -- for this text's walks alone
set_option linter.unusedVariables false
set_option linter.unusedSimpArgs false

/-! ### schismaref05_integer: function 80 -/
mutual
def schismaref05_integer.j0 : Nat → ByteArray → Bool → Option (Bool)
  | 0, _, _ => none
  | k + 1, x0, x11 => if x11 = true then (if 1 ≤ (x0.size : Int) then (if 0 < ((x0.extract 1 x0.size).size : Int) then (if (bt (x0.extract 1 x0.size) 0) = 48 then (some false) else (schismaref05_integer.j1 k (x0.extract 1 x0.size))) else (none)) else (none)) else (schismaref05_integer.j1 k x0)
def schismaref05_integer.j1 : Nat → ByteArray → Option (Bool)
  | 0, _ => none
  | k + 1, x0 => schismaref05_integer.l0 k x0 0
def schismaref05_integer.l0 : Nat → ByteArray → Int → Option (Bool)
  | 0, _, _ => none
  | k + 1, x0, x3 => if x3 < (x0.size : Int) then (if 0 ≤ x3 then (if (bt x0 x3) < 48 then (some false) else (if (bt x0 x3) > 57 then (some false) else (schismaref05_integer.l0 k x0 (wrap64 (x3 + 1))))) else (none)) else (if (x0.size : Int) = 1 then (some true) else (if (x0.size : Int) > 1 then (if 0 < (x0.size : Int) then (some ((bt x0 0) != 48)) else (none)) else (some false)))
end
def schismaref05_integer.f (k : Nat) (a0 : ByteArray) : Option (Bool) := if (a0.size : Int) > 1 then (if 0 < (a0.size : Int) then (schismaref05_integer.j0 k a0 ((bt a0 0) == 45)) else (none)) else (schismaref05_integer.j0 k a0 false)
theorem schismaref05_integer.mono_l : ∀ k, (∀ y0 y1, LeO (schismaref05_integer.j0 k y0 y1) (schismaref05_integer.j0 (k + 1) y0 y1)) ∧ (∀ y0, LeO (schismaref05_integer.j1 k y0) (schismaref05_integer.j1 (k + 1) y0)) ∧ (∀ y0 y1, LeO (schismaref05_integer.l0 k y0 y1) (schismaref05_integer.l0 (k + 1) y0 y1))
  | 0 => ⟨fun _ _ r h => by simp [schismaref05_integer.j0] at h, fun _ r h => by simp [schismaref05_integer.j1] at h, fun _ _ r h => by simp [schismaref05_integer.l0] at h⟩
  | k + 1 => by
    obtain ⟨ih0, ih1, ih2⟩ := schismaref05_integer.mono_l k
    refine ⟨?_, ?_, ?_⟩
    · intro y0 y1
      unfold schismaref05_integer.j0
      repeat' first
      | (with_reducible exact ih0 _ _)
      | (with_reducible exact ih1 _)
      | (with_reducible exact ih2 _ _)
      | (with_reducible exact LeO.refl _)
      | (with_reducible exact LeO.none _)
      | (with_reducible refine LeO.ite ?_ ?_)
      | (with_reducible refine LeO.bind ?_ (fun _ => ?_))
      | exact ih0 _ _
      | exact ih1 _
      | exact ih2 _ _
      | exact LeO.none _
      | refine LeO.ite ?_ ?_
      | refine LeO.bind ?_ (fun _ => ?_)
    · intro y0
      unfold schismaref05_integer.j1
      repeat' first
      | (with_reducible exact ih0 _ _)
      | (with_reducible exact ih1 _)
      | (with_reducible exact ih2 _ _)
      | (with_reducible exact LeO.refl _)
      | (with_reducible exact LeO.none _)
      | (with_reducible refine LeO.ite ?_ ?_)
      | (with_reducible refine LeO.bind ?_ (fun _ => ?_))
      | exact ih0 _ _
      | exact ih1 _
      | exact ih2 _ _
      | exact LeO.none _
      | refine LeO.ite ?_ ?_
      | refine LeO.bind ?_ (fun _ => ?_)
    · intro y0 y1
      unfold schismaref05_integer.l0
      repeat' first
      | (with_reducible exact ih0 _ _)
      | (with_reducible exact ih1 _)
      | (with_reducible exact ih2 _ _)
      | (with_reducible exact LeO.refl _)
      | (with_reducible exact LeO.none _)
      | (with_reducible refine LeO.ite ?_ ?_)
      | (with_reducible refine LeO.bind ?_ (fun _ => ?_))
      | exact ih0 _ _
      | exact ih1 _
      | exact ih2 _ _
      | exact LeO.none _
      | refine LeO.ite ?_ ?_
      | refine LeO.bind ?_ (fun _ => ?_)
theorem schismaref05_integer.mono : ∀ a0 k, LeO (schismaref05_integer.f k a0) (schismaref05_integer.f (k + 1) a0) := by
  intro a0 k
  obtain ⟨ih0, ih1, ih2⟩ := schismaref05_integer.mono_l k
  unfold schismaref05_integer.f
  repeat' first
      | (with_reducible exact ih0 _ _)
      | (with_reducible exact ih1 _)
      | (with_reducible exact ih2 _ _)
      | (with_reducible exact LeO.refl _)
      | (with_reducible exact LeO.none _)
      | (with_reducible refine LeO.ite ?_ ?_)
      | (with_reducible refine LeO.bind ?_ (fun _ => ?_))
      | exact ih0 _ _
      | exact ih1 _
      | exact ih2 _ _
      | exact LeO.none _
      | refine LeO.ite ?_ ?_
      | refine LeO.bind ?_ (fun _ => ?_)
set_option maxHeartbeats 8000000 in
set_option maxRecDepth 100000 in
theorem schismaref05_integer.calls (k : Nat) (a0 : ByteArray) (r : Bool) (w : World) (h : schismaref05_integer.f k a0 = some r) :
    Calls Tryd.prog 80 #[.string a0] w fun e w' => e = .returned (.bool r) ∧ Drawn0 w w' := by
  have H : (if (a0.size : Int) > 1 then (if 0 < (a0.size : Int) then (schismaref05_integer.j0 k a0 ((bt a0 0) == 45)) else (none)) else (schismaref05_integer.j0 k a0 false)) = some r := h
  clear h
  have HC2 := Aside0.mk H
  clear H
  go_enter Tryd.func80, Tryd.ntmps80
  go_upto_region 1 with (fail)
  go_cut [11] (fun v11 wc => ∃ (kq : Nat) (x11_1 : Bool), v11 = .bool x11_1 ∧ Aside0 (schismaref05_integer.j0 kq a0 x11_1 = some r) ∧ Aside0 (kq ≤ k) ∧ Drawn0 w wc)
  case first =>
    have H := HC2.out
    clear HC2
    by_cases c3 : (a0.size : Int) > 1
    · rw [if_pos c3] at H
      have c3b0 : decide (1 < (a0.size : Int)) = true := decide_eq_true c3
      have c3b1 : decide (1 < a0.size) = true := decide_eq_true (by omega)
      clear c3
      (first | rw [c3b0] | (simp only [i64_w, i32_w]; rw [c3b0]) | skip)
      by_cases c4 : 0 < (a0.size : Int)
      · rw [if_pos c4] at H
        have c4b0 : decide (0 < (a0.size : Int)) = true := decide_eq_true c4
        have c4b1 : decide (0 < a0.size) = true := decide_eq_true (by omega)
        clear c4
        have H' := Aside0.mk H
        clear H
        have p5 : 0 ≤ (0 : Int) := (by omega)
        have q5 : 0 < a0.size := (by have : (0 : Int) < (a0.size : Int) := of_decide_eq_true (by first | (with_reducible assumption) | assumption); omega)
        have hx5 : ∀ h : 0 < a0.size, ((a0[0]'h).toNat : Int) = bt a0 0 := bt_at a0 0
        clear p5
        have qi5 : (0 < (a0.size : Int)) = True := eq_true (of_decide_eq_true (by first | (with_reducible assumption) | assumption))
        replace q5 := eq_true q5
        go_wp2
        go_meet
        case rel => exact ⟨_, (((bt a0 0) == 45)), (by first | rfl | (simp; done) | (simp [*]; done)), H', ⟨by first | omega | exact Nat.le_refl _⟩, by repeat (first | exact Drawn0.refl _ | apply Drawn0.step)⟩
      · rw [if_neg c4] at H
        exact absurd H (by simp)
    · rw [if_neg c3] at H
      have c3b0 : decide (1 < (a0.size : Int)) = false := decide_eq_false c3
      have c3b1 : decide (1 < a0.size) = false := decide_eq_false (by omega)
      clear c3
      (first | rw [c3b0] | (simp only [i64_w, i32_w]; rw [c3b0]) | skip)
      have H' := Aside0.mk H
      clear H
      go_wp2
      go_meet
      case rel => exact ⟨_, (false), (by first | rfl | (simp; done) | (simp [*]; done)), H', ⟨by first | omega | exact Nat.le_refl _⟩, by repeat (first | exact Drawn0.refl _ | apply Drawn0.step)⟩
  case rest =>
    clear HC2
    try clear p2
    try clear c3
    try clear c3b0
    try clear c3b1
    try clear c4
    try clear c4b0
    try clear c4b1
    try clear p5
    try clear q5
    try clear hx5
    try clear qi5
    try clear p5
    try clear q5
    obtain ⟨kq, x11_1, rfl, HA, HJ1, ⟨mc1, rfl⟩⟩ := hcut
    cases kq with
    | zero => exact absurd HA.out (by simp [schismaref05_integer.j0])
    | succ kj1 =>
      have H := HA.out
      clear HA
      simp only [schismaref05_integer.j0] at H
      have HC6 := Aside0.mk H
      clear H
      go_upto_if 11 with (fail)
      go_cut [0] (fun v0 wc => ∃ (kq : Nat) (x0_5 : ByteArray), v0 = .string x0_5 ∧ Aside0 (schismaref05_integer.j1 kq x0_5 = some r) ∧ Aside0 (kq ≤ kj1) ∧ Drawn0 w wc)
      case first =>
        have H := HC6.out
        clear HC6
        by_cases c7 : x11_1 = true
        · subst c7
          have H1 : (if 1 ≤ (a0.size : Int) then (if 0 < ((a0.extract 1 a0.size).size : Int) then (if (bt (a0.extract 1 a0.size) 0) = 48 then (some false) else (schismaref05_integer.j1 kj1 (a0.extract 1 a0.size))) else (none)) else (none)) = some r := by rw [if_pos rfl] at H; exact H
          clear H
          have H := H1
          clear H1
          by_cases c8 : 1 ≤ (a0.size : Int)
          · rw [if_pos c8] at H
            have c8b0 := eq_true c8
            have c8b1 : decide (1 ≤ (a0.size : Int)) = true := decide_eq_true c8
            clear c8
            by_cases c9 : 0 < ((a0.extract 1 a0.size).size : Int)
            · rw [if_pos c9] at H
              have c9b0 : decide (0 < ((a0.extract 1 a0.size).size : Int)) = true := decide_eq_true c9
              have c9b1 : decide (0 < (a0.extract 1 a0.size).size) = true := decide_eq_true (by omega)
              have c9b9 : 0 < a0.size - 1 := by have z_ := c9; rw [ByteArray.size_extract] at z_; omega
              have c9b8 : decide (0 < a0.size - 1) = true := decide_eq_true c9b9
              clear c9
              (first | rw [c9b0] | (simp only [i64_w, i32_w]; rw [c9b0]) | skip)
              by_cases c11 : (bt (a0.extract 1 a0.size) 0) = 48
              · rw [if_pos c11] at H
                have c11b0 : ((bt (a0.extract 1 a0.size) 0) == 48) = true := beq_iff_eq.mpr c11
                have c11b1 : ((bt (a0.extract 1 a0.size) 0) != 48) = false := bne_eq_false_iff_eq.mpr c11
                clear c11
                obtain rfl := Option.some.inj H
                have p10 : 0 ≤ (0 : Int) := (by omega)
                have q10 : 0 < (a0.extract 1 a0.size).size := (by have : (0 : Int) < ((a0.extract 1 a0.size).size : Int) := of_decide_eq_true (by first | (with_reducible assumption) | assumption); omega)
                have hx10 : ∀ h : 0 < (a0.extract 1 a0.size).size, (((a0.extract 1 a0.size)[0]'h).toNat : Int) = bt (a0.extract 1 a0.size) 0 := bt_at (a0.extract 1 a0.size) 0
                clear p10
                have qi10 : (0 < ((a0.extract 1 a0.size).size : Int)) = True := eq_true (of_decide_eq_true (by first | (with_reducible assumption) | assumption))
                replace q10 := eq_true q10
                go_wp2
                go_ret
                exact ⟨by first | rfl | (simp; done) | (simp [*]; done), by repeat (first | exact Drawn0.refl _ | apply Drawn0.step)⟩
              · rw [if_neg c11] at H
                have c11b0 : ((bt (a0.extract 1 a0.size) 0) == 48) = false := beq_eq_false_iff_ne.mpr c11
                have c11b1 : ((bt (a0.extract 1 a0.size) 0) != 48) = true := bne_iff_ne.mpr c11
                have H' := Aside0.mk H
                clear H
                have p10 : 0 ≤ (0 : Int) := (by omega)
                have q10 : 0 < (a0.extract 1 a0.size).size := (by have : (0 : Int) < ((a0.extract 1 a0.size).size : Int) := of_decide_eq_true (by first | (with_reducible assumption) | assumption); omega)
                have hx10 : ∀ h : 0 < (a0.extract 1 a0.size).size, (((a0.extract 1 a0.size)[0]'h).toNat : Int) = bt (a0.extract 1 a0.size) 0 := bt_at (a0.extract 1 a0.size) 0
                clear p10
                have qi10 : (0 < ((a0.extract 1 a0.size).size : Int)) = True := eq_true (of_decide_eq_true (by first | (with_reducible assumption) | assumption))
                replace q10 := eq_true q10
                go_wp2
                go_meet
                case rel => exact ⟨_, (a0.extract 1 a0.size), (by first | rfl | (simp; done) | (simp [*]; done)), H', ⟨by have := HJ1.out; first | omega | exact Nat.le_refl _⟩, by repeat (first | exact Drawn0.refl _ | apply Drawn0.step)⟩
            · rw [if_neg c9] at H
              exact absurd H (by simp)
          · rw [if_neg c8] at H
            exact absurd H (by simp)
        · replace c7 := Bool.eq_false_iff.mpr c7
          subst c7
          have H1 : (schismaref05_integer.j1 kj1 a0) = some r := by rw [if_neg (show ¬ (false = true) by decide)] at H; exact H
          clear H
          have H := H1
          clear H1
          have H' := Aside0.mk H
          clear H
          go_wp2
          go_meet
          case rel => exact ⟨_, (a0), (by first | rfl | (simp; done) | (simp [*]; done)), H', ⟨by have := HJ1.out; first | omega | exact Nat.le_refl _⟩, by repeat (first | exact Drawn0.refl _ | apply Drawn0.step)⟩
      case rest =>
        clear HC6
        try clear c1
        try clear p1
        try clear q1
        try clear hx1
        try clear qi1
        try clear p2
        try clear c3
        try clear c3b0
        try clear c3b1
        try clear c4
        try clear c4b0
        try clear c4b1
        try clear p5
        try clear q5
        try clear hx5
        try clear qi5
        try clear c7
        try clear c8
        try clear c8b0
        try clear c8b1
        try clear c9
        try clear c9b0
        try clear c9b1
        try clear p10
        try clear q10
        try clear hx10
        try clear qi10
        try clear c11
        try clear c11b0
        try clear c11b1
        try clear p10
        try clear p2
        try clear p5
        try clear q10
        try clear q5
        obtain ⟨kq, x0_5, rfl, HA, HJ5, ⟨mc5, rfl⟩⟩ := hcut
        cases kq with
        | zero => exact absurd HA.out (by simp [schismaref05_integer.j1])
        | succ kj5 =>
          have H := HA.out
          clear HA
          simp only [schismaref05_integer.j1] at H
          have H' := Aside0.mk H
          clear H
          go_wp2
          go_loopg [3] kj5 (fun kq v3 w' => ∃ (x3_3 : Int), v3 = .int .i64 x3_3 ∧ Aside0 (schismaref05_integer.l0 kq x0_5 x3_3 = some r) ∧ Aside0 (kq ≤ kj5) ∧ Drawn0 w w')
          case atStart => exact ⟨(0), (by first | rfl | (simp; done) | (simp [*]; done)), H', ⟨Nat.le_refl _⟩, by repeat (first | exact Drawn0.refl _ | apply Drawn0.step)⟩
          case round =>
            clear H'
            try clear c1
            try clear p1
            try clear q1
            try clear hx1
            try clear qi1
            try clear p2
            try clear c3
            try clear c3b0
            try clear c3b1
            try clear c4
            try clear c4b0
            try clear c4b1
            try clear c5
            try clear p5
            try clear q5
            try clear hx5
            try clear qi5
            try clear c7
            try clear c8
            try clear c8b0
            try clear c8b1
            try clear c9
            try clear c9b0
            try clear c9b1
            try clear p10
            try clear q10
            try clear hx10
            try clear qi10
            try clear c11
            try clear c11b0
            try clear c11b1
            try clear p1
            try clear p10
            try clear p2
            try clear p5
            try clear q1
            try clear q10
            try clear q5
            obtain ⟨x3_3, rfl, HA, HK3, ⟨m3, rfl⟩⟩ := hrel
            cases gk with
            | zero => exact absurd HA.out (by simp [schismaref05_integer.l0])
            | succ k3 =>
              have H := HA.out
              clear HA
              simp only [schismaref05_integer.l0] at H
              by_cases c12 : x3_3 < (x0_5.size : Int)
              · rw [if_pos c12] at H
                have c12b0 : decide (x3_3 < (x0_5.size : Int)) = true := decide_eq_true c12
                clear c12
                by_cases c13 : 0 ≤ x3_3
                · rw [if_pos c13] at H
                  have c13b0 : decide (0 ≤ x3_3) = true := decide_eq_true c13
                  clear c13
                  by_cases c15 : (bt x0_5 x3_3) < 48
                  · rw [if_pos c15] at H
                    have c15b0 : decide ((bt x0_5 x3_3) < 48) = true := decide_eq_true c15
                    clear c15
                    obtain rfl := Option.some.inj H
                    have p14 : 0 ≤ (x3_3 : Int) := of_decide_eq_true (by first | (with_reducible assumption) | assumption)
                    have q14 : x3_3 < (x0_5.size : Int) := of_decide_eq_true (by first | (with_reducible assumption) | assumption)
                    have hx14 := bt_at x0_5 x3_3
                    replace p14 := eq_true p14
                    replace q14 := eq_true q14
                    go_wp2
                    go_ret
                    exact ⟨by first | rfl | (simp; done) | (simp [*]; done), by repeat (first | exact Drawn0.refl _ | apply Drawn0.step)⟩
                  · rw [if_neg c15] at H
                    have c15b0 : decide ((bt x0_5 x3_3) < 48) = false := decide_eq_false c15
                    clear c15
                    by_cases c17 : (bt x0_5 x3_3) > 57
                    · rw [if_pos c17] at H
                      have c17b0 : decide (57 < (bt x0_5 x3_3)) = true := decide_eq_true c17
                      clear c17
                      obtain rfl := Option.some.inj H
                      have p14 : 0 ≤ (x3_3 : Int) := of_decide_eq_true (by first | (with_reducible assumption) | assumption)
                      have q14 : x3_3 < (x0_5.size : Int) := of_decide_eq_true (by first | (with_reducible assumption) | assumption)
                      have hx14 := bt_at x0_5 x3_3
                      replace p14 := eq_true p14
                      replace q14 := eq_true q14
                      have p16 : 0 ≤ (x3_3 : Int) := of_decide_eq_true (by first | (with_reducible assumption) | assumption)
                      have q16 : x3_3 < (x0_5.size : Int) := of_decide_eq_true (by first | (with_reducible assumption) | assumption)
                      have hx16 := bt_at x0_5 x3_3
                      replace p16 := eq_true p16
                      replace q16 := eq_true q16
                      go_wp2
                      go_ret
                      exact ⟨by first | rfl | (simp; done) | (simp [*]; done), by repeat (first | exact Drawn0.refl _ | apply Drawn0.step)⟩
                    · rw [if_neg c17] at H
                      have c17b0 : decide (57 < (bt x0_5 x3_3)) = false := decide_eq_false c17
                      clear c17
                      have H' := Aside0.mk H
                      clear H
                      have p14 : 0 ≤ (x3_3 : Int) := of_decide_eq_true (by first | (with_reducible assumption) | assumption)
                      have q14 : x3_3 < (x0_5.size : Int) := of_decide_eq_true (by first | (with_reducible assumption) | assumption)
                      have hx14 := bt_at x0_5 x3_3
                      replace p14 := eq_true p14
                      replace q14 := eq_true q14
                      have p16 : 0 ≤ (x3_3 : Int) := of_decide_eq_true (by first | (with_reducible assumption) | assumption)
                      have q16 : x3_3 < (x0_5.size : Int) := of_decide_eq_true (by first | (with_reducible assumption) | assumption)
                      have hx16 := bt_at x0_5 x3_3
                      replace p16 := eq_true p16
                      replace q16 := eq_true q16
                      go_wp2
                      go_roundg k3
                      case measure => have := HJ1.out; have := HJ5.out; have := HK3.out; omega
                      case rel => exact ⟨(wrap64 (x3_3 + 1)), (by first | rfl | (simp; done) | (simp [*]; done)), H', ⟨by have := HJ1.out; have := HJ5.out; have := HK3.out; omega⟩, by repeat (first | exact Drawn0.refl _ | apply Drawn0.step)⟩
                · rw [if_neg c13] at H
                  exact absurd H (by simp)
              · rw [if_neg c12] at H
                have c12b0 : decide (x3_3 < (x0_5.size : Int)) = false := decide_eq_false c12
                clear c12
                by_cases c18 : (x0_5.size : Int) = 1
                · rw [if_pos c18] at H
                  have c18b0 : ((x0_5.size : Int) == 1) = true := beq_iff_eq.mpr c18
                  have c18b1 : ((x0_5.size : Int) != 1) = false := bne_eq_false_iff_eq.mpr c18
                  clear c18
                  obtain rfl := Option.some.inj H
                  go_wp2
                  go_ret
                  exact ⟨by first | rfl | (simp; done) | (simp [*]; done), by repeat (first | exact Drawn0.refl _ | apply Drawn0.step)⟩
                · rw [if_neg c18] at H
                  have c18b0 : ((x0_5.size : Int) == 1) = false := beq_eq_false_iff_ne.mpr c18
                  have c18b1 : ((x0_5.size : Int) != 1) = true := bne_iff_ne.mpr c18
                  by_cases c19 : (x0_5.size : Int) > 1
                  · rw [if_pos c19] at H
                    have c19b0 : decide (1 < (x0_5.size : Int)) = true := decide_eq_true c19
                    have c19b1 : decide (1 < x0_5.size) = true := decide_eq_true (by omega)
                    clear c19
                    by_cases c20 : 0 < (x0_5.size : Int)
                    · rw [if_pos c20] at H
                      have c20b0 : decide (0 < (x0_5.size : Int)) = true := decide_eq_true c20
                      have c20b1 : decide (0 < x0_5.size) = true := decide_eq_true (by omega)
                      clear c20
                      obtain rfl := Option.some.inj H
                      have p21 : 0 ≤ (0 : Int) := (by omega)
                      have q21 : 0 < x0_5.size := (by have : (0 : Int) < (x0_5.size : Int) := of_decide_eq_true (by first | (with_reducible assumption) | assumption); omega)
                      have hx21 : ∀ h : 0 < x0_5.size, ((x0_5[0]'h).toNat : Int) = bt x0_5 0 := bt_at x0_5 0
                      clear p21
                      have qi21 : (0 < (x0_5.size : Int)) = True := eq_true (of_decide_eq_true (by first | (with_reducible assumption) | assumption))
                      replace q21 := eq_true q21
                      go_wp2
                      go_ret
                      exact ⟨by first | rfl | (simp; done) | (simp [*]; done), by repeat (first | exact Drawn0.refl _ | apply Drawn0.step)⟩
                    · rw [if_neg c20] at H
                      exact absurd H (by simp)
                  · rw [if_neg c19] at H
                    have c19b0 : decide (1 < (x0_5.size : Int)) = false := decide_eq_false c19
                    have c19b1 : decide (1 < x0_5.size) = false := decide_eq_false (by omega)
                    clear c19
                    obtain rfl := Option.some.inj H
                    go_wp2
                    go_ret
                    exact ⟨by first | rfl | (simp; done) | (simp [*]; done), by repeat (first | exact Drawn0.refl _ | apply Drawn0.step)⟩

end Go.Proofs.YtpbbekbdpodedaaDoor.PR
